/- Lean functions that answer as the Go functions do, and the proofs that they do; no conditions. Written by this session's own driver: a scratch copy of the kit's print with the session's additions (wip/xprint). -/
import Derived.Test.YtmolbbebglfhmaaAx0
import Derived.Test.YtmolbbebglfhmaaAx3
import Derived.Test.YtmolbbebglfhmaaAx6
import Derived.Test.YtmolbbebglfhmaaAx7
import Derived.Test.YtmolbbebglfhmaaAx10
import Derived.Test.YtmolbbebglfhmaaAx11
import Derived.Test.YtmolbbebglfhmaaAx13
import Derived.Test.YtmolbbebglfhmaaAx16
namespace Go.Proofs.Ytmolbbebglfhmaa.A
open Go.RowKit Go.Proofs.YtmolbbebglfhmaaW.PrintWords Go.Proofs.YtmolbbebglfhmaaW.PrintLast Go.Proofs.YtmolbbebglfhmaaW.PrintMore
attribute [local go_sem] max2_int min2_int max_two min_two max_three min_three max_four min_four
set_option linter.unusedVariables false
set_option linter.unusedSimpArgs false
def L5_0 : Array Bool := #[false, false, false, false, false, false, false, false, false, false, false, false, false, false, false, false, false, false, false, false, false, false, false, false, false, false, false, false, false, false, false]
def L5_1 : Array Bool := #[true, false, false, false, false, false, false, false, false, false, false, false, false, false, false, false, false, false, false, false, false, false, false, false, false, false, false, false, false, false, false]
def L5_2 : Array Bool := #[true, true, false, false, false, false, false, false, false, false, false, false, false, false, false, false, false, false, false, false, false, false, false, false, false, false, false, false, false, false, false]
def L5_3 : Array Bool := #[true, true, true, false, false, false, false, false, false, false, false, false, false, false, false, false, false, false, false, false, false, false, false, false, false, false, false, false, false, false, false]
def L5_4 : Array Bool := #[true, true, true, true, false, false, false, false, false, false, false, false, false, false, false, false, false, false, false, false, false, false, false, false, false, false, false, false, false, false, false]
def L5_5 : Array Bool := #[true, true, true, true, true, true, true, true, true, true, true, true, true, true, true, true, true, true, true, true, true, true, true, true, true, true, true, true, false, false, false]
def L5_6 : Array Bool := #[true, true, true, true, true, true, true, true, true, true, true, true, true, true, true, true, true, true, true, true, true, true, true, true, true, true, true, true, true, false, false]
def L5_7 : Array Bool := #[true, true, true, true, true, true, true, true, true, true, true, true, true, true, true, true, true, true, true, true, true, true, true, true, true, true, true, true, true, true, false]
def L5_8 : Array Bool := #[true, true, true, true, true, true, true, true, true, true, true, true, true, true, true, true, true, true, true, true, true, true, true, true, true, true, true, true, true, true, true]
def L5_9 : Array Bool := #[true, true, true, true, true, false, false, false, false, false, false, false, false, false, false, false, false, false, false, false, false, false, false, false, false, false, false, false, false, false, false]
def L5_10 : Array Bool := #[true, true, true, true, true, true, false, false, false, false, false, false, false, false, false, false, false, false, false, false, false, false, false, false, false, false, false, false, false, false, false]
def L5_11 : Array Bool := #[true, true, true, true, true, true, true, false, false, false, false, false, false, false, false, false, false, false, false, false, false, false, false, false, false, false, false, false, false, false, false]
def L5_12 : Array Bool := #[true, true, true, true, true, true, true, true, false, false, false, false, false, false, false, false, false, false, false, false, false, false, false, false, false, false, false, false, false, false, false]
def L5_13 : Array Bool := #[true, true, true, true, true, true, true, true, true, false, false, false, false, false, false, false, false, false, false, false, false, false, false, false, false, false, false, false, false, false, false]
def L5_14 : Array Bool := #[true, true, true, true, true, true, true, true, true, true, false, false, false, false, false, false, false, false, false, false, false, false, false, false, false, false, false, false, false, false, false]
def L5_15 : Array Bool := #[true, true, true, true, true, true, true, true, true, true, true, false, false, false, false, false, false, false, false, false, false, false, false, false, false, false, false, false, false, false, false]
def L5_16 : Array Bool := #[true, true, true, true, true, true, true, true, true, true, true, true, false, false, false, false, false, false, false, false, false, false, false, false, false, false, false, false, false, false, false]
def L5_17 : Array Bool := #[true, true, true, true, true, true, true, true, true, true, true, true, false, true, false, false, false, false, false, false, false, false, false, false, false, false, false, false, false, false, false]
def L5_18 : Array Bool := #[true, true, true, true, true, true, true, true, true, true, true, true, true, true, false, false, false, false, false, false, false, false, false, false, false, false, false, false, false, false, false]
def L5_19 : Array Bool := #[true, true, true, true, true, true, true, true, true, true, true, true, true, true, true, false, false, false, false, false, false, false, false, false, false, false, false, false, false, false, false]
def L5_20 : Array Bool := #[true, true, true, true, true, true, true, true, true, true, true, true, true, true, true, true, false, false, false, false, false, false, false, false, false, false, false, false, false, false, false]
def L5_21 : Array Bool := #[true, true, true, true, true, true, true, true, true, true, true, true, true, true, true, true, true, false, false, false, false, false, false, false, false, false, false, false, false, false, false]
def L5_22 : Array Bool := #[true, true, true, true, true, true, true, true, true, true, true, true, true, true, true, true, true, true, false, false, false, false, false, false, false, false, false, false, false, false, false]
def L5_23 : Array Bool := #[true, true, true, true, true, true, true, true, true, true, true, true, true, true, true, true, true, true, false, true, false, false, false, false, false, false, false, false, false, false, false]
def L5_24 : Array Bool := #[true, true, true, true, true, true, true, true, true, true, true, true, true, true, true, true, true, true, false, true, false, false, false, true, false, false, false, false, false, false, false]
def L5_25 : Array Bool := #[true, true, true, true, true, true, true, true, true, true, true, true, true, true, true, true, true, true, true, true, false, false, false, true, false, false, false, false, false, false, false]
def L5_26 : Array Bool := #[true, true, true, true, true, true, true, true, true, true, true, true, true, true, true, true, true, true, true, true, true, false, false, true, false, false, false, false, false, false, false]
def L5_27 : Array Bool := #[true, true, true, true, true, true, true, true, true, true, true, true, true, true, true, true, true, true, true, true, true, false, true, true, false, false, false, false, false, false, false]
def L5_28 : Array Bool := #[true, true, true, true, true, true, true, true, true, true, true, true, true, true, true, true, true, true, true, true, true, false, true, true, true, false, false, false, false, false, false]
def L5_29 : Array Bool := #[true, true, true, true, true, true, true, true, true, true, true, true, true, true, true, true, true, true, true, true, true, true, true, true, true, false, false, false, false, false, false]
def L5_30 : Array Bool := #[true, true, true, true, true, true, true, true, true, true, true, true, true, true, true, true, true, true, true, true, true, true, true, true, true, true, false, false, false, false, false]
def L5_31 : Array Bool := #[true, true, true, true, true, true, true, true, true, true, true, true, true, true, true, true, true, true, true, true, true, true, true, true, true, true, true, false, false, false, false]
mutual
def fullerlaw18_StoreApart.j0 : Nat → Int → Bool → Bool → List (List (S74)) → Int → List Int → Int → List Int → List Int → Int → List Int → List Int → Option (Bool)
 | 0, _, _, _, _, _, _, _, _, _, _, _, _ => none
 | k + 1, x1, x9, x34, x464000, x464001, x464002, x465000, x465001, x465002, x466000, x466001, x466002 => if x34 = true then (some x9) else ((store_Commit.f k x464000 x464001 x464002 x1 ([] : List Int) (([(⟨x465000, (⟨x465001, x465002⟩ : S37)⟩ : S42)] : List (S42)))).bind fun bt476 => ((store_Commit.f k x464000 x464001 x464002 x1 ([] : List Int) (([(⟨x466000, (⟨x466001, x466002⟩ : S37)⟩ : S42)] : List (S42)))).bind fun bt488 => ((store_Commit.f k bt476.1 bt476.2.1 bt476.2.2.1 x1 ([] : List Int) (([(⟨x466000, (⟨x466001, x466002⟩ : S37)⟩ : S42)] : List (S42)))).bind fun bt500 => ((store_Commit.f k bt488.1 bt488.2.1 bt488.2.2.1 x1 ([] : List Int) (([(⟨x465000, (⟨x465001, x465002⟩ : S37)⟩ : S42)] : List (S42)))).bind fun bt512 => (if bt476.2.2.2 = 0 then (fullerlaw18_StoreApart.j1 k x9 bt476.2.2.2 bt500.2.2.2 bt512.2.2.2 (bt488.2.2.2 != 0) x464000 x464001 x464002 x465000 x465001 x465002 x466000 x466001 x466002 bt476.1 bt476.2.1 bt476.2.2.1 bt500.1 bt500.2.1 bt500.2.2.1 bt512.1 bt512.2.1 bt512.2.2.1) else (fullerlaw18_StoreApart.j1 k x9 bt476.2.2.2 bt500.2.2.2 bt512.2.2.2 true x464000 x464001 x464002 x465000 x465001 x465002 x466000 x466001 x466002 bt476.1 bt476.2.1 bt476.2.2.1 bt500.1 bt500.2.1 bt500.2.2.1 bt512.1 bt512.2.1 bt512.2.2.1))))))
def fullerlaw18_StoreApart.j1 : Nat → Bool → Int → Int → Int → Bool → List (List (S74)) → Int → List Int → Int → List Int → List Int → Int → List Int → List Int → List (List (S74)) → Int → List Int → List (List (S74)) → Int → List Int → List (List (S74)) → Int → List Int → Option (Bool)
 | 0, _, _, _, _, _, _, _, _, _, _, _, _, _, _, _, _, _, _, _, _, _, _, _ => none
 | k + 1, x9, x11, x15, x17, x73, x464000, x464001, x464002, x465000, x465001, x465002, x466000, x466001, x466002, x485000, x485001, x485002, x509000, x509001, x509002, x521000, x521001, x521002 => if x73 = true then (if x9 = true then (if x11 = 0 then (some true) else ((fullerref18_Same.f k x485000 x485001 x485002 x464000 x464001 x464002).bind fun t521 => (some t521))) else (some false)) else (if x465000 = x466000 then (if x9 = true then (if (wrap64 (x464001 + 2)) > 1099511627776 then (some true) else (if x15 = 181 then (some (x17 == 181)) else (some false))) else (some false)) else (if x9 = true then (if (wrap64 (x464001 + 2)) > 1099511627776 then (some true) else (if x15 = 0 then (if x17 = 0 then (if x509001 = x521001 then ((store_All.f k x509000 x509001 x509002 x509001).bind fun t522 => ((store_All.f k x521000 x521001 x521002 x521001).bind fun t525 => ((fullerref09_Same.f k t522 t525).bind fun t528 => (some t528)))) else (some false)) else (some false)) else (some false))) else (some false)))
end
def fullerlaw18_StoreApart.f (k : Nat) (l0_0 : List (List (S74))) (a0_1 : Int) (l0_2 : List Int) (a1 : Int) (a2_0 : Int) (l2_1 : List Int) (l2_2 : List Int) (a3_0 : Int) (l3_1 : List Int) (l3_2 : List Int) : Option (Bool) := (fullerlaw18_awake.f k).bind fun t466 => ((fullerref18_Few.f k l0_0 a0_1 l0_2).bind fun t467 => (if t467 = true then ((fullerref18_Writes.f k (([(⟨a2_0, (⟨l2_1, l2_2⟩ : S37)⟩ : S42), (⟨a3_0, (⟨l3_1, l3_2⟩ : S37)⟩ : S42)] : List (S42))) 2).bind fun t471 => (if t471 = true then ((store_Check.f k l0_0 a0_1 l0_2).bind fun t472 => (fullerlaw18_StoreApart.j0 k a1 t466 (!t472) l0_0 a0_1 l0_2 a2_0 l2_1 l2_2 a3_0 l3_1 l3_2)) else (fullerlaw18_StoreApart.j0 k a1 t466 true l0_0 a0_1 l0_2 a2_0 l2_1 l2_2 a3_0 l3_1 l3_2))) else (fullerlaw18_StoreApart.j0 k a1 t466 true l0_0 a0_1 l0_2 a2_0 l2_1 l2_2 a3_0 l3_1 l3_2)))
def fullerlaw18_StoreApart.T13 : Bool × List (List Nat × List Nat) := (true, [([], []), ([0], [0]), ([1], [1]), ([2, 1, 1], [1, 2]), ([3], [3]), ([4, 3], [3, 4]), ([5, 3, 3], [3, 5]), ([6], [6]), ([7, 6], [6, 7]), ([6, 8, 3], [3, 6, 8]), ([9, 6, 3], [3, 9]), ([10], [10]), ([11, 10], [10, 11]), ([10], [10]), ([13, 10], [10, 13]), ([12, 14, 10], [10, 12, 14]), ([10, 15, 3], [3, 10, 15]), ([16, 10, 3], [3, 16]), ([17], [17]), ([17], [17]), ([19, 17], [17, 19]), ([18, 20, 17, 17], [17, 18, 20]), ([17], [17]), ([17], [17]), ([23, 17], [17, 23]), ([22, 24, 21, 17], [17, 22, 24]), ([21, 25, 25, 17], [17, 21, 25]), ([17, 26, 3], [3, 17, 26]), ([3, 27, 1], [1, 3, 27]), ([1, 28], [1, 28]), ([29, 26, 0, 1, 2, 3, 4, 5, 6, 7, 8, 9, 10, 11, 12, 13, 14, 15, 16, 17, 18, 19, 20, 21, 22, 23, 24, 25, 26, 27, 28, 29], [29])])
def fullerlaw18_StoreApart.B13 : List Nat := [0, 1, 3, 7, 15, 31, 63, 127, 255, 511, 1023, 2047, 4095, 2047, 10239, 32767, 65535, 131071, 262143, 262143, 786431, 2097151, 262143, 262143, 8650751, 33554431, 67108863, 134217727, 268435455, 536870911, 1073741823]
theorem fullerlaw18_StoreApart.tab13 : rtab .any (opsOf Try.f5 13) = fullerlaw18_StoreApart.T13 := by kernel_rfl
theorem fullerlaw18_StoreApart.bits13 : waitsOk fullerlaw18_StoreApart.T13.2 fullerlaw18_StoreApart.B13 = true := by kernel_rfl
set_option maxHeartbeats 8000000 in
set_option maxRecDepth 100000 in
theorem fullerlaw18_StoreApart.calls (k : Nat) (P0_0_ : Nat → Prop) (A0_0 : Option Addr) (c0_0 : Nat) (l0_0 : List (List (S74))) (a0_1 : Int) (P0_2_ : Nat → Prop) (A0_2 : Option Addr) (c0_2 : Nat) (l0_2 : List Int) (a1 : Int) (a2_0 : Int) (P2_1_ : Nat → Prop) (A2_1 : Option Addr) (c2_1 : Nat) (l2_1 : List Int) (P2_2_ : Nat → Prop) (A2_2 : Option Addr) (c2_2 : Nat) (l2_2 : List Int) (a3_0 : Int) (P3_1_ : Nat → Prop) (A3_1 : Option Addr) (c3_1 : Nat) (l3_1 : List Int) (P3_2_ : Nat → Prop) (A3_2 : Option Addr) (c3_2 : Nat) (l3_2 : List Int) (r : Bool) (w : World) (hs0_0 : Kd.V (Kd.slice 74 k74) 54 w w.heap.size (fun k_ => P0_0_ k_) (.slice A0_0 l0_0.length c0_0) l0_0) (hs0_2 : Kd.V (Kd.int .i64) 3 w w.heap.size (fun k_ => P0_2_ k_) (.slice A0_2 l0_2.length c0_2) l0_2) (hs2_1 : Kd.V (Kd.int .i64) 3 w w.heap.size (fun k_ => P2_1_ k_) (.slice A2_1 l2_1.length c2_1) l2_1) (hs2_2 : Kd.V (Kd.int .i64) 3 w w.heap.size (fun k_ => P2_2_ k_) (.slice A2_2 l2_2.length c2_2) l2_2) (hs3_1 : Kd.V (Kd.int .i64) 3 w w.heap.size (fun k_ => P3_1_ k_) (.slice A3_1 l3_1.length c3_1) l3_1) (hs3_2 : Kd.V (Kd.int .i64) 3 w w.heap.size (fun k_ => P3_2_ k_) (.slice A3_2 l3_2.length c3_2) l3_2) (h : fullerlaw18_StoreApart.f k l0_0 a0_1 l0_2 a1 a2_0 l2_1 l2_2 a3_0 l3_1 l3_2 = some r) :
  Calls Try.prog 5 #[.agg #[.slice A0_0 l0_0.length c0_0, .int .i64 a0_1, .slice A0_2 l0_2.length c0_2], .int .i64 a1, .agg #[.int .i64 a2_0, .slice A2_1 l2_1.length c2_1, .slice A2_2 l2_2.length c2_2], .agg #[.int .i64 a3_0, .slice A3_1 l3_1.length c3_1, .slice A3_2 l3_2.length c3_2]] w fun e w' => e = .returned (.bool r) ∧ Below w.heap.size w w' := by
 have hu25 := Try.underlying25
 have hu42 := Try.underlying42
 have HO0_0 := Aside0.mk (show Kd.V (Kd.slice 74 k74) 54 w w.heap.size (fun k_ => ((P0_0_ k_ ∨ P0_2_ k_ ∨ P2_1_ k_ ∨ P2_2_ k_ ∨ P3_1_ k_ ∨ P3_2_ k_) ∨ w.heap.size ≤ k_)) (.slice A0_0 l0_0.length c0_0) l0_0 from Kd.V_mono hs0_0 (fun k_ hk => .inl (.inl hk)))
 have HO0_2 := Aside0.mk (show Kd.V (Kd.int .i64) 3 w w.heap.size (fun k_ => ((P0_0_ k_ ∨ P0_2_ k_ ∨ P2_1_ k_ ∨ P2_2_ k_ ∨ P3_1_ k_ ∨ P3_2_ k_) ∨ w.heap.size ≤ k_)) (.slice A0_2 l0_2.length c0_2) l0_2 from Kd.V_mono hs0_2 (fun k_ hk => .inl (.inr (.inl hk))))
 have HO2_1 := Aside0.mk (show Kd.V (Kd.int .i64) 3 w w.heap.size (fun k_ => ((P0_0_ k_ ∨ P0_2_ k_ ∨ P2_1_ k_ ∨ P2_2_ k_ ∨ P3_1_ k_ ∨ P3_2_ k_) ∨ w.heap.size ≤ k_)) (.slice A2_1 l2_1.length c2_1) l2_1 from Kd.V_mono hs2_1 (fun k_ hk => .inl (.inr (.inr (.inl hk)))))
 have HO2_2 := Aside0.mk (show Kd.V (Kd.int .i64) 3 w w.heap.size (fun k_ => ((P0_0_ k_ ∨ P0_2_ k_ ∨ P2_1_ k_ ∨ P2_2_ k_ ∨ P3_1_ k_ ∨ P3_2_ k_) ∨ w.heap.size ≤ k_)) (.slice A2_2 l2_2.length c2_2) l2_2 from Kd.V_mono hs2_2 (fun k_ hk => .inl (.inr (.inr (.inr (.inl hk))))))
 have HO3_1 := Aside0.mk (show Kd.V (Kd.int .i64) 3 w w.heap.size (fun k_ => ((P0_0_ k_ ∨ P0_2_ k_ ∨ P2_1_ k_ ∨ P2_2_ k_ ∨ P3_1_ k_ ∨ P3_2_ k_) ∨ w.heap.size ≤ k_)) (.slice A3_1 l3_1.length c3_1) l3_1 from Kd.V_mono hs3_1 (fun k_ hk => .inl (.inr (.inr (.inr (.inr (.inl hk)))))))
 have HO3_2 := Aside0.mk (show Kd.V (Kd.int .i64) 3 w w.heap.size (fun k_ => ((P0_0_ k_ ∨ P0_2_ k_ ∨ P2_1_ k_ ∨ P2_2_ k_ ∨ P3_1_ k_ ∨ P3_2_ k_) ∨ w.heap.size ≤ k_)) (.slice A3_2 l3_2.length c3_2) l3_2 from Kd.V_mono hs3_2 (fun k_ hk => .inl (.inr (.inr (.inr (.inr (.inr hk)))))))
 have HB := Aside0.mk (Below.refl w.heap.size w)
 have H : ((fullerlaw18_awake.f k).bind fun t466 => ((fullerref18_Few.f k l0_0 a0_1 l0_2).bind fun t467 => (if t467 = true then ((fullerref18_Writes.f k (([(⟨a2_0, (⟨l2_1, l2_2⟩ : S37)⟩ : S42), (⟨a3_0, (⟨l3_1, l3_2⟩ : S37)⟩ : S42)] : List (S42))) 2).bind fun t471 => (if t471 = true then ((store_Check.f k l0_0 a0_1 l0_2).bind fun t472 => (fullerlaw18_StoreApart.j0 k a1 t466 (!t472) l0_0 a0_1 l0_2 a2_0 l2_1 l2_2 a3_0 l3_1 l3_2)) else (fullerlaw18_StoreApart.j0 k a1 t466 true l0_0 a0_1 l0_2 a2_0 l2_1 l2_2 a3_0 l3_1 l3_2))) else (fullerlaw18_StoreApart.j0 k a1 t466 true l0_0 a0_1 l0_2 a2_0 l2_1 l2_2 a3_0 l3_1 l3_2)))) = some r := h
 clear h
 replace H := Option.bind_eq_some_iff.mp H
 obtain ⟨t466, A50, H⟩ := H
 replace H : ((fullerref18_Few.f k l0_0 a0_1 l0_2).bind fun t467 => (if t467 = true then ((fullerref18_Writes.f k (([(⟨a2_0, (⟨l2_1, l2_2⟩ : S37)⟩ : S42), (⟨a3_0, (⟨l3_1, l3_2⟩ : S37)⟩ : S42)] : List (S42))) 2).bind fun t471 => (if t471 = true then ((store_Check.f k l0_0 a0_1 l0_2).bind fun t472 => (fullerlaw18_StoreApart.j0 k a1 t466 (!t472) l0_0 a0_1 l0_2 a2_0 l2_1 l2_2 a3_0 l3_1 l3_2)) else (fullerlaw18_StoreApart.j0 k a1 t466 true l0_0 a0_1 l0_2 a2_0 l2_1 l2_2 a3_0 l3_1 l3_2))) else (fullerlaw18_StoreApart.j0 k a1 t466 true l0_0 a0_1 l0_2 a2_0 l2_1 l2_2 a3_0 l3_1 l3_2))) = some r := H
 have A5 := Aside0.mk A50
 clear A50
 have HC6 := Aside0.mk H
 clear H
 go_enter Try.func5, Try.ntmps5
 go_upto_region 2 with (first | ((with_reducible refine gate_dst (N := 4) rfl ?_); (try (refine gate_guard (by rfl) ?_; dsimp only)); refine box_event ?hg (N := 4) ?hd (cs := #[.slice A0_0 l0_0.length c0_0, .int .i64 a0_1, .slice A0_2 l0_2.length c0_2]) (t := 25) ?hr ?_; (case hd => rfl); (case hg => rfl); (case hr => first | (go_simp; done) | (go_simp; rfl)); intro gb463 hg w7 hbox hb; have BK463 := Aside0.mk (hbox); have GW463 := Aside0.mk ((by rw [hg]; exact (below_size (bq0_ HB.out)) : w.heap.size ≤ gb463)); have GE463 := Aside0.mk ((by rw [hg]; exact (below_size (bq0_ HB.out)) : w.heap.size ≤ gb463)); replace HO0_0 := Aside0.mk (Kd.V_below (Kd.V_elderB (mvV_ HO0_0.out) gb463 (Nat.le_of_eq hg.symm)) hb); replace HO0_2 := Aside0.mk (Kd.V_below (Kd.V_elderB (mvV_ HO0_2.out) gb463 (Nat.le_of_eq hg.symm)) hb); replace HO2_1 := Aside0.mk (Kd.V_below (Kd.V_elderB (mvV_ HO2_1.out) gb463 (Nat.le_of_eq hg.symm)) hb); replace HO2_2 := Aside0.mk (Kd.V_below (Kd.V_elderB (mvV_ HO2_2.out) gb463 (Nat.le_of_eq hg.symm)) hb); replace HO3_1 := Aside0.mk (Kd.V_below (Kd.V_elderB (mvV_ HO3_1.out) gb463 (Nat.le_of_eq hg.symm)) hb); replace HO3_2 := Aside0.mk (Kd.V_below (Kd.V_elderB (mvV_ HO3_2.out) gb463 (Nat.le_of_eq hg.symm)) hb); replace HB := Aside0.mk (below_step (bq0_ HB.out) hb); clear hb hbox hg) | ((with_reducible refine gate_dst (N := 6) rfl ?_); (try (refine gate_guard (by rfl) ?_; dsimp only)); refine box_event ?hg (N := 6) ?hd (cs := #[.int .i64 a2_0, .slice A2_1 l2_1.length c2_1, .slice A2_2 l2_2.length c2_2]) (t := 42) ?hr ?_; (case hd => rfl); (case hg => rfl); (case hr => first | (go_simp; done) | (go_simp; rfl)); intro gb464 hg w8 hbox hb; have BK464 := Aside0.mk (hbox); have GW464 := Aside0.mk ((by rw [hg]; exact (below_size (bq1_ HB.out GE463.out)) : w.heap.size ≤ gb464)); have GE464 := Aside0.mk ((by rw [hg]; exact (below_size (bq1_ HB.out GE463.out)) : w.heap.size ≤ gb464)); have NB463_464 := Aside0.mk ((by rw [hg]; exact Nat.ne_of_lt (blk_lt (g := gb463) (o := .cells #[.slice A0_0 l0_0.length c0_0, .int .i64 a0_1, .slice A0_2 l0_2.length c0_2] 25 (0, 0)) (mvK_ BK463.out)) : gb463 ≠ gb464)); have NB464_463 := Aside0.mk ((by rw [hg]; exact Nat.ne_of_gt (blk_lt (g := gb463) (o := .cells #[.slice A0_0 l0_0.length c0_0, .int .i64 a0_1, .slice A0_2 l0_2.length c0_2] 25 (0, 0)) (mvK_ BK463.out)) : gb464 ≠ gb463)); replace HO0_0 := Aside0.mk (Kd.V_below (Kd.V_elderB (mvV_ HO0_0.out) gb464 (Nat.le_of_eq hg.symm)) hb); replace HO0_2 := Aside0.mk (Kd.V_below (Kd.V_elderB (mvV_ HO0_2.out) gb464 (Nat.le_of_eq hg.symm)) hb); replace HO2_1 := Aside0.mk (Kd.V_below (Kd.V_elderB (mvV_ HO2_1.out) gb464 (Nat.le_of_eq hg.symm)) hb); replace HO2_2 := Aside0.mk (Kd.V_below (Kd.V_elderB (mvV_ HO2_2.out) gb464 (Nat.le_of_eq hg.symm)) hb); replace HO3_1 := Aside0.mk (Kd.V_below (Kd.V_elderB (mvV_ HO3_1.out) gb464 (Nat.le_of_eq hg.symm)) hb); replace HO3_2 := Aside0.mk (Kd.V_below (Kd.V_elderB (mvV_ HO3_2.out) gb464 (Nat.le_of_eq hg.symm)) hb); replace BK463 := mvB_ BK463.out hb; replace HB := Aside0.mk (below_step (bq1_ HB.out GE463.out) hb); clear hb hbox hg) | ((with_reducible refine gate_dst (N := 7) rfl ?_); (try (refine gate_guard (by rfl) ?_; dsimp only)); refine box_event ?hg (N := 7) ?hd (cs := #[.int .i64 a3_0, .slice A3_1 l3_1.length c3_1, .slice A3_2 l3_2.length c3_2]) (t := 42) ?hr ?_; (case hd => rfl); (case hg => rfl); (case hr => first | (go_simp; done) | (go_simp; rfl)); intro gb465 hg w9 hbox hb; have BK465 := Aside0.mk (hbox); have GW465 := Aside0.mk ((by rw [hg]; exact (below_size (bq2_ HB.out GE463.out GE464.out)) : w.heap.size ≤ gb465)); have GE465 := Aside0.mk ((by rw [hg]; exact (below_size (bq2_ HB.out GE463.out GE464.out)) : w.heap.size ≤ gb465)); have NB463_465 := Aside0.mk ((by rw [hg]; exact Nat.ne_of_lt (blk_lt (g := gb463) (o := .cells #[.slice A0_0 l0_0.length c0_0, .int .i64 a0_1, .slice A0_2 l0_2.length c0_2] 25 (0, 0)) (mvK_ BK463.out)) : gb463 ≠ gb465)); have NB465_463 := Aside0.mk ((by rw [hg]; exact Nat.ne_of_gt (blk_lt (g := gb463) (o := .cells #[.slice A0_0 l0_0.length c0_0, .int .i64 a0_1, .slice A0_2 l0_2.length c0_2] 25 (0, 0)) (mvK_ BK463.out)) : gb465 ≠ gb463)); have NB464_465 := Aside0.mk ((by rw [hg]; exact Nat.ne_of_lt (blk_lt (g := gb464) (o := .cells #[.int .i64 a2_0, .slice A2_1 l2_1.length c2_1, .slice A2_2 l2_2.length c2_2] 42 (0, 0)) (mvK_ BK464.out)) : gb464 ≠ gb465)); have NB465_464 := Aside0.mk ((by rw [hg]; exact Nat.ne_of_gt (blk_lt (g := gb464) (o := .cells #[.int .i64 a2_0, .slice A2_1 l2_1.length c2_1, .slice A2_2 l2_2.length c2_2] 42 (0, 0)) (mvK_ BK464.out)) : gb465 ≠ gb464)); replace HO0_0 := Aside0.mk (Kd.V_below (Kd.V_elderB (mvV_ HO0_0.out) gb465 (Nat.le_of_eq hg.symm)) hb); replace HO0_2 := Aside0.mk (Kd.V_below (Kd.V_elderB (mvV_ HO0_2.out) gb465 (Nat.le_of_eq hg.symm)) hb); replace HO2_1 := Aside0.mk (Kd.V_below (Kd.V_elderB (mvV_ HO2_1.out) gb465 (Nat.le_of_eq hg.symm)) hb); replace HO2_2 := Aside0.mk (Kd.V_below (Kd.V_elderB (mvV_ HO2_2.out) gb465 (Nat.le_of_eq hg.symm)) hb); replace HO3_1 := Aside0.mk (Kd.V_below (Kd.V_elderB (mvV_ HO3_1.out) gb465 (Nat.le_of_eq hg.symm)) hb); replace HO3_2 := Aside0.mk (Kd.V_below (Kd.V_elderB (mvV_ HO3_2.out) gb465 (Nat.le_of_eq hg.symm)) hb); replace BK463 := mvB_ BK463.out hb; replace BK464 := mvB_ BK464.out hb; replace HB := Aside0.mk (below_step (bq2_ HB.out GE463.out GE464.out) hb); clear hb hbox hg) | ((with_reducible refine gate_callee (f := 6) rfl ?_); refine gL_ (some 19) Try.func6 #[] ?_; (with_reducible refine (fullerlaw18_awake.calls k  t466 _ A5.out).mono ?_); rintro e w10 ⟨rfl, hb⟩; refine ⟨_, rfl, ?_⟩; replace HO0_0 := mbV_ HO0_0.out hb; replace HO0_2 := mbV_ HO0_2.out hb; replace HO2_1 := mbV_ HO2_1.out hb; replace HO2_2 := mbV_ HO2_2.out hb; replace HO3_1 := mbV_ HO3_1.out hb; replace HO3_2 := mbV_ HO3_2.out hb; replace BK463 := mvB_ BK463.out hb; replace BK464 := mvB_ BK464.out hb; replace BK465 := mvB_ BK465.out hb; replace HB := Aside0.mk (below_step (bq3_ HB.out GE463.out GE464.out GE465.out) hb); (try clear hb)))
 (try simp only [Act.put, sA_, sB_, sC_])
 go_cut [34] (fun v34 wc => ∃ (kq : Nat) (x34_5 : Bool), v34 = .bool x34_5 ∧ Aside0 (fullerlaw18_StoreApart.j0 kq a1 t466 x34_5 l0_0 a0_1 l0_2 a2_0 l2_1 l2_2 a3_0 l3_1 l3_2 = some r) ∧ Aside0 (kq ≤ k) ∧ Aside0 (Kd.V (Kd.slice 74 k74) 54 wc w.heap.size (fun k_ => ((P0_0_ k_ ∨ P0_2_ k_ ∨ P2_1_ k_ ∨ P2_2_ k_ ∨ P3_1_ k_ ∨ P3_2_ k_) ∨ w.heap.size ≤ k_) ∧ k_ ≠ gb463 ∧ k_ ≠ gb464 ∧ k_ ≠ gb465) (.slice A0_0 l0_0.length c0_0) l0_0) ∧ Aside0 (Kd.V (Kd.int .i64) 3 wc w.heap.size (fun k_ => ((P0_0_ k_ ∨ P0_2_ k_ ∨ P2_1_ k_ ∨ P2_2_ k_ ∨ P3_1_ k_ ∨ P3_2_ k_) ∨ w.heap.size ≤ k_) ∧ k_ ≠ gb463 ∧ k_ ≠ gb464 ∧ k_ ≠ gb465) (.slice A0_2 l0_2.length c0_2) l0_2) ∧ Aside0 (Kd.V (Kd.int .i64) 3 wc w.heap.size (fun k_ => ((P0_0_ k_ ∨ P0_2_ k_ ∨ P2_1_ k_ ∨ P2_2_ k_ ∨ P3_1_ k_ ∨ P3_2_ k_) ∨ w.heap.size ≤ k_) ∧ k_ ≠ gb463 ∧ k_ ≠ gb464 ∧ k_ ≠ gb465) (.slice A2_1 l2_1.length c2_1) l2_1) ∧ Aside0 (Kd.V (Kd.int .i64) 3 wc w.heap.size (fun k_ => ((P0_0_ k_ ∨ P0_2_ k_ ∨ P2_1_ k_ ∨ P2_2_ k_ ∨ P3_1_ k_ ∨ P3_2_ k_) ∨ w.heap.size ≤ k_) ∧ k_ ≠ gb463 ∧ k_ ≠ gb464 ∧ k_ ≠ gb465) (.slice A2_2 l2_2.length c2_2) l2_2) ∧ Aside0 (Kd.V (Kd.int .i64) 3 wc w.heap.size (fun k_ => ((P0_0_ k_ ∨ P0_2_ k_ ∨ P2_1_ k_ ∨ P2_2_ k_ ∨ P3_1_ k_ ∨ P3_2_ k_) ∨ w.heap.size ≤ k_) ∧ k_ ≠ gb463 ∧ k_ ≠ gb464 ∧ k_ ≠ gb465) (.slice A3_1 l3_1.length c3_1) l3_1) ∧ Aside0 (Kd.V (Kd.int .i64) 3 wc w.heap.size (fun k_ => ((P0_0_ k_ ∨ P0_2_ k_ ∨ P2_1_ k_ ∨ P2_2_ k_ ∨ P3_1_ k_ ∨ P3_2_ k_) ∨ w.heap.size ≤ k_) ∧ k_ ≠ gb463 ∧ k_ ≠ gb464 ∧ k_ ≠ gb465) (.slice A3_2 l3_2.length c3_2) l3_2) ∧ Aside0 (wc.heap[gb463]? = some (.cells #[(.slice A0_0 l0_0.length c0_0), .int .i64 a0_1, (.slice A0_2 l0_2.length c0_2)] 25 (0, 0))) ∧ Aside0 (wc.heap[gb464]? = some (.cells #[.int .i64 a2_0, (.slice A2_1 l2_1.length c2_1), (.slice A2_2 l2_2.length c2_2)] 42 (0, 0))) ∧ Aside0 (wc.heap[gb465]? = some (.cells #[.int .i64 a3_0, (.slice A3_1 l3_1.length c3_1), (.slice A3_2 l3_2.length c3_2)] 42 (0, 0))) ∧ Aside0 (Below w.heap.size w wc))
 case first =>
  have H := HC6.out
  clear HC6
  replace H := Option.bind_eq_some_iff.mp H
  obtain ⟨t467, A110, H⟩ := H
  replace H : (if t467 = true then ((fullerref18_Writes.f k (([(⟨a2_0, (⟨l2_1, l2_2⟩ : S37)⟩ : S42), (⟨a3_0, (⟨l3_1, l3_2⟩ : S37)⟩ : S42)] : List (S42))) 2).bind fun t471 => (if t471 = true then ((store_Check.f k l0_0 a0_1 l0_2).bind fun t472 => (fullerlaw18_StoreApart.j0 k a1 t466 (!t472) l0_0 a0_1 l0_2 a2_0 l2_1 l2_2 a3_0 l3_1 l3_2)) else (fullerlaw18_StoreApart.j0 k a1 t466 true l0_0 a0_1 l0_2 a2_0 l2_1 l2_2 a3_0 l3_1 l3_2))) else (fullerlaw18_StoreApart.j0 k a1 t466 true l0_0 a0_1 l0_2 a2_0 l2_1 l2_2 a3_0 l3_1 l3_2)) = some r := H
  have A11 := Aside0.mk A110
  clear A110
  by_cases c12 : t467 = true
  ·subst c12
   have H1 : ((fullerref18_Writes.f k (([(⟨a2_0, (⟨l2_1, l2_2⟩ : S37)⟩ : S42), (⟨a3_0, (⟨l3_1, l3_2⟩ : S37)⟩ : S42)] : List (S42))) 2).bind fun t471 => (if t471 = true then ((store_Check.f k l0_0 a0_1 l0_2).bind fun t472 => (fullerlaw18_StoreApart.j0 k a1 t466 (!t472) l0_0 a0_1 l0_2 a2_0 l2_1 l2_2 a3_0 l3_1 l3_2)) else (fullerlaw18_StoreApart.j0 k a1 t466 true l0_0 a0_1 l0_2 a2_0 l2_1 l2_2 a3_0 l3_1 l3_2))) = some r := by rw [if_pos rfl] at H; exact H
   clear H
   have H := H1
   clear H1
   obtain ⟨y468, hy468⟩ : ∃ y_ : List (S42), y_ = (([(⟨a2_0, (⟨l2_1, l2_2⟩ : S37)⟩ : S42), (⟨a3_0, (⟨l3_1, l3_2⟩ : S37)⟩ : S42)] : List (S42))) := ⟨_, rfl⟩
   replace H : ((fullerref18_Writes.f k y468 2).bind fun t471 => (if t471 = true then ((store_Check.f k l0_0 a0_1 l0_2).bind fun t472 => (fullerlaw18_StoreApart.j0 k a1 t466 (!t472) l0_0 a0_1 l0_2 a2_0 l2_1 l2_2 a3_0 l3_1 l3_2)) else (fullerlaw18_StoreApart.j0 k a1 t466 true l0_0 a0_1 l0_2 a2_0 l2_1 l2_2 a3_0 l3_1 l3_2))) = some r := by first | (rw [hy468]; with_reducible exact H) | (have H2_ := (Option.bind_some _ _).symm.trans H; rw [hy468]; with_reducible exact H2_) | (have H2_ := (Option.bind_some _ _).symm.trans H; with_reducible exact H2_) | with_reducible exact H | (rw [hy468]; exact H) | exact H
   have Ny468 := Aside0.mk hy468
   clear hy468
   replace H := Option.bind_eq_some_iff.mp H
   obtain ⟨t471, A130, H⟩ := H
   replace H : (if t471 = true then ((store_Check.f k l0_0 a0_1 l0_2).bind fun t472 => (fullerlaw18_StoreApart.j0 k a1 t466 (!t472) l0_0 a0_1 l0_2 a2_0 l2_1 l2_2 a3_0 l3_1 l3_2)) else (fullerlaw18_StoreApart.j0 k a1 t466 true l0_0 a0_1 l0_2 a2_0 l2_1 l2_2 a3_0 l3_1 l3_2)) = some r := H
   have A13 := Aside0.mk A130
   clear A130
   by_cases c14 : t471 = true
   ·subst c14
    have H1 : ((store_Check.f k l0_0 a0_1 l0_2).bind fun t472 => (fullerlaw18_StoreApart.j0 k a1 t466 (!t472) l0_0 a0_1 l0_2 a2_0 l2_1 l2_2 a3_0 l3_1 l3_2)) = some r := by rw [if_pos rfl] at H; exact H
    clear H
    have H := H1
    clear H1
    replace H := Option.bind_eq_some_iff.mp H
    obtain ⟨t472, A150, H⟩ := H
    replace H : (fullerlaw18_StoreApart.j0 k a1 t466 (!t472) l0_0 a0_1 l0_2 a2_0 l2_1 l2_2 a3_0 l3_1 l3_2) = some r := H
    have A15 := Aside0.mk A150
    clear A150
    have H' := Aside0.mk H
    clear H
    have hnb16 := NB463_464.out
    have hnc16 := NB464_463.out
    have hnb17 := NB463_465.out
    have hnc17 := NB465_463.out
    have hcz18_0 := cz0_ BK463.out
    have hcz18_1 := cz1_ BK463.out
    have hcz18_2 := cz2_ BK463.out
    have hfz18_0 := blk_frozen BK463.out 0
    have hfz18_1 := blk_frozen BK463.out 1
    have hfz18_2 := blk_frozen BK463.out 2
    go_wp2_with (first | ((with_reducible refine gate_callee (f := 7) rfl ?_); refine gL_ (some 21) Try.func7 #[.agg #[.slice A0_0 l0_0.length c0_0, .int .i64 a0_1, .slice A0_2 l0_2.length c0_2]] ?_; (with_reducible refine (fullerref18_Few.calls k _ _ l0_0 a0_1 _ _ l0_2 true _ ?side1 ?side2 ?side3 ?side4 A11.out).mono ?_); (case side1 => exact mvC_ ((Kd.V_reads' HO0_0.out).2.2)); (case side2 => exact (Kd.V_reads' HO0_0.out).2.1); (case side3 => exact mvC_ ((Kd.V_reads' HO0_2.out).2.2)); (case side4 => exact (Kd.V_reads' HO0_2.out).2.1); rintro e w19 ⟨rfl, hb⟩; refine ⟨_, rfl, ?_⟩; replace HO0_0 := mbV_ HO0_0.out hb; replace HO0_2 := mbV_ HO0_2.out hb; replace HO2_1 := mbV_ HO2_1.out hb; replace HO2_2 := mbV_ HO2_2.out hb; replace HO3_1 := mbV_ HO3_1.out hb; replace HO3_2 := mbV_ HO3_2.out hb; replace BK463 := mvB_ BK463.out hb; replace BK464 := mvB_ BK464.out hb; replace BK465 := mvB_ BK465.out hb; replace HB := Aside0.mk (below_step (bq3_ HB.out GE463.out GE464.out GE465.out) hb); (try clear hb); have hnb20 := NB464_465.out; have hnc20 := NB465_464.out; have hcz21_0 := cz0_ BK464.out; have hcz21_1 := cz1_ BK464.out; have hcz21_2 := cz2_ BK464.out; have hfz21_0 := blk_frozen BK464.out 0; have hfz21_1 := blk_frozen BK464.out 1; have hfz21_2 := blk_frozen BK464.out 2; have hcz22_0 := cz0_ BK465.out; have hcz22_1 := cz1_ BK465.out; have hcz22_2 := cz2_ BK465.out; have hfz22_0 := blk_frozen BK465.out 0; have hfz22_1 := blk_frozen BK465.out 1; have hfz22_2 := blk_frozen BK465.out 2) | ((with_reducible refine gate_dst (N := 26) rfl ?_); (try (refine gate_guard (by rfl) ?_; dsimp only)); refine Kd.N_lit k42 _ 42 ?hg (N' := 26) ?hd (xs := ([(⟨a2_0, (⟨l2_1, l2_2⟩ : S37)⟩ : S42), (⟨a3_0, (⟨l3_1, l3_2⟩ : S37)⟩ : S42)] : List (S42))) (inner := [.int .i64 a2_0, .slice A2_1 l2_1.length c2_1, .slice A2_2 l2_2.length c2_2, .int .i64 a3_0, .slice A3_1 l3_1.length c3_1, .slice A3_2 l3_2.length c3_2]) (ok := (fun k_ => ((P0_0_ k_ ∨ P0_2_ k_ ∨ P2_1_ k_ ∨ P2_2_ k_ ∨ P3_1_ k_ ∨ P3_2_ k_) ∨ w.heap.size ≤ k_) ∧ k_ ≠ gb463 ∧ k_ ≠ gb464 ∧ k_ ≠ gb465)) (okp := (fun k_ => ((P0_0_ k_ ∨ P0_2_ k_ ∨ P2_1_ k_ ∨ P2_2_ k_ ∨ P3_1_ k_ ∨ P3_2_ k_) ∨ w.heap.size ≤ k_) ∧ k_ ≠ gb463 ∧ k_ ≠ gb464 ∧ k_ ≠ gb465)) ?hr ?hp (fun _ hk => hk) ((show ∀ k_, w19.heap.size ≤ k_ → (fun k_ => ((P0_0_ k_ ∨ P0_2_ k_ ∨ P2_1_ k_ ∨ P2_2_ k_ ∨ P3_1_ k_ ∨ P3_2_ k_) ∨ w.heap.size ≤ k_) ∧ k_ ≠ gb463 ∧ k_ ≠ gb464 ∧ k_ ≠ gb465) k_ from fun k_ hk => ⟨(.inr (Nat.le_trans (below_size (bq3_ HB.out GE463.out GE464.out GE465.out)) hk)), mvF_ BK463.out hk, mvF_ BK464.out hk, mvF_ BK465.out hk⟩) _ (Nat.le_refl _)) (Below.refl _ _) (Nat.le_refl _) (by simp) ?_; (case hd => rfl); (case hg => rfl); (case hr => first | (go_simp; done) | (go_simp; rfl)); (case hp => exact (Reps.c3 (show Kd.FK k42 _ _ (⟨a2_0, (⟨l2_1, l2_2⟩ : S37)⟩ : S42) [.int .i64 a2_0, .slice A2_1 l2_1.length c2_1, .slice A2_2 l2_2.length c2_2] from (k42_mkF _ _ (⟨a2_0, (⟨l2_1, l2_2⟩ : S37)⟩ : S42) (Kd.V_reads' (Kd.V_mono (ok' := (fun k_ => ((P0_0_ k_ ∨ P0_2_ k_ ∨ P2_1_ k_ ∨ P2_2_ k_ ∨ P3_1_ k_ ∨ P3_2_ k_) ∨ w.heap.size ≤ k_) ∧ k_ ≠ gb463 ∧ k_ ≠ gb464 ∧ k_ ≠ gb465)) (HO2_1.out) (fun k_ hk => ⟨hk.1.1.1, ⟨hk.1.1.2, ⟨hk.1.2, hk.2⟩⟩⟩))).2.1 (Kd.V_F (Kd.V_mono (ok' := (fun k_ => ((P0_0_ k_ ∨ P0_2_ k_ ∨ P2_1_ k_ ∨ P2_2_ k_ ∨ P3_1_ k_ ∨ P3_2_ k_) ∨ w.heap.size ≤ k_) ∧ k_ ≠ gb463 ∧ k_ ≠ gb464 ∧ k_ ≠ gb465)) (HO2_1.out) (fun k_ hk => ⟨hk.1.1.1, ⟨hk.1.1.2, ⟨hk.1.2, hk.2⟩⟩⟩))) (Kd.V_reads' (Kd.V_mono (ok' := (fun k_ => ((P0_0_ k_ ∨ P0_2_ k_ ∨ P2_1_ k_ ∨ P2_2_ k_ ∨ P3_1_ k_ ∨ P3_2_ k_) ∨ w.heap.size ≤ k_) ∧ k_ ≠ gb463 ∧ k_ ≠ gb464 ∧ k_ ≠ gb465)) (HO2_2.out) (fun k_ hk => ⟨hk.1.1.1, ⟨hk.1.1.2, ⟨hk.1.2, hk.2⟩⟩⟩))).2.1 (Kd.V_F (Kd.V_mono (ok' := (fun k_ => ((P0_0_ k_ ∨ P0_2_ k_ ∨ P2_1_ k_ ∨ P2_2_ k_ ∨ P3_1_ k_ ∨ P3_2_ k_) ∨ w.heap.size ≤ k_) ∧ k_ ≠ gb463 ∧ k_ ≠ gb464 ∧ k_ ≠ gb465)) (HO2_2.out) (fun k_ hk => ⟨hk.1.1.1, ⟨hk.1.1.2, ⟨hk.1.2, hk.2⟩⟩⟩))))) (Reps.c3 (show Kd.FK k42 _ _ (⟨a3_0, (⟨l3_1, l3_2⟩ : S37)⟩ : S42) [.int .i64 a3_0, .slice A3_1 l3_1.length c3_1, .slice A3_2 l3_2.length c3_2] from (k42_mkF _ _ (⟨a3_0, (⟨l3_1, l3_2⟩ : S37)⟩ : S42) (Kd.V_reads' (Kd.V_mono (ok' := (fun k_ => ((P0_0_ k_ ∨ P0_2_ k_ ∨ P2_1_ k_ ∨ P2_2_ k_ ∨ P3_1_ k_ ∨ P3_2_ k_) ∨ w.heap.size ≤ k_) ∧ k_ ≠ gb463 ∧ k_ ≠ gb464 ∧ k_ ≠ gb465)) (HO3_1.out) (fun k_ hk => ⟨hk.1.1.1, ⟨hk.1.1.2, ⟨hk.1.2, hk.2⟩⟩⟩))).2.1 (Kd.V_F (Kd.V_mono (ok' := (fun k_ => ((P0_0_ k_ ∨ P0_2_ k_ ∨ P2_1_ k_ ∨ P2_2_ k_ ∨ P3_1_ k_ ∨ P3_2_ k_) ∨ w.heap.size ≤ k_) ∧ k_ ≠ gb463 ∧ k_ ≠ gb464 ∧ k_ ≠ gb465)) (HO3_1.out) (fun k_ hk => ⟨hk.1.1.1, ⟨hk.1.1.2, ⟨hk.1.2, hk.2⟩⟩⟩))) (Kd.V_reads' (Kd.V_mono (ok' := (fun k_ => ((P0_0_ k_ ∨ P0_2_ k_ ∨ P2_1_ k_ ∨ P2_2_ k_ ∨ P3_1_ k_ ∨ P3_2_ k_) ∨ w.heap.size ≤ k_) ∧ k_ ≠ gb463 ∧ k_ ≠ gb464 ∧ k_ ≠ gb465)) (HO3_2.out) (fun k_ hk => ⟨hk.1.1.1, ⟨hk.1.1.2, ⟨hk.1.2, hk.2⟩⟩⟩))).2.1 (Kd.V_F (Kd.V_mono (ok' := (fun k_ => ((P0_0_ k_ ∨ P0_2_ k_ ∨ P2_1_ k_ ∨ P2_2_ k_ ∨ P3_1_ k_ ∨ P3_2_ k_) ∨ w.heap.size ≤ k_) ∧ k_ ≠ gb463 ∧ k_ ≠ gb464 ∧ k_ ≠ gb465)) (HO3_2.out) (fun k_ hk => ⟨hk.1.1.1, ⟨hk.1.1.2, ⟨hk.1.2, hk.2⟩⟩⟩))))) (Reps.none _ _)))); intro v469 w23 ho24 hb hg_ hnew_; clear hg_ hnew_; (first | rw [← Ny468.out] at ho24 | (simp only [Int.reduceToNat] at ho24; rw [← Ny468.out] at ho24)); have HO470 := Aside0.mk (Kd.N_lower ho24 (below_size (bq3_ HB.out GE463.out GE464.out GE465.out))); replace HO0_0 := mbV_ HO0_0.out hb; replace HO0_2 := mbV_ HO0_2.out hb; replace HO2_1 := mbV_ HO2_1.out hb; replace HO2_2 := mbV_ HO2_2.out hb; replace HO3_1 := mbV_ HO3_1.out hb; replace HO3_2 := mbV_ HO3_2.out hb; replace BK463 := mvB_ BK463.out hb; replace BK464 := mvB_ BK464.out hb; replace BK465 := mvB_ BK465.out hb; replace HB := Aside0.mk (below_step (bq3_ HB.out GE463.out GE464.out GE465.out) hb); clear hb ho24; obtain ⟨Ao25, co25, eo25⟩ := Kd.N_slice HO470.out; subst eo25) | (go_at_call 8; (with_reducible refine (fullerref18_Writes.calls k _ _ y468 2 true _ ?side1 ?side2 A13.out).mono ?_); (case side1 => exact mvC_ ((Kd.N_reads' HO470.out).2.2)); (case side2 => exact (Kd.N_reads' HO470.out).2.1); rintro e w26 ⟨rfl, hb⟩; replace HO0_0 := mbV_ HO0_0.out hb; replace HO0_2 := mbV_ HO0_2.out hb; replace HO2_1 := mbV_ HO2_1.out hb; replace HO2_2 := mbV_ HO2_2.out hb; replace HO3_1 := mbV_ HO3_1.out hb; replace HO3_2 := mbV_ HO3_2.out hb; replace HO470 := mbN_ HO470.out hb; replace BK463 := mvB_ BK463.out hb; replace BK464 := mvB_ BK464.out hb; replace BK465 := mvB_ BK465.out hb; replace HB := Aside0.mk (below_step (bq3_ HB.out GE463.out GE464.out GE465.out) hb); (try clear hb); have hcz27_0 := cz0_ BK463.out; have hcz27_1 := cz1_ BK463.out; have hcz27_2 := cz2_ BK463.out; have hfz27_0 := blk_frozen BK463.out 0; have hfz27_1 := blk_frozen BK463.out 1; have hfz27_2 := blk_frozen BK463.out 2) | (go_at_call 9; (with_reducible refine (store_Check.calls k _ _ l0_0 a0_1 _ _ l0_2 t472 _ ?side1 ?side2 ?side3 ?side4 A15.out).mono ?_); (case side1 => exact mvC_ ((Kd.V_reads' HO0_0.out).2.2)); (case side2 => exact (Kd.V_reads' HO0_0.out).2.1); (case side3 => exact mvC_ ((Kd.V_reads' HO0_2.out).2.2)); (case side4 => exact (Kd.V_reads' HO0_2.out).2.1); rintro e w28 ⟨rfl, hb⟩; replace HO0_0 := mbV_ HO0_0.out hb; replace HO0_2 := mbV_ HO0_2.out hb; replace HO2_1 := mbV_ HO2_1.out hb; replace HO2_2 := mbV_ HO2_2.out hb; replace HO3_1 := mbV_ HO3_1.out hb; replace HO3_2 := mbV_ HO3_2.out hb; replace BK463 := mvB_ BK463.out hb; replace BK464 := mvB_ BK464.out hb; replace BK465 := mvB_ BK465.out hb; replace HB := Aside0.mk (below_step (bq3_ HB.out GE463.out GE464.out GE465.out) hb); (try clear hb)))
    go_meet
    case rel => exact ⟨_, (!t472), (by first | rfl | (simp; done) | (simp [*]; done)), H', ⟨by first | omega | exact Nat.le_refl _⟩, ⟨by (with_reducible repeat (first | apply Kd.V_alloc | apply Kd.V_drewN | apply Kd.V_drew)); exact Kd.V_mono HO0_0.out (fun _ hk => ⟨hk.1.1.1, ⟨hk.1.1.2, ⟨hk.1.2, hk.2⟩⟩⟩)⟩, ⟨by (with_reducible repeat (first | apply Kd.V_alloc | apply Kd.V_drewN | apply Kd.V_drew)); exact Kd.V_mono HO0_2.out (fun _ hk => ⟨hk.1.1.1, ⟨hk.1.1.2, ⟨hk.1.2, hk.2⟩⟩⟩)⟩, ⟨by (with_reducible repeat (first | apply Kd.V_alloc | apply Kd.V_drewN | apply Kd.V_drew)); exact Kd.V_mono HO2_1.out (fun _ hk => ⟨hk.1.1.1, ⟨hk.1.1.2, ⟨hk.1.2, hk.2⟩⟩⟩)⟩, ⟨by (with_reducible repeat (first | apply Kd.V_alloc | apply Kd.V_drewN | apply Kd.V_drew)); exact Kd.V_mono HO2_2.out (fun _ hk => ⟨hk.1.1.1, ⟨hk.1.1.2, ⟨hk.1.2, hk.2⟩⟩⟩)⟩, ⟨by (with_reducible repeat (first | apply Kd.V_alloc | apply Kd.V_drewN | apply Kd.V_drew)); exact Kd.V_mono HO3_1.out (fun _ hk => ⟨hk.1.1.1, ⟨hk.1.1.2, ⟨hk.1.2, hk.2⟩⟩⟩)⟩, ⟨by (with_reducible repeat (first | apply Kd.V_alloc | apply Kd.V_drewN | apply Kd.V_drew)); exact Kd.V_mono HO3_2.out (fun _ hk => ⟨hk.1.1.1, ⟨hk.1.1.2, ⟨hk.1.2, hk.2⟩⟩⟩)⟩, ⟨by (with_reducible repeat (first | refine blk_drewN ?_ _ | refine blk_drew ?_ | refine blk_alloc ?_ _)); exact BK463.out⟩, ⟨by (with_reducible repeat (first | refine blk_drewN ?_ _ | refine blk_drew ?_ | refine blk_alloc ?_ _)); exact BK464.out⟩, ⟨by (with_reducible repeat (first | refine blk_drewN ?_ _ | refine blk_drew ?_ | refine blk_alloc ?_ _)); exact BK465.out⟩, ⟨bq3_ HB.out GE463.out GE464.out GE465.out⟩⟩
   ·replace c14 := Bool.eq_false_iff.mpr c14
    subst c14
    have H1 : (fullerlaw18_StoreApart.j0 k a1 t466 true l0_0 a0_1 l0_2 a2_0 l2_1 l2_2 a3_0 l3_1 l3_2) = some r := by rw [if_neg (show ¬ (false = true) by decide)] at H; exact H
    clear H
    have H := H1
    clear H1
    have H' := Aside0.mk H
    clear H
    have hnb29 := NB463_464.out
    have hnc29 := NB464_463.out
    have hnb30 := NB463_465.out
    have hnc30 := NB465_463.out
    have hcz31_0 := cz0_ BK463.out
    have hcz31_1 := cz1_ BK463.out
    have hcz31_2 := cz2_ BK463.out
    have hfz31_0 := blk_frozen BK463.out 0
    have hfz31_1 := blk_frozen BK463.out 1
    have hfz31_2 := blk_frozen BK463.out 2
    go_wp2_with (first | ((with_reducible refine gate_callee (f := 7) rfl ?_); refine gL_ (some 21) Try.func7 #[.agg #[.slice A0_0 l0_0.length c0_0, .int .i64 a0_1, .slice A0_2 l0_2.length c0_2]] ?_; (with_reducible refine (fullerref18_Few.calls k _ _ l0_0 a0_1 _ _ l0_2 true _ ?side1 ?side2 ?side3 ?side4 A11.out).mono ?_); (case side1 => exact mvC_ ((Kd.V_reads' HO0_0.out).2.2)); (case side2 => exact (Kd.V_reads' HO0_0.out).2.1); (case side3 => exact mvC_ ((Kd.V_reads' HO0_2.out).2.2)); (case side4 => exact (Kd.V_reads' HO0_2.out).2.1); rintro e w32 ⟨rfl, hb⟩; refine ⟨_, rfl, ?_⟩; replace HO0_0 := mbV_ HO0_0.out hb; replace HO0_2 := mbV_ HO0_2.out hb; replace HO2_1 := mbV_ HO2_1.out hb; replace HO2_2 := mbV_ HO2_2.out hb; replace HO3_1 := mbV_ HO3_1.out hb; replace HO3_2 := mbV_ HO3_2.out hb; replace BK463 := mvB_ BK463.out hb; replace BK464 := mvB_ BK464.out hb; replace BK465 := mvB_ BK465.out hb; replace HB := Aside0.mk (below_step (bq3_ HB.out GE463.out GE464.out GE465.out) hb); (try clear hb); have hnb33 := NB464_465.out; have hnc33 := NB465_464.out; have hcz34_0 := cz0_ BK464.out; have hcz34_1 := cz1_ BK464.out; have hcz34_2 := cz2_ BK464.out; have hfz34_0 := blk_frozen BK464.out 0; have hfz34_1 := blk_frozen BK464.out 1; have hfz34_2 := blk_frozen BK464.out 2; have hcz35_0 := cz0_ BK465.out; have hcz35_1 := cz1_ BK465.out; have hcz35_2 := cz2_ BK465.out; have hfz35_0 := blk_frozen BK465.out 0; have hfz35_1 := blk_frozen BK465.out 1; have hfz35_2 := blk_frozen BK465.out 2) | ((with_reducible refine gate_dst (N := 26) rfl ?_); (try (refine gate_guard (by rfl) ?_; dsimp only)); refine Kd.N_lit k42 _ 42 ?hg (N' := 26) ?hd (xs := ([(⟨a2_0, (⟨l2_1, l2_2⟩ : S37)⟩ : S42), (⟨a3_0, (⟨l3_1, l3_2⟩ : S37)⟩ : S42)] : List (S42))) (inner := [.int .i64 a2_0, .slice A2_1 l2_1.length c2_1, .slice A2_2 l2_2.length c2_2, .int .i64 a3_0, .slice A3_1 l3_1.length c3_1, .slice A3_2 l3_2.length c3_2]) (ok := (fun k_ => ((P0_0_ k_ ∨ P0_2_ k_ ∨ P2_1_ k_ ∨ P2_2_ k_ ∨ P3_1_ k_ ∨ P3_2_ k_) ∨ w.heap.size ≤ k_) ∧ k_ ≠ gb463 ∧ k_ ≠ gb464 ∧ k_ ≠ gb465)) (okp := (fun k_ => ((P0_0_ k_ ∨ P0_2_ k_ ∨ P2_1_ k_ ∨ P2_2_ k_ ∨ P3_1_ k_ ∨ P3_2_ k_) ∨ w.heap.size ≤ k_) ∧ k_ ≠ gb463 ∧ k_ ≠ gb464 ∧ k_ ≠ gb465)) ?hr ?hp (fun _ hk => hk) ((show ∀ k_, w32.heap.size ≤ k_ → (fun k_ => ((P0_0_ k_ ∨ P0_2_ k_ ∨ P2_1_ k_ ∨ P2_2_ k_ ∨ P3_1_ k_ ∨ P3_2_ k_) ∨ w.heap.size ≤ k_) ∧ k_ ≠ gb463 ∧ k_ ≠ gb464 ∧ k_ ≠ gb465) k_ from fun k_ hk => ⟨(.inr (Nat.le_trans (below_size (bq3_ HB.out GE463.out GE464.out GE465.out)) hk)), mvF_ BK463.out hk, mvF_ BK464.out hk, mvF_ BK465.out hk⟩) _ (Nat.le_refl _)) (Below.refl _ _) (Nat.le_refl _) (by simp) ?_; (case hd => rfl); (case hg => rfl); (case hr => first | (go_simp; done) | (go_simp; rfl)); (case hp => exact (Reps.c3 (show Kd.FK k42 _ _ (⟨a2_0, (⟨l2_1, l2_2⟩ : S37)⟩ : S42) [.int .i64 a2_0, .slice A2_1 l2_1.length c2_1, .slice A2_2 l2_2.length c2_2] from (k42_mkF _ _ (⟨a2_0, (⟨l2_1, l2_2⟩ : S37)⟩ : S42) (Kd.V_reads' (Kd.V_mono (ok' := (fun k_ => ((P0_0_ k_ ∨ P0_2_ k_ ∨ P2_1_ k_ ∨ P2_2_ k_ ∨ P3_1_ k_ ∨ P3_2_ k_) ∨ w.heap.size ≤ k_) ∧ k_ ≠ gb463 ∧ k_ ≠ gb464 ∧ k_ ≠ gb465)) (HO2_1.out) (fun k_ hk => ⟨hk.1.1.1, ⟨hk.1.1.2, ⟨hk.1.2, hk.2⟩⟩⟩))).2.1 (Kd.V_F (Kd.V_mono (ok' := (fun k_ => ((P0_0_ k_ ∨ P0_2_ k_ ∨ P2_1_ k_ ∨ P2_2_ k_ ∨ P3_1_ k_ ∨ P3_2_ k_) ∨ w.heap.size ≤ k_) ∧ k_ ≠ gb463 ∧ k_ ≠ gb464 ∧ k_ ≠ gb465)) (HO2_1.out) (fun k_ hk => ⟨hk.1.1.1, ⟨hk.1.1.2, ⟨hk.1.2, hk.2⟩⟩⟩))) (Kd.V_reads' (Kd.V_mono (ok' := (fun k_ => ((P0_0_ k_ ∨ P0_2_ k_ ∨ P2_1_ k_ ∨ P2_2_ k_ ∨ P3_1_ k_ ∨ P3_2_ k_) ∨ w.heap.size ≤ k_) ∧ k_ ≠ gb463 ∧ k_ ≠ gb464 ∧ k_ ≠ gb465)) (HO2_2.out) (fun k_ hk => ⟨hk.1.1.1, ⟨hk.1.1.2, ⟨hk.1.2, hk.2⟩⟩⟩))).2.1 (Kd.V_F (Kd.V_mono (ok' := (fun k_ => ((P0_0_ k_ ∨ P0_2_ k_ ∨ P2_1_ k_ ∨ P2_2_ k_ ∨ P3_1_ k_ ∨ P3_2_ k_) ∨ w.heap.size ≤ k_) ∧ k_ ≠ gb463 ∧ k_ ≠ gb464 ∧ k_ ≠ gb465)) (HO2_2.out) (fun k_ hk => ⟨hk.1.1.1, ⟨hk.1.1.2, ⟨hk.1.2, hk.2⟩⟩⟩))))) (Reps.c3 (show Kd.FK k42 _ _ (⟨a3_0, (⟨l3_1, l3_2⟩ : S37)⟩ : S42) [.int .i64 a3_0, .slice A3_1 l3_1.length c3_1, .slice A3_2 l3_2.length c3_2] from (k42_mkF _ _ (⟨a3_0, (⟨l3_1, l3_2⟩ : S37)⟩ : S42) (Kd.V_reads' (Kd.V_mono (ok' := (fun k_ => ((P0_0_ k_ ∨ P0_2_ k_ ∨ P2_1_ k_ ∨ P2_2_ k_ ∨ P3_1_ k_ ∨ P3_2_ k_) ∨ w.heap.size ≤ k_) ∧ k_ ≠ gb463 ∧ k_ ≠ gb464 ∧ k_ ≠ gb465)) (HO3_1.out) (fun k_ hk => ⟨hk.1.1.1, ⟨hk.1.1.2, ⟨hk.1.2, hk.2⟩⟩⟩))).2.1 (Kd.V_F (Kd.V_mono (ok' := (fun k_ => ((P0_0_ k_ ∨ P0_2_ k_ ∨ P2_1_ k_ ∨ P2_2_ k_ ∨ P3_1_ k_ ∨ P3_2_ k_) ∨ w.heap.size ≤ k_) ∧ k_ ≠ gb463 ∧ k_ ≠ gb464 ∧ k_ ≠ gb465)) (HO3_1.out) (fun k_ hk => ⟨hk.1.1.1, ⟨hk.1.1.2, ⟨hk.1.2, hk.2⟩⟩⟩))) (Kd.V_reads' (Kd.V_mono (ok' := (fun k_ => ((P0_0_ k_ ∨ P0_2_ k_ ∨ P2_1_ k_ ∨ P2_2_ k_ ∨ P3_1_ k_ ∨ P3_2_ k_) ∨ w.heap.size ≤ k_) ∧ k_ ≠ gb463 ∧ k_ ≠ gb464 ∧ k_ ≠ gb465)) (HO3_2.out) (fun k_ hk => ⟨hk.1.1.1, ⟨hk.1.1.2, ⟨hk.1.2, hk.2⟩⟩⟩))).2.1 (Kd.V_F (Kd.V_mono (ok' := (fun k_ => ((P0_0_ k_ ∨ P0_2_ k_ ∨ P2_1_ k_ ∨ P2_2_ k_ ∨ P3_1_ k_ ∨ P3_2_ k_) ∨ w.heap.size ≤ k_) ∧ k_ ≠ gb463 ∧ k_ ≠ gb464 ∧ k_ ≠ gb465)) (HO3_2.out) (fun k_ hk => ⟨hk.1.1.1, ⟨hk.1.1.2, ⟨hk.1.2, hk.2⟩⟩⟩))))) (Reps.none _ _)))); intro v469 w36 ho37 hb hg_ hnew_; clear hg_ hnew_; (first | rw [← Ny468.out] at ho37 | (simp only [Int.reduceToNat] at ho37; rw [← Ny468.out] at ho37)); have HO470 := Aside0.mk (Kd.N_lower ho37 (below_size (bq3_ HB.out GE463.out GE464.out GE465.out))); replace HO0_0 := mbV_ HO0_0.out hb; replace HO0_2 := mbV_ HO0_2.out hb; replace HO2_1 := mbV_ HO2_1.out hb; replace HO2_2 := mbV_ HO2_2.out hb; replace HO3_1 := mbV_ HO3_1.out hb; replace HO3_2 := mbV_ HO3_2.out hb; replace BK463 := mvB_ BK463.out hb; replace BK464 := mvB_ BK464.out hb; replace BK465 := mvB_ BK465.out hb; replace HB := Aside0.mk (below_step (bq3_ HB.out GE463.out GE464.out GE465.out) hb); clear hb ho37; obtain ⟨Ao38, co38, eo38⟩ := Kd.N_slice HO470.out; subst eo38) | (go_at_call 8; (with_reducible refine (fullerref18_Writes.calls k _ _ y468 2 false _ ?side1 ?side2 A13.out).mono ?_); (case side1 => exact mvC_ ((Kd.N_reads' HO470.out).2.2)); (case side2 => exact (Kd.N_reads' HO470.out).2.1); rintro e w39 ⟨rfl, hb⟩; replace HO0_0 := mbV_ HO0_0.out hb; replace HO0_2 := mbV_ HO0_2.out hb; replace HO2_1 := mbV_ HO2_1.out hb; replace HO2_2 := mbV_ HO2_2.out hb; replace HO3_1 := mbV_ HO3_1.out hb; replace HO3_2 := mbV_ HO3_2.out hb; replace HO470 := mbN_ HO470.out hb; replace BK463 := mvB_ BK463.out hb; replace BK464 := mvB_ BK464.out hb; replace BK465 := mvB_ BK465.out hb; replace HB := Aside0.mk (below_step (bq3_ HB.out GE463.out GE464.out GE465.out) hb); (try clear hb)))
    go_meet
    case rel => exact ⟨_, (true), (by first | rfl | (simp; done) | (simp [*]; done)), H', ⟨by first | omega | exact Nat.le_refl _⟩, ⟨by (with_reducible repeat (first | apply Kd.V_alloc | apply Kd.V_drewN | apply Kd.V_drew)); exact Kd.V_mono HO0_0.out (fun _ hk => ⟨hk.1.1.1, ⟨hk.1.1.2, ⟨hk.1.2, hk.2⟩⟩⟩)⟩, ⟨by (with_reducible repeat (first | apply Kd.V_alloc | apply Kd.V_drewN | apply Kd.V_drew)); exact Kd.V_mono HO0_2.out (fun _ hk => ⟨hk.1.1.1, ⟨hk.1.1.2, ⟨hk.1.2, hk.2⟩⟩⟩)⟩, ⟨by (with_reducible repeat (first | apply Kd.V_alloc | apply Kd.V_drewN | apply Kd.V_drew)); exact Kd.V_mono HO2_1.out (fun _ hk => ⟨hk.1.1.1, ⟨hk.1.1.2, ⟨hk.1.2, hk.2⟩⟩⟩)⟩, ⟨by (with_reducible repeat (first | apply Kd.V_alloc | apply Kd.V_drewN | apply Kd.V_drew)); exact Kd.V_mono HO2_2.out (fun _ hk => ⟨hk.1.1.1, ⟨hk.1.1.2, ⟨hk.1.2, hk.2⟩⟩⟩)⟩, ⟨by (with_reducible repeat (first | apply Kd.V_alloc | apply Kd.V_drewN | apply Kd.V_drew)); exact Kd.V_mono HO3_1.out (fun _ hk => ⟨hk.1.1.1, ⟨hk.1.1.2, ⟨hk.1.2, hk.2⟩⟩⟩)⟩, ⟨by (with_reducible repeat (first | apply Kd.V_alloc | apply Kd.V_drewN | apply Kd.V_drew)); exact Kd.V_mono HO3_2.out (fun _ hk => ⟨hk.1.1.1, ⟨hk.1.1.2, ⟨hk.1.2, hk.2⟩⟩⟩)⟩, ⟨by (with_reducible repeat (first | refine blk_drewN ?_ _ | refine blk_drew ?_ | refine blk_alloc ?_ _)); exact BK463.out⟩, ⟨by (with_reducible repeat (first | refine blk_drewN ?_ _ | refine blk_drew ?_ | refine blk_alloc ?_ _)); exact BK464.out⟩, ⟨by (with_reducible repeat (first | refine blk_drewN ?_ _ | refine blk_drew ?_ | refine blk_alloc ?_ _)); exact BK465.out⟩, ⟨bq3_ HB.out GE463.out GE464.out GE465.out⟩⟩
  ·replace c12 := Bool.eq_false_iff.mpr c12
   subst c12
   have H1 : (fullerlaw18_StoreApart.j0 k a1 t466 true l0_0 a0_1 l0_2 a2_0 l2_1 l2_2 a3_0 l3_1 l3_2) = some r := by rw [if_neg (show ¬ (false = true) by decide)] at H; exact H
   clear H
   have H := H1
   clear H1
   have H' := Aside0.mk H
   clear H
   have hnb40 := NB463_464.out
   have hnc40 := NB464_463.out
   have hnb41 := NB463_465.out
   have hnc41 := NB465_463.out
   have hcz42_0 := cz0_ BK463.out
   have hcz42_1 := cz1_ BK463.out
   have hcz42_2 := cz2_ BK463.out
   have hfz42_0 := blk_frozen BK463.out 0
   have hfz42_1 := blk_frozen BK463.out 1
   have hfz42_2 := blk_frozen BK463.out 2
   go_wp2_with (first | ((with_reducible refine gate_callee (f := 7) rfl ?_); refine gL_ (some 21) Try.func7 #[.agg #[.slice A0_0 l0_0.length c0_0, .int .i64 a0_1, .slice A0_2 l0_2.length c0_2]] ?_; (with_reducible refine (fullerref18_Few.calls k _ _ l0_0 a0_1 _ _ l0_2 false _ ?side1 ?side2 ?side3 ?side4 A11.out).mono ?_); (case side1 => exact mvC_ ((Kd.V_reads' HO0_0.out).2.2)); (case side2 => exact (Kd.V_reads' HO0_0.out).2.1); (case side3 => exact mvC_ ((Kd.V_reads' HO0_2.out).2.2)); (case side4 => exact (Kd.V_reads' HO0_2.out).2.1); rintro e w43 ⟨rfl, hb⟩; refine ⟨_, rfl, ?_⟩; replace HO0_0 := mbV_ HO0_0.out hb; replace HO0_2 := mbV_ HO0_2.out hb; replace HO2_1 := mbV_ HO2_1.out hb; replace HO2_2 := mbV_ HO2_2.out hb; replace HO3_1 := mbV_ HO3_1.out hb; replace HO3_2 := mbV_ HO3_2.out hb; replace BK463 := mvB_ BK463.out hb; replace BK464 := mvB_ BK464.out hb; replace BK465 := mvB_ BK465.out hb; replace HB := Aside0.mk (below_step (bq3_ HB.out GE463.out GE464.out GE465.out) hb); (try clear hb)))
   go_meet
   case rel => exact ⟨_, (true), (by first | rfl | (simp; done) | (simp [*]; done)), H', ⟨by first | omega | exact Nat.le_refl _⟩, ⟨by (with_reducible repeat (first | apply Kd.V_alloc | apply Kd.V_drewN | apply Kd.V_drew)); exact Kd.V_mono HO0_0.out (fun _ hk => ⟨hk.1.1.1, ⟨hk.1.1.2, ⟨hk.1.2, hk.2⟩⟩⟩)⟩, ⟨by (with_reducible repeat (first | apply Kd.V_alloc | apply Kd.V_drewN | apply Kd.V_drew)); exact Kd.V_mono HO0_2.out (fun _ hk => ⟨hk.1.1.1, ⟨hk.1.1.2, ⟨hk.1.2, hk.2⟩⟩⟩)⟩, ⟨by (with_reducible repeat (first | apply Kd.V_alloc | apply Kd.V_drewN | apply Kd.V_drew)); exact Kd.V_mono HO2_1.out (fun _ hk => ⟨hk.1.1.1, ⟨hk.1.1.2, ⟨hk.1.2, hk.2⟩⟩⟩)⟩, ⟨by (with_reducible repeat (first | apply Kd.V_alloc | apply Kd.V_drewN | apply Kd.V_drew)); exact Kd.V_mono HO2_2.out (fun _ hk => ⟨hk.1.1.1, ⟨hk.1.1.2, ⟨hk.1.2, hk.2⟩⟩⟩)⟩, ⟨by (with_reducible repeat (first | apply Kd.V_alloc | apply Kd.V_drewN | apply Kd.V_drew)); exact Kd.V_mono HO3_1.out (fun _ hk => ⟨hk.1.1.1, ⟨hk.1.1.2, ⟨hk.1.2, hk.2⟩⟩⟩)⟩, ⟨by (with_reducible repeat (first | apply Kd.V_alloc | apply Kd.V_drewN | apply Kd.V_drew)); exact Kd.V_mono HO3_2.out (fun _ hk => ⟨hk.1.1.1, ⟨hk.1.1.2, ⟨hk.1.2, hk.2⟩⟩⟩)⟩, ⟨by (with_reducible repeat (first | refine blk_drewN ?_ _ | refine blk_drew ?_ | refine blk_alloc ?_ _)); exact BK463.out⟩, ⟨by (with_reducible repeat (first | refine blk_drewN ?_ _ | refine blk_drew ?_ | refine blk_alloc ?_ _)); exact BK464.out⟩, ⟨by (with_reducible repeat (first | refine blk_drewN ?_ _ | refine blk_drew ?_ | refine blk_alloc ?_ _)); exact BK465.out⟩, ⟨bq3_ HB.out GE463.out GE464.out GE465.out⟩⟩
 case rest =>
  clear HC6
  try clear c1
  try clear c2
  try clear p2
  try clear c3
  try clear c4
  try clear c5
  try clear c6
  try clear c7
  try clear c12
  try clear c14
  try clear c16
  try clear c17
  try clear c20
  try clear c29
  try clear c30
  try clear c33
  try clear c40
  try clear c41
  try clear hcz18_0
  try clear hcz18_1
  try clear hcz18_2
  try clear hcz21_0
  try clear hcz21_1
  try clear hcz21_2
  try clear hcz22_0
  try clear hcz22_1
  try clear hcz22_2
  try clear hcz27_0
  try clear hcz27_1
  try clear hcz27_2
  try clear hcz31_0
  try clear hcz31_1
  try clear hcz31_2
  try clear hcz34_0
  try clear hcz34_1
  try clear hcz34_2
  try clear hcz35_0
  try clear hcz35_1
  try clear hcz35_2
  try clear hcz42_0
  try clear hcz42_1
  try clear hcz42_2
  try clear hfz18_0
  try clear hfz18_1
  try clear hfz18_2
  try clear hfz21_0
  try clear hfz21_1
  try clear hfz21_2
  try clear hfz22_0
  try clear hfz22_1
  try clear hfz22_2
  try clear hfz27_0
  try clear hfz27_1
  try clear hfz27_2
  try clear hfz31_0
  try clear hfz31_1
  try clear hfz31_2
  try clear hfz34_0
  try clear hfz34_1
  try clear hfz34_2
  try clear hfz35_0
  try clear hfz35_1
  try clear hfz35_2
  try clear hfz42_0
  try clear hfz42_1
  try clear hfz42_2
  obtain ⟨kq, x34_5, rfl, HA, HJ5, HO_464000, HO_464002, HO_465001, HO_465002, HO_466001, HO_466002, BK463, BK464, BK465, HB⟩ := hcut
  cases kq with
  | zero => exact absurd HA.out (by simp [fullerlaw18_StoreApart.j0])
  | succ kj5 =>
   have H := HA.out
   clear HA
   simp only [fullerlaw18_StoreApart.j0] at H
   by_cases c44 : x34_5 = true
   ·subst c44
    have H1 : (some t466) = some r := by rw [if_pos rfl] at H; exact H
    clear H
    have H := H1
    clear H1
    obtain rfl := Option.some.inj H
    go_wp2
    go_ret
    exact ⟨by first | rfl | (simp <;> rfl) | (simp [*] <;> rfl), bq3_ HB.out GE463.out GE464.out GE465.out⟩
   ·replace c44 := Bool.eq_false_iff.mpr c44
    subst c44
    have H1 : ((store_Commit.f kj5 l0_0 a0_1 l0_2 a1 ([] : List Int) (([(⟨a2_0, (⟨l2_1, l2_2⟩ : S37)⟩ : S42)] : List (S42)))).bind fun bt476 => ((store_Commit.f kj5 l0_0 a0_1 l0_2 a1 ([] : List Int) (([(⟨a3_0, (⟨l3_1, l3_2⟩ : S37)⟩ : S42)] : List (S42)))).bind fun bt488 => ((store_Commit.f kj5 bt476.1 bt476.2.1 bt476.2.2.1 a1 ([] : List Int) (([(⟨a3_0, (⟨l3_1, l3_2⟩ : S37)⟩ : S42)] : List (S42)))).bind fun bt500 => ((store_Commit.f kj5 bt488.1 bt488.2.1 bt488.2.2.1 a1 ([] : List Int) (([(⟨a2_0, (⟨l2_1, l2_2⟩ : S37)⟩ : S42)] : List (S42)))).bind fun bt512 => (if bt476.2.2.2 = 0 then (fullerlaw18_StoreApart.j1 kj5 t466 bt476.2.2.2 bt500.2.2.2 bt512.2.2.2 (bt488.2.2.2 != 0) l0_0 a0_1 l0_2 a2_0 l2_1 l2_2 a3_0 l3_1 l3_2 bt476.1 bt476.2.1 bt476.2.2.1 bt500.1 bt500.2.1 bt500.2.2.1 bt512.1 bt512.2.1 bt512.2.2.1) else (fullerlaw18_StoreApart.j1 kj5 t466 bt476.2.2.2 bt500.2.2.2 bt512.2.2.2 true l0_0 a0_1 l0_2 a2_0 l2_1 l2_2 a3_0 l3_1 l3_2 bt476.1 bt476.2.1 bt476.2.2.1 bt500.1 bt500.2.1 bt500.2.2.1 bt512.1 bt512.2.1 bt512.2.2.1)))))) = some r := by rw [if_neg (show ¬ (false = true) by decide)] at H; exact H
    clear H
    have H := H1
    clear H1
    obtain ⟨y473, hy473⟩ : ∃ y_ : List (S42), y_ = (([(⟨a2_0, (⟨l2_1, l2_2⟩ : S37)⟩ : S42)] : List (S42))) := ⟨_, rfl⟩
    replace H : ((store_Commit.f kj5 l0_0 a0_1 l0_2 a1 ([] : List Int) y473).bind fun bt476 => ((store_Commit.f kj5 l0_0 a0_1 l0_2 a1 ([] : List Int) (([(⟨a3_0, (⟨l3_1, l3_2⟩ : S37)⟩ : S42)] : List (S42)))).bind fun bt488 => ((store_Commit.f kj5 bt476.1 bt476.2.1 bt476.2.2.1 a1 ([] : List Int) (([(⟨a3_0, (⟨l3_1, l3_2⟩ : S37)⟩ : S42)] : List (S42)))).bind fun bt500 => ((store_Commit.f kj5 bt488.1 bt488.2.1 bt488.2.2.1 a1 ([] : List Int) (([(⟨a2_0, (⟨l2_1, l2_2⟩ : S37)⟩ : S42)] : List (S42)))).bind fun bt512 => (if bt476.2.2.2 = 0 then (fullerlaw18_StoreApart.j1 kj5 t466 bt476.2.2.2 bt500.2.2.2 bt512.2.2.2 (bt488.2.2.2 != 0) l0_0 a0_1 l0_2 a2_0 l2_1 l2_2 a3_0 l3_1 l3_2 bt476.1 bt476.2.1 bt476.2.2.1 bt500.1 bt500.2.1 bt500.2.2.1 bt512.1 bt512.2.1 bt512.2.2.1) else (fullerlaw18_StoreApart.j1 kj5 t466 bt476.2.2.2 bt500.2.2.2 bt512.2.2.2 true l0_0 a0_1 l0_2 a2_0 l2_1 l2_2 a3_0 l3_1 l3_2 bt476.1 bt476.2.1 bt476.2.2.1 bt500.1 bt500.2.1 bt500.2.2.1 bt512.1 bt512.2.1 bt512.2.2.1)))))) = some r := by first | (rw [hy473]; with_reducible exact H) | (have H2_ := (Option.bind_some _ _).symm.trans H; rw [hy473]; with_reducible exact H2_) | (have H2_ := (Option.bind_some _ _).symm.trans H; with_reducible exact H2_) | with_reducible exact H | (rw [hy473]; exact H) | exact H
    have Ny473 := Aside0.mk hy473
    clear hy473
    replace H := Option.bind_eq_some_iff.mp H
    obtain ⟨⟨t476, t479, t480, t483⟩, A450, H⟩ := H
    replace H : ((store_Commit.f kj5 l0_0 a0_1 l0_2 a1 ([] : List Int) (([(⟨a3_0, (⟨l3_1, l3_2⟩ : S37)⟩ : S42)] : List (S42)))).bind fun bt488 => ((store_Commit.f kj5 t476 t479 t480 a1 ([] : List Int) (([(⟨a3_0, (⟨l3_1, l3_2⟩ : S37)⟩ : S42)] : List (S42)))).bind fun bt500 => ((store_Commit.f kj5 bt488.1 bt488.2.1 bt488.2.2.1 a1 ([] : List Int) (([(⟨a2_0, (⟨l2_1, l2_2⟩ : S37)⟩ : S42)] : List (S42)))).bind fun bt512 => (if t483 = 0 then (fullerlaw18_StoreApart.j1 kj5 t466 t483 bt500.2.2.2 bt512.2.2.2 (bt488.2.2.2 != 0) l0_0 a0_1 l0_2 a2_0 l2_1 l2_2 a3_0 l3_1 l3_2 t476 t479 t480 bt500.1 bt500.2.1 bt500.2.2.1 bt512.1 bt512.2.1 bt512.2.2.1) else (fullerlaw18_StoreApart.j1 kj5 t466 t483 bt500.2.2.2 bt512.2.2.2 true l0_0 a0_1 l0_2 a2_0 l2_1 l2_2 a3_0 l3_1 l3_2 t476 t479 t480 bt500.1 bt500.2.1 bt500.2.2.1 bt512.1 bt512.2.1 bt512.2.2.1))))) = some r := H
    have A45 := Aside0.mk A450
    clear A450
    obtain ⟨y485, hy485⟩ : ∃ y_ : List (S42), y_ = (([(⟨a3_0, (⟨l3_1, l3_2⟩ : S37)⟩ : S42)] : List (S42))) := ⟨_, rfl⟩
    replace H : ((store_Commit.f kj5 l0_0 a0_1 l0_2 a1 ([] : List Int) y485).bind fun bt488 => ((store_Commit.f kj5 t476 t479 t480 a1 ([] : List Int) (([(⟨a3_0, (⟨l3_1, l3_2⟩ : S37)⟩ : S42)] : List (S42)))).bind fun bt500 => ((store_Commit.f kj5 bt488.1 bt488.2.1 bt488.2.2.1 a1 ([] : List Int) (([(⟨a2_0, (⟨l2_1, l2_2⟩ : S37)⟩ : S42)] : List (S42)))).bind fun bt512 => (if t483 = 0 then (fullerlaw18_StoreApart.j1 kj5 t466 t483 bt500.2.2.2 bt512.2.2.2 (bt488.2.2.2 != 0) l0_0 a0_1 l0_2 a2_0 l2_1 l2_2 a3_0 l3_1 l3_2 t476 t479 t480 bt500.1 bt500.2.1 bt500.2.2.1 bt512.1 bt512.2.1 bt512.2.2.1) else (fullerlaw18_StoreApart.j1 kj5 t466 t483 bt500.2.2.2 bt512.2.2.2 true l0_0 a0_1 l0_2 a2_0 l2_1 l2_2 a3_0 l3_1 l3_2 t476 t479 t480 bt500.1 bt500.2.1 bt500.2.2.1 bt512.1 bt512.2.1 bt512.2.2.1))))) = some r := by first | (rw [hy485]; with_reducible exact H) | (have H2_ := (Option.bind_some _ _).symm.trans H; rw [hy485]; with_reducible exact H2_) | (have H2_ := (Option.bind_some _ _).symm.trans H; with_reducible exact H2_) | with_reducible exact H | (rw [hy485]; exact H) | exact H
    have Ny485 := Aside0.mk hy485
    clear hy485
    replace H := Option.bind_eq_some_iff.mp H
    obtain ⟨⟨t488, t491, t492, t495⟩, A460, H⟩ := H
    replace H : ((store_Commit.f kj5 t476 t479 t480 a1 ([] : List Int) (([(⟨a3_0, (⟨l3_1, l3_2⟩ : S37)⟩ : S42)] : List (S42)))).bind fun bt500 => ((store_Commit.f kj5 t488 t491 t492 a1 ([] : List Int) (([(⟨a2_0, (⟨l2_1, l2_2⟩ : S37)⟩ : S42)] : List (S42)))).bind fun bt512 => (if t483 = 0 then (fullerlaw18_StoreApart.j1 kj5 t466 t483 bt500.2.2.2 bt512.2.2.2 (t495 != 0) l0_0 a0_1 l0_2 a2_0 l2_1 l2_2 a3_0 l3_1 l3_2 t476 t479 t480 bt500.1 bt500.2.1 bt500.2.2.1 bt512.1 bt512.2.1 bt512.2.2.1) else (fullerlaw18_StoreApart.j1 kj5 t466 t483 bt500.2.2.2 bt512.2.2.2 true l0_0 a0_1 l0_2 a2_0 l2_1 l2_2 a3_0 l3_1 l3_2 t476 t479 t480 bt500.1 bt500.2.1 bt500.2.2.1 bt512.1 bt512.2.1 bt512.2.2.1)))) = some r := H
    have A46 := Aside0.mk A460
    clear A460
    obtain ⟨y497, hy497⟩ : ∃ y_ : List (S42), y_ = (([(⟨a3_0, (⟨l3_1, l3_2⟩ : S37)⟩ : S42)] : List (S42))) := ⟨_, rfl⟩
    replace H : ((store_Commit.f kj5 t476 t479 t480 a1 ([] : List Int) y497).bind fun bt500 => ((store_Commit.f kj5 t488 t491 t492 a1 ([] : List Int) (([(⟨a2_0, (⟨l2_1, l2_2⟩ : S37)⟩ : S42)] : List (S42)))).bind fun bt512 => (if t483 = 0 then (fullerlaw18_StoreApart.j1 kj5 t466 t483 bt500.2.2.2 bt512.2.2.2 (t495 != 0) l0_0 a0_1 l0_2 a2_0 l2_1 l2_2 a3_0 l3_1 l3_2 t476 t479 t480 bt500.1 bt500.2.1 bt500.2.2.1 bt512.1 bt512.2.1 bt512.2.2.1) else (fullerlaw18_StoreApart.j1 kj5 t466 t483 bt500.2.2.2 bt512.2.2.2 true l0_0 a0_1 l0_2 a2_0 l2_1 l2_2 a3_0 l3_1 l3_2 t476 t479 t480 bt500.1 bt500.2.1 bt500.2.2.1 bt512.1 bt512.2.1 bt512.2.2.1)))) = some r := by first | (rw [hy497]; with_reducible exact H) | (have H2_ := (Option.bind_some _ _).symm.trans H; rw [hy497]; with_reducible exact H2_) | (have H2_ := (Option.bind_some _ _).symm.trans H; with_reducible exact H2_) | with_reducible exact H | (rw [hy497]; exact H) | exact H
    have Ny497 := Aside0.mk hy497
    clear hy497
    replace H := Option.bind_eq_some_iff.mp H
    obtain ⟨⟨t500, t503, t504, t507⟩, A470, H⟩ := H
    replace H : ((store_Commit.f kj5 t488 t491 t492 a1 ([] : List Int) (([(⟨a2_0, (⟨l2_1, l2_2⟩ : S37)⟩ : S42)] : List (S42)))).bind fun bt512 => (if t483 = 0 then (fullerlaw18_StoreApart.j1 kj5 t466 t483 t507 bt512.2.2.2 (t495 != 0) l0_0 a0_1 l0_2 a2_0 l2_1 l2_2 a3_0 l3_1 l3_2 t476 t479 t480 t500 t503 t504 bt512.1 bt512.2.1 bt512.2.2.1) else (fullerlaw18_StoreApart.j1 kj5 t466 t483 t507 bt512.2.2.2 true l0_0 a0_1 l0_2 a2_0 l2_1 l2_2 a3_0 l3_1 l3_2 t476 t479 t480 t500 t503 t504 bt512.1 bt512.2.1 bt512.2.2.1))) = some r := H
    have A47 := Aside0.mk A470
    clear A470
    obtain ⟨y509, hy509⟩ : ∃ y_ : List (S42), y_ = (([(⟨a2_0, (⟨l2_1, l2_2⟩ : S37)⟩ : S42)] : List (S42))) := ⟨_, rfl⟩
    replace H : ((store_Commit.f kj5 t488 t491 t492 a1 ([] : List Int) y509).bind fun bt512 => (if t483 = 0 then (fullerlaw18_StoreApart.j1 kj5 t466 t483 t507 bt512.2.2.2 (t495 != 0) l0_0 a0_1 l0_2 a2_0 l2_1 l2_2 a3_0 l3_1 l3_2 t476 t479 t480 t500 t503 t504 bt512.1 bt512.2.1 bt512.2.2.1) else (fullerlaw18_StoreApart.j1 kj5 t466 t483 t507 bt512.2.2.2 true l0_0 a0_1 l0_2 a2_0 l2_1 l2_2 a3_0 l3_1 l3_2 t476 t479 t480 t500 t503 t504 bt512.1 bt512.2.1 bt512.2.2.1))) = some r := by first | (rw [hy509]; with_reducible exact H) | (have H2_ := (Option.bind_some _ _).symm.trans H; rw [hy509]; with_reducible exact H2_) | (have H2_ := (Option.bind_some _ _).symm.trans H; with_reducible exact H2_) | with_reducible exact H | (rw [hy509]; exact H) | exact H
    have Ny509 := Aside0.mk hy509
    clear hy509
    replace H := Option.bind_eq_some_iff.mp H
    obtain ⟨⟨t512, t515, t516, t519⟩, A480, H⟩ := H
    replace H : (if t483 = 0 then (fullerlaw18_StoreApart.j1 kj5 t466 t483 t507 t519 (t495 != 0) l0_0 a0_1 l0_2 a2_0 l2_1 l2_2 a3_0 l3_1 l3_2 t476 t479 t480 t500 t503 t504 t512 t515 t516) else (fullerlaw18_StoreApart.j1 kj5 t466 t483 t507 t519 true l0_0 a0_1 l0_2 a2_0 l2_1 l2_2 a3_0 l3_1 l3_2 t476 t479 t480 t500 t503 t504 t512 t515 t516)) = some r := H
    have A48 := Aside0.mk A480
    clear A480
    have HC49 := Aside0.mk H
    clear H
    have hnb50 := NB463_464.out
    have hnc50 := NB464_463.out
    have hnb51 := NB463_465.out
    have hnc51 := NB465_463.out
    have hcz52_0 := cz0_ BK463.out
    have hcz52_1 := cz1_ BK463.out
    have hcz52_2 := cz2_ BK463.out
    have hfz52_0 := blk_frozen BK463.out 0
    have hfz52_1 := blk_frozen BK463.out 1
    have hfz52_2 := blk_frozen BK463.out 2
    have hnb53 := NB464_465.out
    have hnc53 := NB465_464.out
    have hcz54_0 := cz0_ BK464.out
    have hcz54_1 := cz1_ BK464.out
    have hcz54_2 := cz2_ BK464.out
    have hfz54_0 := blk_frozen BK464.out 0
    have hfz54_1 := blk_frozen BK464.out 1
    have hfz54_2 := blk_frozen BK464.out 2
    go_upto_region 8 with (first | ((with_reducible refine gate_dst (N := 40) rfl ?_); (try (refine gate_guard (by rfl) ?_; dsimp only)); refine Kd.N_lit k42 _ 42 ?hg (N' := 40) ?hd (xs := ([(⟨a2_0, (⟨l2_1, l2_2⟩ : S37)⟩ : S42)] : List (S42))) (inner := [.int .i64 a2_0, .slice A2_1 l2_1.length c2_1, .slice A2_2 l2_2.length c2_2]) (ok := (fun k_ => ((P0_0_ k_ ∨ P0_2_ k_ ∨ P2_1_ k_ ∨ P2_2_ k_ ∨ P3_1_ k_ ∨ P3_2_ k_) ∨ w.heap.size ≤ k_) ∧ k_ ≠ gb463 ∧ k_ ≠ gb464 ∧ k_ ≠ gb465)) (okp := (fun k_ => ((P0_0_ k_ ∨ P0_2_ k_ ∨ P2_1_ k_ ∨ P2_2_ k_ ∨ P3_1_ k_ ∨ P3_2_ k_) ∨ w.heap.size ≤ k_) ∧ k_ ≠ gb463 ∧ k_ ≠ gb464 ∧ k_ ≠ gb465)) ?hr ?hp (fun _ hk => hk) ((show ∀ k_, wc.heap.size ≤ k_ → (fun k_ => ((P0_0_ k_ ∨ P0_2_ k_ ∨ P2_1_ k_ ∨ P2_2_ k_ ∨ P3_1_ k_ ∨ P3_2_ k_) ∨ w.heap.size ≤ k_) ∧ k_ ≠ gb463 ∧ k_ ≠ gb464 ∧ k_ ≠ gb465) k_ from fun k_ hk => ⟨(.inr (Nat.le_trans (below_size (bq3_ HB.out GE463.out GE464.out GE465.out)) hk)), mvF_ BK463.out hk, mvF_ BK464.out hk, mvF_ BK465.out hk⟩) _ (Nat.le_refl _)) (Below.refl _ _) (Nat.le_refl _) (by simp) ?_; (case hd => rfl); (case hg => rfl); (case hr => first | (go_simp; done) | (go_simp; rfl)); (case hp => exact (Reps.c3 (show Kd.FK k42 _ _ (⟨a2_0, (⟨l2_1, l2_2⟩ : S37)⟩ : S42) [.int .i64 a2_0, .slice A2_1 l2_1.length c2_1, .slice A2_2 l2_2.length c2_2] from (k42_mkF _ _ (⟨a2_0, (⟨l2_1, l2_2⟩ : S37)⟩ : S42) (Kd.V_reads' (Kd.V_mono (ok' := (fun k_ => ((P0_0_ k_ ∨ P0_2_ k_ ∨ P2_1_ k_ ∨ P2_2_ k_ ∨ P3_1_ k_ ∨ P3_2_ k_) ∨ w.heap.size ≤ k_) ∧ k_ ≠ gb463 ∧ k_ ≠ gb464 ∧ k_ ≠ gb465)) (HO_465001.out) (fun k_ hk => ⟨hk.1, ⟨hk.2.1, ⟨hk.2.2.1, hk.2.2.2⟩⟩⟩))).2.1 (Kd.V_F (Kd.V_mono (ok' := (fun k_ => ((P0_0_ k_ ∨ P0_2_ k_ ∨ P2_1_ k_ ∨ P2_2_ k_ ∨ P3_1_ k_ ∨ P3_2_ k_) ∨ w.heap.size ≤ k_) ∧ k_ ≠ gb463 ∧ k_ ≠ gb464 ∧ k_ ≠ gb465)) (HO_465001.out) (fun k_ hk => ⟨hk.1, ⟨hk.2.1, ⟨hk.2.2.1, hk.2.2.2⟩⟩⟩))) (Kd.V_reads' (Kd.V_mono (ok' := (fun k_ => ((P0_0_ k_ ∨ P0_2_ k_ ∨ P2_1_ k_ ∨ P2_2_ k_ ∨ P3_1_ k_ ∨ P3_2_ k_) ∨ w.heap.size ≤ k_) ∧ k_ ≠ gb463 ∧ k_ ≠ gb464 ∧ k_ ≠ gb465)) (HO_465002.out) (fun k_ hk => ⟨hk.1, ⟨hk.2.1, ⟨hk.2.2.1, hk.2.2.2⟩⟩⟩))).2.1 (Kd.V_F (Kd.V_mono (ok' := (fun k_ => ((P0_0_ k_ ∨ P0_2_ k_ ∨ P2_1_ k_ ∨ P2_2_ k_ ∨ P3_1_ k_ ∨ P3_2_ k_) ∨ w.heap.size ≤ k_) ∧ k_ ≠ gb463 ∧ k_ ≠ gb464 ∧ k_ ≠ gb465)) (HO_465002.out) (fun k_ hk => ⟨hk.1, ⟨hk.2.1, ⟨hk.2.2.1, hk.2.2.2⟩⟩⟩))))) (Reps.none _ _))); intro v474 w55 ho56 hb hg_ hnew_; clear hg_ hnew_; (first | rw [← Ny473.out] at ho56 | (simp only [Int.reduceToNat] at ho56; rw [← Ny473.out] at ho56)); have HO475 := Aside0.mk (Kd.N_lower ho56 (below_size (bq3_ HB.out GE463.out GE464.out GE465.out))); replace HO_464000 := mbV_ HO_464000.out hb; replace HO_464002 := mbV_ HO_464002.out hb; replace HO_465001 := mbV_ HO_465001.out hb; replace HO_465002 := mbV_ HO_465002.out hb; replace HO_466001 := mbV_ HO_466001.out hb; replace HO_466002 := mbV_ HO_466002.out hb; replace BK463 := mvB_ BK463.out hb; replace BK464 := mvB_ BK464.out hb; replace BK465 := mvB_ BK465.out hb; replace HB := Aside0.mk (below_step (bq3_ HB.out GE463.out GE464.out GE465.out) hb); clear hb ho56; obtain ⟨Ao57, co57, eo57⟩ := Kd.N_slice HO475.out; subst eo57) | ((with_reducible refine gate_callee (f := 10) rfl ?_); refine gL_ (some 41) Try.func10 #[.agg #[.slice A0_0 l0_0.length c0_0, .int .i64 a0_1, .slice A0_2 l0_2.length c0_2], .int .i64 a1, .slice none 0 0, .slice Ao57 y473.length co57] ?_; (refine (store_Commit.calls kj5 (fun k_ => (((P0_0_ k_ ∨ P0_2_ k_ ∨ P2_1_ k_ ∨ P2_2_ k_ ∨ P3_1_ k_ ∨ P3_2_ k_) ∨ w.heap.size ≤ k_) ∧ (k_ ≠ gb463 ∧ (k_ ≠ gb464 ∧ k_ ≠ gb465)))) _ _ l0_0 a0_1 (fun k_ => (((P0_0_ k_ ∨ P0_2_ k_ ∨ P2_1_ k_ ∨ P2_2_ k_ ∨ P3_1_ k_ ∨ P3_2_ k_) ∨ w.heap.size ≤ k_) ∧ (k_ ≠ gb463 ∧ (k_ ≠ gb464 ∧ k_ ≠ gb465)))) _ _ l0_2 a1 _ _ ([] : List Int) _ _ y473 t476 t479 t480 t483 _ ?side1 ?side2 ?side3 ?side4 ?side5 ?side6 A45.out).mono ?_); (case side1 => (with_reducible repeat (first | apply Kd.V_alloc | apply Kd.V_drewN | apply Kd.V_drew)); first | with_reducible exact HO_464000.out | exact HO_464000.out | exact Kd.V_mono HO_464000.out (fun _ h_ => by simpa only [and_assoc, and_comm, and_left_comm] using h_)); (case side2 => (with_reducible repeat (first | apply Kd.V_alloc | apply Kd.V_drewN | apply Kd.V_drew)); first | with_reducible exact HO_464002.out | exact HO_464002.out | exact Kd.V_mono HO_464002.out (fun _ h_ => by simpa only [and_assoc, and_comm, and_left_comm] using h_)); (case side3 => exact Kd.C_nil _ _); (case side4 => exact Nat.le_refl _); (case side5 => exact mvC_ ((Kd.N_reads' HO475.out).2.2)); (case side6 => exact (Kd.N_reads' HO475.out).2.1); rintro e w58 ⟨v477, v481, rfl, ho0, ho1, hb⟩; refine ⟨_, rfl, ?_⟩; have HO478 := Aside0.mk (Kd.V_lower (Kd.V_mono (ok' := fun k_ => ((P0_0_ k_ ∨ P0_2_ k_ ∨ P2_1_ k_ ∨ P2_2_ k_ ∨ P3_1_ k_ ∨ P3_2_ k_) ∨ w.heap.size ≤ k_) ∧ k_ ≠ gb463 ∧ k_ ≠ gb464 ∧ k_ ≠ gb465) ho0 (fun k_ hk_ => ⟨Or.elim hk_ (fun hs_ => Or.elim hs_ (fun hs_ => hs_.1) (fun hs_ => hs_.1)) (fun hn_ => (.inr (Nat.le_trans (below_size (bq3_ HB.out GE463.out GE464.out GE465.out)) hn_))), Or.elim hk_ (fun hs_ => Or.elim hs_ (fun hs_ => hs_.2.1) (fun hs_ => hs_.2.1)) (fun hn_ => (mvF_ BK463.out hn_)), Or.elim hk_ (fun hs_ => Or.elim hs_ (fun hs_ => hs_.2.2.1) (fun hs_ => hs_.2.2.1)) (fun hn_ => (mvF_ BK464.out hn_)), Or.elim hk_ (fun hs_ => Or.elim hs_ (fun hs_ => hs_.2.2.2) (fun hs_ => hs_.2.2.2)) (fun hn_ => (mvF_ BK465.out hn_))⟩)) (below_size (bq3_ HB.out GE463.out GE464.out GE465.out))); have HO482 := Aside0.mk (Kd.V_lower (Kd.V_mono (ok' := fun k_ => ((P0_0_ k_ ∨ P0_2_ k_ ∨ P2_1_ k_ ∨ P2_2_ k_ ∨ P3_1_ k_ ∨ P3_2_ k_) ∨ w.heap.size ≤ k_) ∧ k_ ≠ gb463 ∧ k_ ≠ gb464 ∧ k_ ≠ gb465) ho1 (fun k_ hk_ => ⟨Or.elim hk_ (fun hs_ => Or.elim hs_ (fun hs_ => hs_.1) (fun hs_ => hs_.1)) (fun hn_ => (.inr (Nat.le_trans (below_size (bq3_ HB.out GE463.out GE464.out GE465.out)) hn_))), Or.elim hk_ (fun hs_ => Or.elim hs_ (fun hs_ => hs_.2.1) (fun hs_ => hs_.2.1)) (fun hn_ => (mvF_ BK463.out hn_)), Or.elim hk_ (fun hs_ => Or.elim hs_ (fun hs_ => hs_.2.2.1) (fun hs_ => hs_.2.2.1)) (fun hn_ => (mvF_ BK464.out hn_)), Or.elim hk_ (fun hs_ => Or.elim hs_ (fun hs_ => hs_.2.2.2) (fun hs_ => hs_.2.2.2)) (fun hn_ => (mvF_ BK465.out hn_))⟩)) (below_size (bq3_ HB.out GE463.out GE464.out GE465.out))); replace HO_464000 := mbV_ HO_464000.out hb; replace HO_464002 := mbV_ HO_464002.out hb; replace HO_465001 := mbV_ HO_465001.out hb; replace HO_465002 := mbV_ HO_465002.out hb; replace HO_466001 := mbV_ HO_466001.out hb; replace HO_466002 := mbV_ HO_466002.out hb; replace HO475 := mbN_ HO475.out hb; replace BK463 := mvB_ BK463.out hb; replace BK464 := mvB_ BK464.out hb; replace BK465 := mvB_ BK465.out hb; replace HB := Aside0.mk (below_step (bq3_ HB.out GE463.out GE464.out GE465.out) hb); (try clear hb); (try clear ho0); (try clear ho1)) | ((with_reducible refine gate_dst (N := 10) rfl ?_); (try (refine gate_guard (by rfl) ?_; dsimp only)); refine box_event ?hg (N := 10) ?hd (cs := #[.slice none 0 0, .int .i64 0, .slice none 0 0]) (t := 25) ?hr ?_; (case hd => rfl); (case hg => rfl); (case hr => first | (go_simp; done) | (go_simp; rfl)); intro gb484 hg w59 hbox hb; have BK484 := Aside0.mk (hbox); have GW484 := Aside0.mk ((by rw [hg]; exact (below_size (bq3_ HB.out GE463.out GE464.out GE465.out)) : w.heap.size ≤ gb484)); have GE484 := Aside0.mk ((by rw [hg]; exact (below_size (bq3_ HB.out GE463.out GE464.out GE465.out)) : w.heap.size ≤ gb484)); have NB463_484 := Aside0.mk ((by rw [hg]; exact Nat.ne_of_lt (blk_lt (g := gb463) (o := .cells #[.slice A0_0 l0_0.length c0_0, .int .i64 a0_1, .slice A0_2 l0_2.length c0_2] 25 (0, 0)) (mvK_ BK463.out)) : gb463 ≠ gb484)); have NB484_463 := Aside0.mk ((by rw [hg]; exact Nat.ne_of_gt (blk_lt (g := gb463) (o := .cells #[.slice A0_0 l0_0.length c0_0, .int .i64 a0_1, .slice A0_2 l0_2.length c0_2] 25 (0, 0)) (mvK_ BK463.out)) : gb484 ≠ gb463)); have NB464_484 := Aside0.mk ((by rw [hg]; exact Nat.ne_of_lt (blk_lt (g := gb464) (o := .cells #[.int .i64 a2_0, .slice A2_1 l2_1.length c2_1, .slice A2_2 l2_2.length c2_2] 42 (0, 0)) (mvK_ BK464.out)) : gb464 ≠ gb484)); have NB484_464 := Aside0.mk ((by rw [hg]; exact Nat.ne_of_gt (blk_lt (g := gb464) (o := .cells #[.int .i64 a2_0, .slice A2_1 l2_1.length c2_1, .slice A2_2 l2_2.length c2_2] 42 (0, 0)) (mvK_ BK464.out)) : gb484 ≠ gb464)); have NB465_484 := Aside0.mk ((by rw [hg]; exact Nat.ne_of_lt (blk_lt (g := gb465) (o := .cells #[.int .i64 a3_0, .slice A3_1 l3_1.length c3_1, .slice A3_2 l3_2.length c3_2] 42 (0, 0)) (mvK_ BK465.out)) : gb465 ≠ gb484)); have NB484_465 := Aside0.mk ((by rw [hg]; exact Nat.ne_of_gt (blk_lt (g := gb465) (o := .cells #[.int .i64 a3_0, .slice A3_1 l3_1.length c3_1, .slice A3_2 l3_2.length c3_2] 42 (0, 0)) (mvK_ BK465.out)) : gb484 ≠ gb465)); replace HO_464000 := Aside0.mk (Kd.V_below (Kd.V_elderB (mvV_ HO_464000.out) gb484 (Nat.le_of_eq hg.symm)) hb); replace HO_464002 := Aside0.mk (Kd.V_below (Kd.V_elderB (mvV_ HO_464002.out) gb484 (Nat.le_of_eq hg.symm)) hb); replace HO_465001 := Aside0.mk (Kd.V_below (Kd.V_elderB (mvV_ HO_465001.out) gb484 (Nat.le_of_eq hg.symm)) hb); replace HO_465002 := Aside0.mk (Kd.V_below (Kd.V_elderB (mvV_ HO_465002.out) gb484 (Nat.le_of_eq hg.symm)) hb); replace HO_466001 := Aside0.mk (Kd.V_below (Kd.V_elderB (mvV_ HO_466001.out) gb484 (Nat.le_of_eq hg.symm)) hb); replace HO_466002 := Aside0.mk (Kd.V_below (Kd.V_elderB (mvV_ HO_466002.out) gb484 (Nat.le_of_eq hg.symm)) hb); replace HO475 := Aside0.mk (Kd.N_below (Kd.N_elderB (mvN_ HO475.out) gb484 (Nat.le_of_eq hg.symm)) hb); replace HO478 := Aside0.mk (Kd.V_below (Kd.V_elderB (mvV_ HO478.out) gb484 (Nat.le_of_eq hg.symm)) hb); replace HO482 := Aside0.mk (Kd.V_below (Kd.V_elderB (mvV_ HO482.out) gb484 (Nat.le_of_eq hg.symm)) hb); replace BK463 := mvB_ BK463.out hb; replace BK464 := mvB_ BK464.out hb; replace BK465 := mvB_ BK465.out hb; replace HB := Aside0.mk (below_step (bq3_ HB.out GE463.out GE464.out GE465.out) hb); clear hb hbox hg; obtain ⟨Ao60, co60, eo60⟩ := Kd.V_slice HO478.out; subst eo60; have hnb61 := NB484_463.out; have hnc61 := NB463_484.out; have hnb62 := NB484_464.out; have hnc62 := NB464_484.out; have hnb63 := NB484_465.out; have hnc63 := NB465_484.out; have hcz64_0 := cz0_ BK484.out; have hcz64_1 := cz1_ BK484.out; have hcz64_2 := cz2_ BK484.out; have hfz64_0 := blk_frozen BK484.out 0; have hfz64_1 := blk_frozen BK484.out 1; have hfz64_2 := blk_frozen BK484.out 2; obtain ⟨Ao65, co65, eo65⟩ := Kd.V_slice HO482.out; subst eo65) | ((with_reducible refine gate_store (t := 25) (p := 10) rfl ?_); refine store_event (t := 25) (p := 10) (v := ?vo_w66) (w1 := (((w59.setCell ⟨gb484, 0, none⟩ (.slice Ao60 t476.length co60)).setCell ⟨gb484, 1, none⟩ (.int .i64 t479)).setCell ⟨gb484, 2, none⟩ (.slice Ao65 t480.length co65))) ?hg ?ho ?hn ?hr ?_; (case ho => rfl); (case hg => rfl); (case hn => rfl); (case hr => first | (go_simp; done) | (go_simp; rfl)); intro w66 hw; have n0_ : Aside0 (Kd.V (Kd.slice 74 k74) 54 w66 w.heap.size (fun k_ => ((P0_0_ k_ ∨ P0_2_ k_ ∨ P2_1_ k_ ∨ P2_2_ k_ ∨ P3_1_ k_ ∨ P3_2_ k_) ∨ w.heap.size ≤ k_) ∧ k_ ≠ gb463 ∧ k_ ≠ gb464 ∧ k_ ≠ gb465 ∧ k_ ≠ gb484) (.slice A0_0 l0_0.length c0_0) l0_0) := ⟨(by rw [hw]; exact (by (with_reducible repeat (first | apply Kd.V_alloc | apply Kd.V_drewN | apply Kd.V_drew)); exact Kd.V_mono (Kd.V_far (p := ⟨gb484, 2, none⟩) (Kd.V_far (p := ⟨gb484, 1, none⟩) (Kd.V_far (p := ⟨gb484, 0, none⟩) (Kd.V_mono HO_464000.out (fun k_ hk => (⟨hk, hk.2⟩ : _ ∧ k_ ≠ gb484))) (fun _ hk => hk.2) (.slice Ao60 t476.length co60)) (fun _ hk => hk.2) (.int .i64 t479)) (fun _ hk => hk.2) (.slice Ao65 t480.length co65)) (fun _ hk => ⟨hk.1.1.1, ⟨hk.1.1.2.1, ⟨hk.1.1.2.2.1, ⟨hk.1.1.2.2.2, hk.1.2⟩⟩⟩⟩)))⟩; have n1_ : Aside0 (Kd.V (Kd.int .i64) 3 w66 w.heap.size (fun k_ => ((P0_0_ k_ ∨ P0_2_ k_ ∨ P2_1_ k_ ∨ P2_2_ k_ ∨ P3_1_ k_ ∨ P3_2_ k_) ∨ w.heap.size ≤ k_) ∧ k_ ≠ gb463 ∧ k_ ≠ gb464 ∧ k_ ≠ gb465 ∧ k_ ≠ gb484) (.slice A0_2 l0_2.length c0_2) l0_2) := ⟨(by rw [hw]; exact (by (with_reducible repeat (first | apply Kd.V_alloc | apply Kd.V_drewN | apply Kd.V_drew)); exact Kd.V_mono (Kd.V_far (p := ⟨gb484, 2, none⟩) (Kd.V_far (p := ⟨gb484, 1, none⟩) (Kd.V_far (p := ⟨gb484, 0, none⟩) (Kd.V_mono HO_464002.out (fun k_ hk => (⟨hk, hk.2⟩ : _ ∧ k_ ≠ gb484))) (fun _ hk => hk.2) (.slice Ao60 t476.length co60)) (fun _ hk => hk.2) (.int .i64 t479)) (fun _ hk => hk.2) (.slice Ao65 t480.length co65)) (fun _ hk => ⟨hk.1.1.1, ⟨hk.1.1.2.1, ⟨hk.1.1.2.2.1, ⟨hk.1.1.2.2.2, hk.1.2⟩⟩⟩⟩)))⟩; have n2_ : Aside0 (Kd.V (Kd.int .i64) 3 w66 w.heap.size (fun k_ => ((P0_0_ k_ ∨ P0_2_ k_ ∨ P2_1_ k_ ∨ P2_2_ k_ ∨ P3_1_ k_ ∨ P3_2_ k_) ∨ w.heap.size ≤ k_) ∧ k_ ≠ gb463 ∧ k_ ≠ gb464 ∧ k_ ≠ gb465 ∧ k_ ≠ gb484) (.slice A2_1 l2_1.length c2_1) l2_1) := ⟨(by rw [hw]; exact (by (with_reducible repeat (first | apply Kd.V_alloc | apply Kd.V_drewN | apply Kd.V_drew)); exact Kd.V_mono (Kd.V_far (p := ⟨gb484, 2, none⟩) (Kd.V_far (p := ⟨gb484, 1, none⟩) (Kd.V_far (p := ⟨gb484, 0, none⟩) (Kd.V_mono HO_465001.out (fun k_ hk => (⟨hk, hk.2⟩ : _ ∧ k_ ≠ gb484))) (fun _ hk => hk.2) (.slice Ao60 t476.length co60)) (fun _ hk => hk.2) (.int .i64 t479)) (fun _ hk => hk.2) (.slice Ao65 t480.length co65)) (fun _ hk => ⟨hk.1.1.1, ⟨hk.1.1.2.1, ⟨hk.1.1.2.2.1, ⟨hk.1.1.2.2.2, hk.1.2⟩⟩⟩⟩)))⟩; have n3_ : Aside0 (Kd.V (Kd.int .i64) 3 w66 w.heap.size (fun k_ => ((P0_0_ k_ ∨ P0_2_ k_ ∨ P2_1_ k_ ∨ P2_2_ k_ ∨ P3_1_ k_ ∨ P3_2_ k_) ∨ w.heap.size ≤ k_) ∧ k_ ≠ gb463 ∧ k_ ≠ gb464 ∧ k_ ≠ gb465 ∧ k_ ≠ gb484) (.slice A2_2 l2_2.length c2_2) l2_2) := ⟨(by rw [hw]; exact (by (with_reducible repeat (first | apply Kd.V_alloc | apply Kd.V_drewN | apply Kd.V_drew)); exact Kd.V_mono (Kd.V_far (p := ⟨gb484, 2, none⟩) (Kd.V_far (p := ⟨gb484, 1, none⟩) (Kd.V_far (p := ⟨gb484, 0, none⟩) (Kd.V_mono HO_465002.out (fun k_ hk => (⟨hk, hk.2⟩ : _ ∧ k_ ≠ gb484))) (fun _ hk => hk.2) (.slice Ao60 t476.length co60)) (fun _ hk => hk.2) (.int .i64 t479)) (fun _ hk => hk.2) (.slice Ao65 t480.length co65)) (fun _ hk => ⟨hk.1.1.1, ⟨hk.1.1.2.1, ⟨hk.1.1.2.2.1, ⟨hk.1.1.2.2.2, hk.1.2⟩⟩⟩⟩)))⟩; have n4_ : Aside0 (Kd.V (Kd.int .i64) 3 w66 w.heap.size (fun k_ => ((P0_0_ k_ ∨ P0_2_ k_ ∨ P2_1_ k_ ∨ P2_2_ k_ ∨ P3_1_ k_ ∨ P3_2_ k_) ∨ w.heap.size ≤ k_) ∧ k_ ≠ gb463 ∧ k_ ≠ gb464 ∧ k_ ≠ gb465 ∧ k_ ≠ gb484) (.slice A3_1 l3_1.length c3_1) l3_1) := ⟨(by rw [hw]; exact (by (with_reducible repeat (first | apply Kd.V_alloc | apply Kd.V_drewN | apply Kd.V_drew)); exact Kd.V_mono (Kd.V_far (p := ⟨gb484, 2, none⟩) (Kd.V_far (p := ⟨gb484, 1, none⟩) (Kd.V_far (p := ⟨gb484, 0, none⟩) (Kd.V_mono HO_466001.out (fun k_ hk => (⟨hk, hk.2⟩ : _ ∧ k_ ≠ gb484))) (fun _ hk => hk.2) (.slice Ao60 t476.length co60)) (fun _ hk => hk.2) (.int .i64 t479)) (fun _ hk => hk.2) (.slice Ao65 t480.length co65)) (fun _ hk => ⟨hk.1.1.1, ⟨hk.1.1.2.1, ⟨hk.1.1.2.2.1, ⟨hk.1.1.2.2.2, hk.1.2⟩⟩⟩⟩)))⟩; have n5_ : Aside0 (Kd.V (Kd.int .i64) 3 w66 w.heap.size (fun k_ => ((P0_0_ k_ ∨ P0_2_ k_ ∨ P2_1_ k_ ∨ P2_2_ k_ ∨ P3_1_ k_ ∨ P3_2_ k_) ∨ w.heap.size ≤ k_) ∧ k_ ≠ gb463 ∧ k_ ≠ gb464 ∧ k_ ≠ gb465 ∧ k_ ≠ gb484) (.slice A3_2 l3_2.length c3_2) l3_2) := ⟨(by rw [hw]; exact (by (with_reducible repeat (first | apply Kd.V_alloc | apply Kd.V_drewN | apply Kd.V_drew)); exact Kd.V_mono (Kd.V_far (p := ⟨gb484, 2, none⟩) (Kd.V_far (p := ⟨gb484, 1, none⟩) (Kd.V_far (p := ⟨gb484, 0, none⟩) (Kd.V_mono HO_466002.out (fun k_ hk => (⟨hk, hk.2⟩ : _ ∧ k_ ≠ gb484))) (fun _ hk => hk.2) (.slice Ao60 t476.length co60)) (fun _ hk => hk.2) (.int .i64 t479)) (fun _ hk => hk.2) (.slice Ao65 t480.length co65)) (fun _ hk => ⟨hk.1.1.1, ⟨hk.1.1.2.1, ⟨hk.1.1.2.2.1, ⟨hk.1.1.2.2.2, hk.1.2⟩⟩⟩⟩)))⟩; have n6_ : Aside0 (Kd.N k42 42 w66 w.heap.size (fun k_ => ((P0_0_ k_ ∨ P0_2_ k_ ∨ P2_1_ k_ ∨ P2_2_ k_ ∨ P3_1_ k_ ∨ P3_2_ k_) ∨ w.heap.size ≤ k_) ∧ k_ ≠ gb463 ∧ k_ ≠ gb464 ∧ k_ ≠ gb465 ∧ k_ ≠ gb484) (.slice Ao57 y473.length co57) y473) := ⟨(by rw [hw]; exact (by (with_reducible repeat (first | apply Kd.N_alloc | apply Kd.N_drewN | apply Kd.N_drew)); exact Kd.N_mono (Kd.N_far (p := ⟨gb484, 2, none⟩) (Kd.N_far (p := ⟨gb484, 1, none⟩) (Kd.N_far (p := ⟨gb484, 0, none⟩) (Kd.N_mono HO475.out (fun k_ hk => (⟨hk, hk.2⟩ : _ ∧ k_ ≠ gb484))) (fun _ hk => hk.2) (.slice Ao60 t476.length co60)) (fun _ hk => hk.2) (.int .i64 t479)) (fun _ hk => hk.2) (.slice Ao65 t480.length co65)) (fun _ hk => ⟨hk.1.1.1, ⟨hk.1.1.2.1, ⟨hk.1.1.2.2.1, ⟨hk.1.1.2.2.2, hk.1.2⟩⟩⟩⟩)))⟩; have n7_ : Aside0 (Kd.V (Kd.slice 74 k74) 54 w66 w.heap.size (fun k_ => ((P0_0_ k_ ∨ P0_2_ k_ ∨ P2_1_ k_ ∨ P2_2_ k_ ∨ P3_1_ k_ ∨ P3_2_ k_) ∨ w.heap.size ≤ k_) ∧ k_ ≠ gb463 ∧ k_ ≠ gb464 ∧ k_ ≠ gb465 ∧ k_ ≠ gb484) (.slice Ao60 t476.length co60) t476) := ⟨(by rw [hw]; exact (by (with_reducible repeat (first | apply Kd.V_alloc | apply Kd.V_drewN | apply Kd.V_drew)); exact Kd.V_mono (Kd.V_far (p := ⟨gb484, 2, none⟩) (Kd.V_far (p := ⟨gb484, 1, none⟩) (Kd.V_far (p := ⟨gb484, 0, none⟩) (Kd.V_mono HO478.out (fun k_ hk => (⟨hk, hk.2⟩ : _ ∧ k_ ≠ gb484))) (fun _ hk => hk.2) (.slice Ao60 t476.length co60)) (fun _ hk => hk.2) (.int .i64 t479)) (fun _ hk => hk.2) (.slice Ao65 t480.length co65)) (fun _ hk => ⟨hk.1.1.1, ⟨hk.1.1.2.1, ⟨hk.1.1.2.2.1, ⟨hk.1.1.2.2.2, hk.1.2⟩⟩⟩⟩)))⟩; have n8_ : Aside0 (Kd.V (Kd.int .i64) 3 w66 w.heap.size (fun k_ => ((P0_0_ k_ ∨ P0_2_ k_ ∨ P2_1_ k_ ∨ P2_2_ k_ ∨ P3_1_ k_ ∨ P3_2_ k_) ∨ w.heap.size ≤ k_) ∧ k_ ≠ gb463 ∧ k_ ≠ gb464 ∧ k_ ≠ gb465 ∧ k_ ≠ gb484) (.slice Ao65 t480.length co65) t480) := ⟨(by rw [hw]; exact (by (with_reducible repeat (first | apply Kd.V_alloc | apply Kd.V_drewN | apply Kd.V_drew)); exact Kd.V_mono (Kd.V_far (p := ⟨gb484, 2, none⟩) (Kd.V_far (p := ⟨gb484, 1, none⟩) (Kd.V_far (p := ⟨gb484, 0, none⟩) (Kd.V_mono HO482.out (fun k_ hk => (⟨hk, hk.2⟩ : _ ∧ k_ ≠ gb484))) (fun _ hk => hk.2) (.slice Ao60 t476.length co60)) (fun _ hk => hk.2) (.int .i64 t479)) (fun _ hk => hk.2) (.slice Ao65 t480.length co65)) (fun _ hk => ⟨hk.1.1.1, ⟨hk.1.1.2.1, ⟨hk.1.1.2.2.1, ⟨hk.1.1.2.2.2, hk.1.2⟩⟩⟩⟩)))⟩; have n9_ : Aside0 (w66.heap[gb463]? = some (.cells #[.slice A0_0 l0_0.length c0_0, .int .i64 a0_1, .slice A0_2 l0_2.length c0_2] 25 (0, 0))) := ⟨(by rw [hw]; exact (by (with_reducible repeat (first | refine blk_drewN ?_ _ | refine blk_drew ?_ | refine blk_alloc ?_ _)); refine blk_far ?_ NB463_484.out _; (with_reducible repeat (first | refine blk_drewN ?_ _ | refine blk_drew ?_ | refine blk_alloc ?_ _)); refine blk_far ?_ NB463_484.out _; (with_reducible repeat (first | refine blk_drewN ?_ _ | refine blk_drew ?_ | refine blk_alloc ?_ _)); refine blk_far ?_ NB463_484.out _; (with_reducible repeat (first | refine blk_drewN ?_ _ | refine blk_drew ?_ | refine blk_alloc ?_ _)); exact BK463.out))⟩; have n10_ : Aside0 (w66.heap[gb464]? = some (.cells #[.int .i64 a2_0, .slice A2_1 l2_1.length c2_1, .slice A2_2 l2_2.length c2_2] 42 (0, 0))) := ⟨(by rw [hw]; exact (by (with_reducible repeat (first | refine blk_drewN ?_ _ | refine blk_drew ?_ | refine blk_alloc ?_ _)); refine blk_far ?_ NB464_484.out _; (with_reducible repeat (first | refine blk_drewN ?_ _ | refine blk_drew ?_ | refine blk_alloc ?_ _)); refine blk_far ?_ NB464_484.out _; (with_reducible repeat (first | refine blk_drewN ?_ _ | refine blk_drew ?_ | refine blk_alloc ?_ _)); refine blk_far ?_ NB464_484.out _; (with_reducible repeat (first | refine blk_drewN ?_ _ | refine blk_drew ?_ | refine blk_alloc ?_ _)); exact BK464.out))⟩; have n11_ : Aside0 (w66.heap[gb465]? = some (.cells #[.int .i64 a3_0, .slice A3_1 l3_1.length c3_1, .slice A3_2 l3_2.length c3_2] 42 (0, 0))) := ⟨(by rw [hw]; exact (by (with_reducible repeat (first | refine blk_drewN ?_ _ | refine blk_drew ?_ | refine blk_alloc ?_ _)); refine blk_far ?_ NB465_484.out _; (with_reducible repeat (first | refine blk_drewN ?_ _ | refine blk_drew ?_ | refine blk_alloc ?_ _)); refine blk_far ?_ NB465_484.out _; (with_reducible repeat (first | refine blk_drewN ?_ _ | refine blk_drew ?_ | refine blk_alloc ?_ _)); refine blk_far ?_ NB465_484.out _; (with_reducible repeat (first | refine blk_drewN ?_ _ | refine blk_drew ?_ | refine blk_alloc ?_ _)); exact BK465.out))⟩; have n12_ : Aside0 (w66.heap[gb484]? = some (.cells #[.slice Ao60 t476.length co60, .int .i64 t479, .slice Ao65 t480.length co65] 25 (0, 0))) := ⟨(by rw [hw]; exact (by (with_reducible repeat (first | refine blk_drewN ?_ _ | refine blk_drew ?_ | refine blk_alloc ?_ _)); refine blk_put (cs := #[.slice Ao60 t476.length co60, .int .i64 t479, .slice none 0 0]) ?_ 2 _ rfl; (with_reducible repeat (first | refine blk_drewN ?_ _ | refine blk_drew ?_ | refine blk_alloc ?_ _)); refine blk_put (cs := #[.slice Ao60 t476.length co60, .int .i64 0, .slice none 0 0]) ?_ 1 _ rfl; (with_reducible repeat (first | refine blk_drewN ?_ _ | refine blk_drew ?_ | refine blk_alloc ?_ _)); refine blk_put (cs := #[.slice none 0 0, .int .i64 0, .slice none 0 0]) ?_ 0 _ rfl; (with_reducible repeat (first | refine blk_drewN ?_ _ | refine blk_drew ?_ | refine blk_alloc ?_ _)); exact BK484.out))⟩; have n13_ : Aside0 (Below w.heap.size w w66) := ⟨(by rw [hw]; exact (bq4_ HB.out GE463.out GE464.out GE465.out GE484.out))⟩; clear hw; clear HO_464000; clear HO_464002; clear HO_465001; clear HO_465002; clear HO_466001; clear HO_466002; clear HO475; clear HO478; clear HO482; clear BK463; clear BK464; clear BK465; clear BK484; clear HB; have HO_464000 := n0_; have HO_464002 := n1_; have HO_465001 := n2_; have HO_465002 := n3_; have HO_466001 := n4_; have HO_466002 := n5_; have HO475 := n6_; have HO478 := n7_; have HO482 := n8_; have BK463 := n9_; have BK464 := n10_; have BK465 := n11_; have BK484 := n12_; have HB := n13_; clear n0_ n1_ n2_ n3_ n4_ n5_ n6_ n7_ n8_ n9_ n10_ n11_ n12_ n13_; have hcz67_0 := cz0_ BK463.out; have hcz67_1 := cz1_ BK463.out; have hcz67_2 := cz2_ BK463.out; have hfz67_0 := blk_frozen BK463.out 0; have hfz67_1 := blk_frozen BK463.out 1; have hfz67_2 := blk_frozen BK463.out 2; have hcz68_0 := cz0_ BK465.out; have hcz68_1 := cz1_ BK465.out; have hcz68_2 := cz2_ BK465.out; have hfz68_0 := blk_frozen BK465.out 0; have hfz68_1 := blk_frozen BK465.out 1; have hfz68_2 := blk_frozen BK465.out 2) | ((with_reducible refine gate_dst (N := 48) rfl ?_); (try (refine gate_guard (by rfl) ?_; dsimp only)); refine Kd.N_lit k42 _ 42 ?hg (N' := 48) ?hd (xs := ([(⟨a3_0, (⟨l3_1, l3_2⟩ : S37)⟩ : S42)] : List (S42))) (inner := [.int .i64 a3_0, .slice A3_1 l3_1.length c3_1, .slice A3_2 l3_2.length c3_2]) (ok := (fun k_ => ((P0_0_ k_ ∨ P0_2_ k_ ∨ P2_1_ k_ ∨ P2_2_ k_ ∨ P3_1_ k_ ∨ P3_2_ k_) ∨ w.heap.size ≤ k_) ∧ k_ ≠ gb463 ∧ k_ ≠ gb464 ∧ k_ ≠ gb465 ∧ k_ ≠ gb484)) (okp := (fun k_ => ((P0_0_ k_ ∨ P0_2_ k_ ∨ P2_1_ k_ ∨ P2_2_ k_ ∨ P3_1_ k_ ∨ P3_2_ k_) ∨ w.heap.size ≤ k_) ∧ k_ ≠ gb463 ∧ k_ ≠ gb464 ∧ k_ ≠ gb465 ∧ k_ ≠ gb484)) ?hr ?hp (fun _ hk => hk) ((show ∀ k_, w66.heap.size ≤ k_ → (fun k_ => ((P0_0_ k_ ∨ P0_2_ k_ ∨ P2_1_ k_ ∨ P2_2_ k_ ∨ P3_1_ k_ ∨ P3_2_ k_) ∨ w.heap.size ≤ k_) ∧ k_ ≠ gb463 ∧ k_ ≠ gb464 ∧ k_ ≠ gb465 ∧ k_ ≠ gb484) k_ from fun k_ hk => ⟨(.inr (Nat.le_trans (below_size (bq4_ HB.out GE463.out GE464.out GE465.out GE484.out)) hk)), mvF_ BK463.out hk, mvF_ BK464.out hk, mvF_ BK465.out hk, mvF_ BK484.out hk⟩) _ (Nat.le_refl _)) (Below.refl _ _) (Nat.le_refl _) (by simp) ?_; (case hd => rfl); (case hg => rfl); (case hr => first | (go_simp; done) | (go_simp; rfl)); (case hp => exact (Reps.c3 (show Kd.FK k42 _ _ (⟨a3_0, (⟨l3_1, l3_2⟩ : S37)⟩ : S42) [.int .i64 a3_0, .slice A3_1 l3_1.length c3_1, .slice A3_2 l3_2.length c3_2] from (k42_mkF _ _ (⟨a3_0, (⟨l3_1, l3_2⟩ : S37)⟩ : S42) (Kd.V_reads' (Kd.V_mono (ok' := (fun k_ => ((P0_0_ k_ ∨ P0_2_ k_ ∨ P2_1_ k_ ∨ P2_2_ k_ ∨ P3_1_ k_ ∨ P3_2_ k_) ∨ w.heap.size ≤ k_) ∧ k_ ≠ gb463 ∧ k_ ≠ gb464 ∧ k_ ≠ gb465 ∧ k_ ≠ gb484)) (HO_466001.out) (fun k_ hk => ⟨hk.1, ⟨hk.2.1, ⟨hk.2.2.1, ⟨hk.2.2.2.1, hk.2.2.2.2⟩⟩⟩⟩))).2.1 (Kd.V_F (Kd.V_mono (ok' := (fun k_ => ((P0_0_ k_ ∨ P0_2_ k_ ∨ P2_1_ k_ ∨ P2_2_ k_ ∨ P3_1_ k_ ∨ P3_2_ k_) ∨ w.heap.size ≤ k_) ∧ k_ ≠ gb463 ∧ k_ ≠ gb464 ∧ k_ ≠ gb465 ∧ k_ ≠ gb484)) (HO_466001.out) (fun k_ hk => ⟨hk.1, ⟨hk.2.1, ⟨hk.2.2.1, ⟨hk.2.2.2.1, hk.2.2.2.2⟩⟩⟩⟩))) (Kd.V_reads' (Kd.V_mono (ok' := (fun k_ => ((P0_0_ k_ ∨ P0_2_ k_ ∨ P2_1_ k_ ∨ P2_2_ k_ ∨ P3_1_ k_ ∨ P3_2_ k_) ∨ w.heap.size ≤ k_) ∧ k_ ≠ gb463 ∧ k_ ≠ gb464 ∧ k_ ≠ gb465 ∧ k_ ≠ gb484)) (HO_466002.out) (fun k_ hk => ⟨hk.1, ⟨hk.2.1, ⟨hk.2.2.1, ⟨hk.2.2.2.1, hk.2.2.2.2⟩⟩⟩⟩))).2.1 (Kd.V_F (Kd.V_mono (ok' := (fun k_ => ((P0_0_ k_ ∨ P0_2_ k_ ∨ P2_1_ k_ ∨ P2_2_ k_ ∨ P3_1_ k_ ∨ P3_2_ k_) ∨ w.heap.size ≤ k_) ∧ k_ ≠ gb463 ∧ k_ ≠ gb464 ∧ k_ ≠ gb465 ∧ k_ ≠ gb484)) (HO_466002.out) (fun k_ hk => ⟨hk.1, ⟨hk.2.1, ⟨hk.2.2.1, ⟨hk.2.2.2.1, hk.2.2.2.2⟩⟩⟩⟩))))) (Reps.none _ _))); intro v486 w69 ho70 hb hg_ hnew_; clear hg_ hnew_; (first | rw [← Ny485.out] at ho70 | (simp only [Int.reduceToNat] at ho70; rw [← Ny485.out] at ho70)); have HO487 := Aside0.mk (Kd.N_lower ho70 (below_size (bq4_ HB.out GE463.out GE464.out GE465.out GE484.out))); replace HO_464000 := mbV_ HO_464000.out hb; replace HO_464002 := mbV_ HO_464002.out hb; replace HO_465001 := mbV_ HO_465001.out hb; replace HO_465002 := mbV_ HO_465002.out hb; replace HO_466001 := mbV_ HO_466001.out hb; replace HO_466002 := mbV_ HO_466002.out hb; replace HO475 := mbN_ HO475.out hb; replace HO478 := mbV_ HO478.out hb; replace HO482 := mbV_ HO482.out hb; replace BK463 := mvB_ BK463.out hb; replace BK464 := mvB_ BK464.out hb; replace BK465 := mvB_ BK465.out hb; replace BK484 := mvB_ BK484.out hb; replace HB := Aside0.mk (below_step (bq4_ HB.out GE463.out GE464.out GE465.out GE484.out) hb); clear hb ho70; obtain ⟨Ao71, co71, eo71⟩ := Kd.N_slice HO487.out; subst eo71) | ((with_reducible refine gate_callee (f := 10) rfl ?_); refine gL_ (some 49) Try.func10 #[.agg #[.slice A0_0 l0_0.length c0_0, .int .i64 a0_1, .slice A0_2 l0_2.length c0_2], .int .i64 a1, .slice none 0 0, .slice Ao71 y485.length co71] ?_; (refine (store_Commit.calls kj5 (fun k_ => (((P0_0_ k_ ∨ P0_2_ k_ ∨ P2_1_ k_ ∨ P2_2_ k_ ∨ P3_1_ k_ ∨ P3_2_ k_) ∨ w.heap.size ≤ k_) ∧ (k_ ≠ gb463 ∧ (k_ ≠ gb464 ∧ (k_ ≠ gb465 ∧ k_ ≠ gb484))))) _ _ l0_0 a0_1 (fun k_ => (((P0_0_ k_ ∨ P0_2_ k_ ∨ P2_1_ k_ ∨ P2_2_ k_ ∨ P3_1_ k_ ∨ P3_2_ k_) ∨ w.heap.size ≤ k_) ∧ (k_ ≠ gb463 ∧ (k_ ≠ gb464 ∧ (k_ ≠ gb465 ∧ k_ ≠ gb484))))) _ _ l0_2 a1 _ _ ([] : List Int) _ _ y485 t488 t491 t492 t495 _ ?side1 ?side2 ?side3 ?side4 ?side5 ?side6 A46.out).mono ?_); (case side1 => (with_reducible repeat (first | apply Kd.V_alloc | apply Kd.V_drewN | apply Kd.V_drew)); first | with_reducible exact HO_464000.out | exact HO_464000.out | exact Kd.V_mono HO_464000.out (fun _ h_ => by simpa only [and_assoc, and_comm, and_left_comm] using h_)); (case side2 => (with_reducible repeat (first | apply Kd.V_alloc | apply Kd.V_drewN | apply Kd.V_drew)); first | with_reducible exact HO_464002.out | exact HO_464002.out | exact Kd.V_mono HO_464002.out (fun _ h_ => by simpa only [and_assoc, and_comm, and_left_comm] using h_)); (case side3 => exact Kd.C_nil _ _); (case side4 => exact Nat.le_refl _); (case side5 => exact mvC_ ((Kd.N_reads' HO487.out).2.2)); (case side6 => exact (Kd.N_reads' HO487.out).2.1); rintro e w72 ⟨v489, v493, rfl, ho0, ho1, hb⟩; refine ⟨_, rfl, ?_⟩; have HO490 := Aside0.mk (Kd.V_lower (Kd.V_mono (ok' := fun k_ => ((P0_0_ k_ ∨ P0_2_ k_ ∨ P2_1_ k_ ∨ P2_2_ k_ ∨ P3_1_ k_ ∨ P3_2_ k_) ∨ w.heap.size ≤ k_) ∧ k_ ≠ gb463 ∧ k_ ≠ gb464 ∧ k_ ≠ gb465 ∧ k_ ≠ gb484) ho0 (fun k_ hk_ => ⟨Or.elim hk_ (fun hs_ => Or.elim hs_ (fun hs_ => hs_.1) (fun hs_ => hs_.1)) (fun hn_ => (.inr (Nat.le_trans (below_size (bq4_ HB.out GE463.out GE464.out GE465.out GE484.out)) hn_))), Or.elim hk_ (fun hs_ => Or.elim hs_ (fun hs_ => hs_.2.1) (fun hs_ => hs_.2.1)) (fun hn_ => (mvF_ BK463.out hn_)), Or.elim hk_ (fun hs_ => Or.elim hs_ (fun hs_ => hs_.2.2.1) (fun hs_ => hs_.2.2.1)) (fun hn_ => (mvF_ BK464.out hn_)), Or.elim hk_ (fun hs_ => Or.elim hs_ (fun hs_ => hs_.2.2.2.1) (fun hs_ => hs_.2.2.2.1)) (fun hn_ => (mvF_ BK465.out hn_)), Or.elim hk_ (fun hs_ => Or.elim hs_ (fun hs_ => hs_.2.2.2.2) (fun hs_ => hs_.2.2.2.2)) (fun hn_ => (mvF_ BK484.out hn_))⟩)) (below_size (bq4_ HB.out GE463.out GE464.out GE465.out GE484.out))); have HO494 := Aside0.mk (Kd.V_lower (Kd.V_mono (ok' := fun k_ => ((P0_0_ k_ ∨ P0_2_ k_ ∨ P2_1_ k_ ∨ P2_2_ k_ ∨ P3_1_ k_ ∨ P3_2_ k_) ∨ w.heap.size ≤ k_) ∧ k_ ≠ gb463 ∧ k_ ≠ gb464 ∧ k_ ≠ gb465 ∧ k_ ≠ gb484) ho1 (fun k_ hk_ => ⟨Or.elim hk_ (fun hs_ => Or.elim hs_ (fun hs_ => hs_.1) (fun hs_ => hs_.1)) (fun hn_ => (.inr (Nat.le_trans (below_size (bq4_ HB.out GE463.out GE464.out GE465.out GE484.out)) hn_))), Or.elim hk_ (fun hs_ => Or.elim hs_ (fun hs_ => hs_.2.1) (fun hs_ => hs_.2.1)) (fun hn_ => (mvF_ BK463.out hn_)), Or.elim hk_ (fun hs_ => Or.elim hs_ (fun hs_ => hs_.2.2.1) (fun hs_ => hs_.2.2.1)) (fun hn_ => (mvF_ BK464.out hn_)), Or.elim hk_ (fun hs_ => Or.elim hs_ (fun hs_ => hs_.2.2.2.1) (fun hs_ => hs_.2.2.2.1)) (fun hn_ => (mvF_ BK465.out hn_)), Or.elim hk_ (fun hs_ => Or.elim hs_ (fun hs_ => hs_.2.2.2.2) (fun hs_ => hs_.2.2.2.2)) (fun hn_ => (mvF_ BK484.out hn_))⟩)) (below_size (bq4_ HB.out GE463.out GE464.out GE465.out GE484.out))); replace HO_464000 := mbV_ HO_464000.out hb; replace HO_464002 := mbV_ HO_464002.out hb; replace HO_465001 := mbV_ HO_465001.out hb; replace HO_465002 := mbV_ HO_465002.out hb; replace HO_466001 := mbV_ HO_466001.out hb; replace HO_466002 := mbV_ HO_466002.out hb; replace HO475 := mbN_ HO475.out hb; replace HO478 := mbV_ HO478.out hb; replace HO482 := mbV_ HO482.out hb; replace HO487 := mbN_ HO487.out hb; replace BK463 := mvB_ BK463.out hb; replace BK464 := mvB_ BK464.out hb; replace BK465 := mvB_ BK465.out hb; replace BK484 := mvB_ BK484.out hb; replace HB := Aside0.mk (below_step (bq4_ HB.out GE463.out GE464.out GE465.out GE484.out) hb); (try clear hb); (try clear ho0); (try clear ho1)) | ((with_reducible refine gate_dst (N := 12) rfl ?_); (try (refine gate_guard (by rfl) ?_; dsimp only)); refine box_event ?hg (N := 12) ?hd (cs := #[.slice none 0 0, .int .i64 0, .slice none 0 0]) (t := 25) ?hr ?_; (case hd => rfl); (case hg => rfl); (case hr => first | (go_simp; done) | (go_simp; rfl)); intro gb496 hg w73 hbox hb; have BK496 := Aside0.mk (hbox); have GW496 := Aside0.mk ((by rw [hg]; exact (below_size (bq4_ HB.out GE463.out GE464.out GE465.out GE484.out)) : w.heap.size ≤ gb496)); have GE496 := Aside0.mk ((by rw [hg]; exact (below_size (bq4_ HB.out GE463.out GE464.out GE465.out GE484.out)) : w.heap.size ≤ gb496)); have NB463_496 := Aside0.mk ((by rw [hg]; exact Nat.ne_of_lt (blk_lt (g := gb463) (o := .cells #[.slice A0_0 l0_0.length c0_0, .int .i64 a0_1, .slice A0_2 l0_2.length c0_2] 25 (0, 0)) (mvK_ BK463.out)) : gb463 ≠ gb496)); have NB496_463 := Aside0.mk ((by rw [hg]; exact Nat.ne_of_gt (blk_lt (g := gb463) (o := .cells #[.slice A0_0 l0_0.length c0_0, .int .i64 a0_1, .slice A0_2 l0_2.length c0_2] 25 (0, 0)) (mvK_ BK463.out)) : gb496 ≠ gb463)); have NB464_496 := Aside0.mk ((by rw [hg]; exact Nat.ne_of_lt (blk_lt (g := gb464) (o := .cells #[.int .i64 a2_0, .slice A2_1 l2_1.length c2_1, .slice A2_2 l2_2.length c2_2] 42 (0, 0)) (mvK_ BK464.out)) : gb464 ≠ gb496)); have NB496_464 := Aside0.mk ((by rw [hg]; exact Nat.ne_of_gt (blk_lt (g := gb464) (o := .cells #[.int .i64 a2_0, .slice A2_1 l2_1.length c2_1, .slice A2_2 l2_2.length c2_2] 42 (0, 0)) (mvK_ BK464.out)) : gb496 ≠ gb464)); have NB465_496 := Aside0.mk ((by rw [hg]; exact Nat.ne_of_lt (blk_lt (g := gb465) (o := .cells #[.int .i64 a3_0, .slice A3_1 l3_1.length c3_1, .slice A3_2 l3_2.length c3_2] 42 (0, 0)) (mvK_ BK465.out)) : gb465 ≠ gb496)); have NB496_465 := Aside0.mk ((by rw [hg]; exact Nat.ne_of_gt (blk_lt (g := gb465) (o := .cells #[.int .i64 a3_0, .slice A3_1 l3_1.length c3_1, .slice A3_2 l3_2.length c3_2] 42 (0, 0)) (mvK_ BK465.out)) : gb496 ≠ gb465)); have NB484_496 := Aside0.mk ((by rw [hg]; exact Nat.ne_of_lt (blk_lt (g := gb484) (o := .cells #[.slice Ao60 t476.length co60, .int .i64 t479, .slice Ao65 t480.length co65] 25 (0, 0)) (mvK_ BK484.out)) : gb484 ≠ gb496)); have NB496_484 := Aside0.mk ((by rw [hg]; exact Nat.ne_of_gt (blk_lt (g := gb484) (o := .cells #[.slice Ao60 t476.length co60, .int .i64 t479, .slice Ao65 t480.length co65] 25 (0, 0)) (mvK_ BK484.out)) : gb496 ≠ gb484)); replace HO_464000 := Aside0.mk (Kd.V_below (Kd.V_elderB (mvV_ HO_464000.out) gb496 (Nat.le_of_eq hg.symm)) hb); replace HO_464002 := Aside0.mk (Kd.V_below (Kd.V_elderB (mvV_ HO_464002.out) gb496 (Nat.le_of_eq hg.symm)) hb); replace HO_465001 := Aside0.mk (Kd.V_below (Kd.V_elderB (mvV_ HO_465001.out) gb496 (Nat.le_of_eq hg.symm)) hb); replace HO_465002 := Aside0.mk (Kd.V_below (Kd.V_elderB (mvV_ HO_465002.out) gb496 (Nat.le_of_eq hg.symm)) hb); replace HO_466001 := Aside0.mk (Kd.V_below (Kd.V_elderB (mvV_ HO_466001.out) gb496 (Nat.le_of_eq hg.symm)) hb); replace HO_466002 := Aside0.mk (Kd.V_below (Kd.V_elderB (mvV_ HO_466002.out) gb496 (Nat.le_of_eq hg.symm)) hb); replace HO475 := Aside0.mk (Kd.N_below (Kd.N_elderB (mvN_ HO475.out) gb496 (Nat.le_of_eq hg.symm)) hb); replace HO478 := Aside0.mk (Kd.V_below (Kd.V_elderB (mvV_ HO478.out) gb496 (Nat.le_of_eq hg.symm)) hb); replace HO482 := Aside0.mk (Kd.V_below (Kd.V_elderB (mvV_ HO482.out) gb496 (Nat.le_of_eq hg.symm)) hb); replace HO487 := Aside0.mk (Kd.N_below (Kd.N_elderB (mvN_ HO487.out) gb496 (Nat.le_of_eq hg.symm)) hb); replace HO490 := Aside0.mk (Kd.V_below (Kd.V_elderB (mvV_ HO490.out) gb496 (Nat.le_of_eq hg.symm)) hb); replace HO494 := Aside0.mk (Kd.V_below (Kd.V_elderB (mvV_ HO494.out) gb496 (Nat.le_of_eq hg.symm)) hb); replace BK463 := mvB_ BK463.out hb; replace BK464 := mvB_ BK464.out hb; replace BK465 := mvB_ BK465.out hb; replace BK484 := mvB_ BK484.out hb; replace HB := Aside0.mk (below_step (bq4_ HB.out GE463.out GE464.out GE465.out GE484.out) hb); clear hb hbox hg; obtain ⟨Ao74, co74, eo74⟩ := Kd.V_slice HO490.out; subst eo74; have hnb75 := NB496_463.out; have hnc75 := NB463_496.out; have hnb76 := NB496_464.out; have hnc76 := NB464_496.out; have hnb77 := NB496_465.out; have hnc77 := NB465_496.out; have hnb78 := NB496_484.out; have hnc78 := NB484_496.out; have hcz79_0 := cz0_ BK496.out; have hcz79_1 := cz1_ BK496.out; have hcz79_2 := cz2_ BK496.out; have hfz79_0 := blk_frozen BK496.out 0; have hfz79_1 := blk_frozen BK496.out 1; have hfz79_2 := blk_frozen BK496.out 2; obtain ⟨Ao80, co80, eo80⟩ := Kd.V_slice HO494.out; subst eo80) | ((with_reducible refine gate_store (t := 25) (p := 12) rfl ?_); refine store_event (t := 25) (p := 12) (v := ?vo_w81) (w1 := (((w73.setCell ⟨gb496, 0, none⟩ (.slice Ao74 t488.length co74)).setCell ⟨gb496, 1, none⟩ (.int .i64 t491)).setCell ⟨gb496, 2, none⟩ (.slice Ao80 t492.length co80))) ?hg ?ho ?hn ?hr ?_; (case ho => rfl); (case hg => rfl); (case hn => rfl); (case hr => first | (go_simp; done) | (go_simp; rfl)); intro w81 hw; have n0_ : Aside0 (Kd.V (Kd.slice 74 k74) 54 w81 w.heap.size (fun k_ => ((P0_0_ k_ ∨ P0_2_ k_ ∨ P2_1_ k_ ∨ P2_2_ k_ ∨ P3_1_ k_ ∨ P3_2_ k_) ∨ w.heap.size ≤ k_) ∧ k_ ≠ gb463 ∧ k_ ≠ gb464 ∧ k_ ≠ gb465 ∧ k_ ≠ gb484 ∧ k_ ≠ gb496) (.slice A0_0 l0_0.length c0_0) l0_0) := ⟨(by rw [hw]; exact (by (with_reducible repeat (first | apply Kd.V_alloc | apply Kd.V_drewN | apply Kd.V_drew)); exact Kd.V_mono (Kd.V_far (p := ⟨gb496, 2, none⟩) (Kd.V_far (p := ⟨gb496, 1, none⟩) (Kd.V_far (p := ⟨gb496, 0, none⟩) (Kd.V_mono HO_464000.out (fun k_ hk => (⟨hk, hk.2⟩ : _ ∧ k_ ≠ gb496))) (fun _ hk => hk.2) (.slice Ao74 t488.length co74)) (fun _ hk => hk.2) (.int .i64 t491)) (fun _ hk => hk.2) (.slice Ao80 t492.length co80)) (fun _ hk => ⟨hk.1.1.1, ⟨hk.1.1.2.1, ⟨hk.1.1.2.2.1, ⟨hk.1.1.2.2.2.1, ⟨hk.1.1.2.2.2.2, hk.1.2⟩⟩⟩⟩⟩)))⟩; have n1_ : Aside0 (Kd.V (Kd.int .i64) 3 w81 w.heap.size (fun k_ => ((P0_0_ k_ ∨ P0_2_ k_ ∨ P2_1_ k_ ∨ P2_2_ k_ ∨ P3_1_ k_ ∨ P3_2_ k_) ∨ w.heap.size ≤ k_) ∧ k_ ≠ gb463 ∧ k_ ≠ gb464 ∧ k_ ≠ gb465 ∧ k_ ≠ gb484 ∧ k_ ≠ gb496) (.slice A0_2 l0_2.length c0_2) l0_2) := ⟨(by rw [hw]; exact (by (with_reducible repeat (first | apply Kd.V_alloc | apply Kd.V_drewN | apply Kd.V_drew)); exact Kd.V_mono (Kd.V_far (p := ⟨gb496, 2, none⟩) (Kd.V_far (p := ⟨gb496, 1, none⟩) (Kd.V_far (p := ⟨gb496, 0, none⟩) (Kd.V_mono HO_464002.out (fun k_ hk => (⟨hk, hk.2⟩ : _ ∧ k_ ≠ gb496))) (fun _ hk => hk.2) (.slice Ao74 t488.length co74)) (fun _ hk => hk.2) (.int .i64 t491)) (fun _ hk => hk.2) (.slice Ao80 t492.length co80)) (fun _ hk => ⟨hk.1.1.1, ⟨hk.1.1.2.1, ⟨hk.1.1.2.2.1, ⟨hk.1.1.2.2.2.1, ⟨hk.1.1.2.2.2.2, hk.1.2⟩⟩⟩⟩⟩)))⟩; have n2_ : Aside0 (Kd.V (Kd.int .i64) 3 w81 w.heap.size (fun k_ => ((P0_0_ k_ ∨ P0_2_ k_ ∨ P2_1_ k_ ∨ P2_2_ k_ ∨ P3_1_ k_ ∨ P3_2_ k_) ∨ w.heap.size ≤ k_) ∧ k_ ≠ gb463 ∧ k_ ≠ gb464 ∧ k_ ≠ gb465 ∧ k_ ≠ gb484 ∧ k_ ≠ gb496) (.slice A2_1 l2_1.length c2_1) l2_1) := ⟨(by rw [hw]; exact (by (with_reducible repeat (first | apply Kd.V_alloc | apply Kd.V_drewN | apply Kd.V_drew)); exact Kd.V_mono (Kd.V_far (p := ⟨gb496, 2, none⟩) (Kd.V_far (p := ⟨gb496, 1, none⟩) (Kd.V_far (p := ⟨gb496, 0, none⟩) (Kd.V_mono HO_465001.out (fun k_ hk => (⟨hk, hk.2⟩ : _ ∧ k_ ≠ gb496))) (fun _ hk => hk.2) (.slice Ao74 t488.length co74)) (fun _ hk => hk.2) (.int .i64 t491)) (fun _ hk => hk.2) (.slice Ao80 t492.length co80)) (fun _ hk => ⟨hk.1.1.1, ⟨hk.1.1.2.1, ⟨hk.1.1.2.2.1, ⟨hk.1.1.2.2.2.1, ⟨hk.1.1.2.2.2.2, hk.1.2⟩⟩⟩⟩⟩)))⟩; have n3_ : Aside0 (Kd.V (Kd.int .i64) 3 w81 w.heap.size (fun k_ => ((P0_0_ k_ ∨ P0_2_ k_ ∨ P2_1_ k_ ∨ P2_2_ k_ ∨ P3_1_ k_ ∨ P3_2_ k_) ∨ w.heap.size ≤ k_) ∧ k_ ≠ gb463 ∧ k_ ≠ gb464 ∧ k_ ≠ gb465 ∧ k_ ≠ gb484 ∧ k_ ≠ gb496) (.slice A2_2 l2_2.length c2_2) l2_2) := ⟨(by rw [hw]; exact (by (with_reducible repeat (first | apply Kd.V_alloc | apply Kd.V_drewN | apply Kd.V_drew)); exact Kd.V_mono (Kd.V_far (p := ⟨gb496, 2, none⟩) (Kd.V_far (p := ⟨gb496, 1, none⟩) (Kd.V_far (p := ⟨gb496, 0, none⟩) (Kd.V_mono HO_465002.out (fun k_ hk => (⟨hk, hk.2⟩ : _ ∧ k_ ≠ gb496))) (fun _ hk => hk.2) (.slice Ao74 t488.length co74)) (fun _ hk => hk.2) (.int .i64 t491)) (fun _ hk => hk.2) (.slice Ao80 t492.length co80)) (fun _ hk => ⟨hk.1.1.1, ⟨hk.1.1.2.1, ⟨hk.1.1.2.2.1, ⟨hk.1.1.2.2.2.1, ⟨hk.1.1.2.2.2.2, hk.1.2⟩⟩⟩⟩⟩)))⟩; have n4_ : Aside0 (Kd.V (Kd.int .i64) 3 w81 w.heap.size (fun k_ => ((P0_0_ k_ ∨ P0_2_ k_ ∨ P2_1_ k_ ∨ P2_2_ k_ ∨ P3_1_ k_ ∨ P3_2_ k_) ∨ w.heap.size ≤ k_) ∧ k_ ≠ gb463 ∧ k_ ≠ gb464 ∧ k_ ≠ gb465 ∧ k_ ≠ gb484 ∧ k_ ≠ gb496) (.slice A3_1 l3_1.length c3_1) l3_1) := ⟨(by rw [hw]; exact (by (with_reducible repeat (first | apply Kd.V_alloc | apply Kd.V_drewN | apply Kd.V_drew)); exact Kd.V_mono (Kd.V_far (p := ⟨gb496, 2, none⟩) (Kd.V_far (p := ⟨gb496, 1, none⟩) (Kd.V_far (p := ⟨gb496, 0, none⟩) (Kd.V_mono HO_466001.out (fun k_ hk => (⟨hk, hk.2⟩ : _ ∧ k_ ≠ gb496))) (fun _ hk => hk.2) (.slice Ao74 t488.length co74)) (fun _ hk => hk.2) (.int .i64 t491)) (fun _ hk => hk.2) (.slice Ao80 t492.length co80)) (fun _ hk => ⟨hk.1.1.1, ⟨hk.1.1.2.1, ⟨hk.1.1.2.2.1, ⟨hk.1.1.2.2.2.1, ⟨hk.1.1.2.2.2.2, hk.1.2⟩⟩⟩⟩⟩)))⟩; have n5_ : Aside0 (Kd.V (Kd.int .i64) 3 w81 w.heap.size (fun k_ => ((P0_0_ k_ ∨ P0_2_ k_ ∨ P2_1_ k_ ∨ P2_2_ k_ ∨ P3_1_ k_ ∨ P3_2_ k_) ∨ w.heap.size ≤ k_) ∧ k_ ≠ gb463 ∧ k_ ≠ gb464 ∧ k_ ≠ gb465 ∧ k_ ≠ gb484 ∧ k_ ≠ gb496) (.slice A3_2 l3_2.length c3_2) l3_2) := ⟨(by rw [hw]; exact (by (with_reducible repeat (first | apply Kd.V_alloc | apply Kd.V_drewN | apply Kd.V_drew)); exact Kd.V_mono (Kd.V_far (p := ⟨gb496, 2, none⟩) (Kd.V_far (p := ⟨gb496, 1, none⟩) (Kd.V_far (p := ⟨gb496, 0, none⟩) (Kd.V_mono HO_466002.out (fun k_ hk => (⟨hk, hk.2⟩ : _ ∧ k_ ≠ gb496))) (fun _ hk => hk.2) (.slice Ao74 t488.length co74)) (fun _ hk => hk.2) (.int .i64 t491)) (fun _ hk => hk.2) (.slice Ao80 t492.length co80)) (fun _ hk => ⟨hk.1.1.1, ⟨hk.1.1.2.1, ⟨hk.1.1.2.2.1, ⟨hk.1.1.2.2.2.1, ⟨hk.1.1.2.2.2.2, hk.1.2⟩⟩⟩⟩⟩)))⟩; have n6_ : Aside0 (Kd.N k42 42 w81 w.heap.size (fun k_ => ((P0_0_ k_ ∨ P0_2_ k_ ∨ P2_1_ k_ ∨ P2_2_ k_ ∨ P3_1_ k_ ∨ P3_2_ k_) ∨ w.heap.size ≤ k_) ∧ k_ ≠ gb463 ∧ k_ ≠ gb464 ∧ k_ ≠ gb465 ∧ k_ ≠ gb484 ∧ k_ ≠ gb496) (.slice Ao57 y473.length co57) y473) := ⟨(by rw [hw]; exact (by (with_reducible repeat (first | apply Kd.N_alloc | apply Kd.N_drewN | apply Kd.N_drew)); exact Kd.N_mono (Kd.N_far (p := ⟨gb496, 2, none⟩) (Kd.N_far (p := ⟨gb496, 1, none⟩) (Kd.N_far (p := ⟨gb496, 0, none⟩) (Kd.N_mono HO475.out (fun k_ hk => (⟨hk, hk.2⟩ : _ ∧ k_ ≠ gb496))) (fun _ hk => hk.2) (.slice Ao74 t488.length co74)) (fun _ hk => hk.2) (.int .i64 t491)) (fun _ hk => hk.2) (.slice Ao80 t492.length co80)) (fun _ hk => ⟨hk.1.1.1, ⟨hk.1.1.2.1, ⟨hk.1.1.2.2.1, ⟨hk.1.1.2.2.2.1, ⟨hk.1.1.2.2.2.2, hk.1.2⟩⟩⟩⟩⟩)))⟩; have n7_ : Aside0 (Kd.V (Kd.slice 74 k74) 54 w81 w.heap.size (fun k_ => ((P0_0_ k_ ∨ P0_2_ k_ ∨ P2_1_ k_ ∨ P2_2_ k_ ∨ P3_1_ k_ ∨ P3_2_ k_) ∨ w.heap.size ≤ k_) ∧ k_ ≠ gb463 ∧ k_ ≠ gb464 ∧ k_ ≠ gb465 ∧ k_ ≠ gb484 ∧ k_ ≠ gb496) (.slice Ao60 t476.length co60) t476) := ⟨(by rw [hw]; exact (by (with_reducible repeat (first | apply Kd.V_alloc | apply Kd.V_drewN | apply Kd.V_drew)); exact Kd.V_mono (Kd.V_far (p := ⟨gb496, 2, none⟩) (Kd.V_far (p := ⟨gb496, 1, none⟩) (Kd.V_far (p := ⟨gb496, 0, none⟩) (Kd.V_mono HO478.out (fun k_ hk => (⟨hk, hk.2⟩ : _ ∧ k_ ≠ gb496))) (fun _ hk => hk.2) (.slice Ao74 t488.length co74)) (fun _ hk => hk.2) (.int .i64 t491)) (fun _ hk => hk.2) (.slice Ao80 t492.length co80)) (fun _ hk => ⟨hk.1.1.1, ⟨hk.1.1.2.1, ⟨hk.1.1.2.2.1, ⟨hk.1.1.2.2.2.1, ⟨hk.1.1.2.2.2.2, hk.1.2⟩⟩⟩⟩⟩)))⟩; have n8_ : Aside0 (Kd.V (Kd.int .i64) 3 w81 w.heap.size (fun k_ => ((P0_0_ k_ ∨ P0_2_ k_ ∨ P2_1_ k_ ∨ P2_2_ k_ ∨ P3_1_ k_ ∨ P3_2_ k_) ∨ w.heap.size ≤ k_) ∧ k_ ≠ gb463 ∧ k_ ≠ gb464 ∧ k_ ≠ gb465 ∧ k_ ≠ gb484 ∧ k_ ≠ gb496) (.slice Ao65 t480.length co65) t480) := ⟨(by rw [hw]; exact (by (with_reducible repeat (first | apply Kd.V_alloc | apply Kd.V_drewN | apply Kd.V_drew)); exact Kd.V_mono (Kd.V_far (p := ⟨gb496, 2, none⟩) (Kd.V_far (p := ⟨gb496, 1, none⟩) (Kd.V_far (p := ⟨gb496, 0, none⟩) (Kd.V_mono HO482.out (fun k_ hk => (⟨hk, hk.2⟩ : _ ∧ k_ ≠ gb496))) (fun _ hk => hk.2) (.slice Ao74 t488.length co74)) (fun _ hk => hk.2) (.int .i64 t491)) (fun _ hk => hk.2) (.slice Ao80 t492.length co80)) (fun _ hk => ⟨hk.1.1.1, ⟨hk.1.1.2.1, ⟨hk.1.1.2.2.1, ⟨hk.1.1.2.2.2.1, ⟨hk.1.1.2.2.2.2, hk.1.2⟩⟩⟩⟩⟩)))⟩; have n9_ : Aside0 (Kd.N k42 42 w81 w.heap.size (fun k_ => ((P0_0_ k_ ∨ P0_2_ k_ ∨ P2_1_ k_ ∨ P2_2_ k_ ∨ P3_1_ k_ ∨ P3_2_ k_) ∨ w.heap.size ≤ k_) ∧ k_ ≠ gb463 ∧ k_ ≠ gb464 ∧ k_ ≠ gb465 ∧ k_ ≠ gb484 ∧ k_ ≠ gb496) (.slice Ao71 y485.length co71) y485) := ⟨(by rw [hw]; exact (by (with_reducible repeat (first | apply Kd.N_alloc | apply Kd.N_drewN | apply Kd.N_drew)); exact Kd.N_mono (Kd.N_far (p := ⟨gb496, 2, none⟩) (Kd.N_far (p := ⟨gb496, 1, none⟩) (Kd.N_far (p := ⟨gb496, 0, none⟩) (Kd.N_mono HO487.out (fun k_ hk => (⟨hk, hk.2⟩ : _ ∧ k_ ≠ gb496))) (fun _ hk => hk.2) (.slice Ao74 t488.length co74)) (fun _ hk => hk.2) (.int .i64 t491)) (fun _ hk => hk.2) (.slice Ao80 t492.length co80)) (fun _ hk => ⟨hk.1.1.1, ⟨hk.1.1.2.1, ⟨hk.1.1.2.2.1, ⟨hk.1.1.2.2.2.1, ⟨hk.1.1.2.2.2.2, hk.1.2⟩⟩⟩⟩⟩)))⟩; have n10_ : Aside0 (Kd.V (Kd.slice 74 k74) 54 w81 w.heap.size (fun k_ => ((P0_0_ k_ ∨ P0_2_ k_ ∨ P2_1_ k_ ∨ P2_2_ k_ ∨ P3_1_ k_ ∨ P3_2_ k_) ∨ w.heap.size ≤ k_) ∧ k_ ≠ gb463 ∧ k_ ≠ gb464 ∧ k_ ≠ gb465 ∧ k_ ≠ gb484 ∧ k_ ≠ gb496) (.slice Ao74 t488.length co74) t488) := ⟨(by rw [hw]; exact (by (with_reducible repeat (first | apply Kd.V_alloc | apply Kd.V_drewN | apply Kd.V_drew)); exact Kd.V_mono (Kd.V_far (p := ⟨gb496, 2, none⟩) (Kd.V_far (p := ⟨gb496, 1, none⟩) (Kd.V_far (p := ⟨gb496, 0, none⟩) (Kd.V_mono HO490.out (fun k_ hk => (⟨hk, hk.2⟩ : _ ∧ k_ ≠ gb496))) (fun _ hk => hk.2) (.slice Ao74 t488.length co74)) (fun _ hk => hk.2) (.int .i64 t491)) (fun _ hk => hk.2) (.slice Ao80 t492.length co80)) (fun _ hk => ⟨hk.1.1.1, ⟨hk.1.1.2.1, ⟨hk.1.1.2.2.1, ⟨hk.1.1.2.2.2.1, ⟨hk.1.1.2.2.2.2, hk.1.2⟩⟩⟩⟩⟩)))⟩; have n11_ : Aside0 (Kd.V (Kd.int .i64) 3 w81 w.heap.size (fun k_ => ((P0_0_ k_ ∨ P0_2_ k_ ∨ P2_1_ k_ ∨ P2_2_ k_ ∨ P3_1_ k_ ∨ P3_2_ k_) ∨ w.heap.size ≤ k_) ∧ k_ ≠ gb463 ∧ k_ ≠ gb464 ∧ k_ ≠ gb465 ∧ k_ ≠ gb484 ∧ k_ ≠ gb496) (.slice Ao80 t492.length co80) t492) := ⟨(by rw [hw]; exact (by (with_reducible repeat (first | apply Kd.V_alloc | apply Kd.V_drewN | apply Kd.V_drew)); exact Kd.V_mono (Kd.V_far (p := ⟨gb496, 2, none⟩) (Kd.V_far (p := ⟨gb496, 1, none⟩) (Kd.V_far (p := ⟨gb496, 0, none⟩) (Kd.V_mono HO494.out (fun k_ hk => (⟨hk, hk.2⟩ : _ ∧ k_ ≠ gb496))) (fun _ hk => hk.2) (.slice Ao74 t488.length co74)) (fun _ hk => hk.2) (.int .i64 t491)) (fun _ hk => hk.2) (.slice Ao80 t492.length co80)) (fun _ hk => ⟨hk.1.1.1, ⟨hk.1.1.2.1, ⟨hk.1.1.2.2.1, ⟨hk.1.1.2.2.2.1, ⟨hk.1.1.2.2.2.2, hk.1.2⟩⟩⟩⟩⟩)))⟩; have n12_ : Aside0 (w81.heap[gb463]? = some (.cells #[.slice A0_0 l0_0.length c0_0, .int .i64 a0_1, .slice A0_2 l0_2.length c0_2] 25 (0, 0))) := ⟨(by rw [hw]; exact (by (with_reducible repeat (first | refine blk_drewN ?_ _ | refine blk_drew ?_ | refine blk_alloc ?_ _)); refine blk_far ?_ NB463_496.out _; (with_reducible repeat (first | refine blk_drewN ?_ _ | refine blk_drew ?_ | refine blk_alloc ?_ _)); refine blk_far ?_ NB463_496.out _; (with_reducible repeat (first | refine blk_drewN ?_ _ | refine blk_drew ?_ | refine blk_alloc ?_ _)); refine blk_far ?_ NB463_496.out _; (with_reducible repeat (first | refine blk_drewN ?_ _ | refine blk_drew ?_ | refine blk_alloc ?_ _)); exact BK463.out))⟩; have n13_ : Aside0 (w81.heap[gb464]? = some (.cells #[.int .i64 a2_0, .slice A2_1 l2_1.length c2_1, .slice A2_2 l2_2.length c2_2] 42 (0, 0))) := ⟨(by rw [hw]; exact (by (with_reducible repeat (first | refine blk_drewN ?_ _ | refine blk_drew ?_ | refine blk_alloc ?_ _)); refine blk_far ?_ NB464_496.out _; (with_reducible repeat (first | refine blk_drewN ?_ _ | refine blk_drew ?_ | refine blk_alloc ?_ _)); refine blk_far ?_ NB464_496.out _; (with_reducible repeat (first | refine blk_drewN ?_ _ | refine blk_drew ?_ | refine blk_alloc ?_ _)); refine blk_far ?_ NB464_496.out _; (with_reducible repeat (first | refine blk_drewN ?_ _ | refine blk_drew ?_ | refine blk_alloc ?_ _)); exact BK464.out))⟩; have n14_ : Aside0 (w81.heap[gb465]? = some (.cells #[.int .i64 a3_0, .slice A3_1 l3_1.length c3_1, .slice A3_2 l3_2.length c3_2] 42 (0, 0))) := ⟨(by rw [hw]; exact (by (with_reducible repeat (first | refine blk_drewN ?_ _ | refine blk_drew ?_ | refine blk_alloc ?_ _)); refine blk_far ?_ NB465_496.out _; (with_reducible repeat (first | refine blk_drewN ?_ _ | refine blk_drew ?_ | refine blk_alloc ?_ _)); refine blk_far ?_ NB465_496.out _; (with_reducible repeat (first | refine blk_drewN ?_ _ | refine blk_drew ?_ | refine blk_alloc ?_ _)); refine blk_far ?_ NB465_496.out _; (with_reducible repeat (first | refine blk_drewN ?_ _ | refine blk_drew ?_ | refine blk_alloc ?_ _)); exact BK465.out))⟩; have n15_ : Aside0 (w81.heap[gb484]? = some (.cells #[.slice Ao60 t476.length co60, .int .i64 t479, .slice Ao65 t480.length co65] 25 (0, 0))) := ⟨(by rw [hw]; exact (by (with_reducible repeat (first | refine blk_drewN ?_ _ | refine blk_drew ?_ | refine blk_alloc ?_ _)); refine blk_far ?_ NB484_496.out _; (with_reducible repeat (first | refine blk_drewN ?_ _ | refine blk_drew ?_ | refine blk_alloc ?_ _)); refine blk_far ?_ NB484_496.out _; (with_reducible repeat (first | refine blk_drewN ?_ _ | refine blk_drew ?_ | refine blk_alloc ?_ _)); refine blk_far ?_ NB484_496.out _; (with_reducible repeat (first | refine blk_drewN ?_ _ | refine blk_drew ?_ | refine blk_alloc ?_ _)); exact BK484.out))⟩; have n16_ : Aside0 (w81.heap[gb496]? = some (.cells #[.slice Ao74 t488.length co74, .int .i64 t491, .slice Ao80 t492.length co80] 25 (0, 0))) := ⟨(by rw [hw]; exact (by (with_reducible repeat (first | refine blk_drewN ?_ _ | refine blk_drew ?_ | refine blk_alloc ?_ _)); refine blk_put (cs := #[.slice Ao74 t488.length co74, .int .i64 t491, .slice none 0 0]) ?_ 2 _ rfl; (with_reducible repeat (first | refine blk_drewN ?_ _ | refine blk_drew ?_ | refine blk_alloc ?_ _)); refine blk_put (cs := #[.slice Ao74 t488.length co74, .int .i64 0, .slice none 0 0]) ?_ 1 _ rfl; (with_reducible repeat (first | refine blk_drewN ?_ _ | refine blk_drew ?_ | refine blk_alloc ?_ _)); refine blk_put (cs := #[.slice none 0 0, .int .i64 0, .slice none 0 0]) ?_ 0 _ rfl; (with_reducible repeat (first | refine blk_drewN ?_ _ | refine blk_drew ?_ | refine blk_alloc ?_ _)); exact BK496.out))⟩; have n17_ : Aside0 (Below w.heap.size w w81) := ⟨(by rw [hw]; exact (by repeat (first | (with_reducible first | exact HB.out | apply below_alloc | apply pw_below_drewN | apply below_drew1 | refine below_set ?_ GE463.out | refine below_set ?_ GE464.out | refine below_set ?_ GE465.out | refine below_set ?_ GE484.out | refine below_set ?_ GE496.out) | exact HB.out)))⟩; clear hw; clear HO_464000; clear HO_464002; clear HO_465001; clear HO_465002; clear HO_466001; clear HO_466002; clear HO475; clear HO478; clear HO482; clear HO487; clear HO490; clear HO494; clear BK463; clear BK464; clear BK465; clear BK484; clear BK496; clear HB; have HO_464000 := n0_; have HO_464002 := n1_; have HO_465001 := n2_; have HO_465002 := n3_; have HO_466001 := n4_; have HO_466002 := n5_; have HO475 := n6_; have HO478 := n7_; have HO482 := n8_; have HO487 := n9_; have HO490 := n10_; have HO494 := n11_; have BK463 := n12_; have BK464 := n13_; have BK465 := n14_; have BK484 := n15_; have BK496 := n16_; have HB := n17_; clear n0_ n1_ n2_ n3_ n4_ n5_ n6_ n7_ n8_ n9_ n10_ n11_ n12_ n13_ n14_ n15_ n16_ n17_; have hcz82_0 := cz0_ BK484.out; have hcz82_1 := cz1_ BK484.out; have hcz82_2 := cz2_ BK484.out; have hfz82_0 := blk_frozen BK484.out 0; have hfz82_1 := blk_frozen BK484.out 1; have hfz82_2 := blk_frozen BK484.out 2; have hcz83_0 := cz0_ BK465.out; have hcz83_1 := cz1_ BK465.out; have hcz83_2 := cz2_ BK465.out; have hfz83_0 := blk_frozen BK465.out 0; have hfz83_1 := blk_frozen BK465.out 1; have hfz83_2 := blk_frozen BK465.out 2) | ((with_reducible refine gate_dst (N := 56) rfl ?_); (try (refine gate_guard (by rfl) ?_; dsimp only)); refine Kd.N_lit k42 _ 42 ?hg (N' := 56) ?hd (xs := ([(⟨a3_0, (⟨l3_1, l3_2⟩ : S37)⟩ : S42)] : List (S42))) (inner := [.int .i64 a3_0, .slice A3_1 l3_1.length c3_1, .slice A3_2 l3_2.length c3_2]) (ok := (fun k_ => ((P0_0_ k_ ∨ P0_2_ k_ ∨ P2_1_ k_ ∨ P2_2_ k_ ∨ P3_1_ k_ ∨ P3_2_ k_) ∨ w.heap.size ≤ k_) ∧ k_ ≠ gb463 ∧ k_ ≠ gb464 ∧ k_ ≠ gb465 ∧ k_ ≠ gb484 ∧ k_ ≠ gb496)) (okp := (fun k_ => ((P0_0_ k_ ∨ P0_2_ k_ ∨ P2_1_ k_ ∨ P2_2_ k_ ∨ P3_1_ k_ ∨ P3_2_ k_) ∨ w.heap.size ≤ k_) ∧ k_ ≠ gb463 ∧ k_ ≠ gb464 ∧ k_ ≠ gb465 ∧ k_ ≠ gb484 ∧ k_ ≠ gb496)) ?hr ?hp (fun _ hk => hk) ((show ∀ k_, w81.heap.size ≤ k_ → (fun k_ => ((P0_0_ k_ ∨ P0_2_ k_ ∨ P2_1_ k_ ∨ P2_2_ k_ ∨ P3_1_ k_ ∨ P3_2_ k_) ∨ w.heap.size ≤ k_) ∧ k_ ≠ gb463 ∧ k_ ≠ gb464 ∧ k_ ≠ gb465 ∧ k_ ≠ gb484 ∧ k_ ≠ gb496) k_ from fun k_ hk => ⟨(.inr (Nat.le_trans (below_size (by repeat (first | (with_reducible first | exact HB.out | apply below_alloc | apply pw_below_drewN | apply below_drew1 | refine below_set ?_ GE463.out | refine below_set ?_ GE464.out | refine below_set ?_ GE465.out | refine below_set ?_ GE484.out | refine below_set ?_ GE496.out) | exact HB.out))) hk)), mvF_ BK463.out hk, mvF_ BK464.out hk, mvF_ BK465.out hk, mvF_ BK484.out hk, mvF_ BK496.out hk⟩) _ (Nat.le_refl _)) (Below.refl _ _) (Nat.le_refl _) (by simp) ?_; (case hd => rfl); (case hg => rfl); (case hr => first | (go_simp; done) | (go_simp; rfl)); (case hp => exact (Reps.c3 (show Kd.FK k42 _ _ (⟨a3_0, (⟨l3_1, l3_2⟩ : S37)⟩ : S42) [.int .i64 a3_0, .slice A3_1 l3_1.length c3_1, .slice A3_2 l3_2.length c3_2] from (k42_mkF _ _ (⟨a3_0, (⟨l3_1, l3_2⟩ : S37)⟩ : S42) (Kd.V_reads' (Kd.V_mono (ok' := (fun k_ => ((P0_0_ k_ ∨ P0_2_ k_ ∨ P2_1_ k_ ∨ P2_2_ k_ ∨ P3_1_ k_ ∨ P3_2_ k_) ∨ w.heap.size ≤ k_) ∧ k_ ≠ gb463 ∧ k_ ≠ gb464 ∧ k_ ≠ gb465 ∧ k_ ≠ gb484 ∧ k_ ≠ gb496)) (HO_466001.out) (fun k_ hk => ⟨hk.1, ⟨hk.2.1, ⟨hk.2.2.1, ⟨hk.2.2.2.1, ⟨hk.2.2.2.2.1, hk.2.2.2.2.2⟩⟩⟩⟩⟩))).2.1 (Kd.V_F (Kd.V_mono (ok' := (fun k_ => ((P0_0_ k_ ∨ P0_2_ k_ ∨ P2_1_ k_ ∨ P2_2_ k_ ∨ P3_1_ k_ ∨ P3_2_ k_) ∨ w.heap.size ≤ k_) ∧ k_ ≠ gb463 ∧ k_ ≠ gb464 ∧ k_ ≠ gb465 ∧ k_ ≠ gb484 ∧ k_ ≠ gb496)) (HO_466001.out) (fun k_ hk => ⟨hk.1, ⟨hk.2.1, ⟨hk.2.2.1, ⟨hk.2.2.2.1, ⟨hk.2.2.2.2.1, hk.2.2.2.2.2⟩⟩⟩⟩⟩))) (Kd.V_reads' (Kd.V_mono (ok' := (fun k_ => ((P0_0_ k_ ∨ P0_2_ k_ ∨ P2_1_ k_ ∨ P2_2_ k_ ∨ P3_1_ k_ ∨ P3_2_ k_) ∨ w.heap.size ≤ k_) ∧ k_ ≠ gb463 ∧ k_ ≠ gb464 ∧ k_ ≠ gb465 ∧ k_ ≠ gb484 ∧ k_ ≠ gb496)) (HO_466002.out) (fun k_ hk => ⟨hk.1, ⟨hk.2.1, ⟨hk.2.2.1, ⟨hk.2.2.2.1, ⟨hk.2.2.2.2.1, hk.2.2.2.2.2⟩⟩⟩⟩⟩))).2.1 (Kd.V_F (Kd.V_mono (ok' := (fun k_ => ((P0_0_ k_ ∨ P0_2_ k_ ∨ P2_1_ k_ ∨ P2_2_ k_ ∨ P3_1_ k_ ∨ P3_2_ k_) ∨ w.heap.size ≤ k_) ∧ k_ ≠ gb463 ∧ k_ ≠ gb464 ∧ k_ ≠ gb465 ∧ k_ ≠ gb484 ∧ k_ ≠ gb496)) (HO_466002.out) (fun k_ hk => ⟨hk.1, ⟨hk.2.1, ⟨hk.2.2.1, ⟨hk.2.2.2.1, ⟨hk.2.2.2.2.1, hk.2.2.2.2.2⟩⟩⟩⟩⟩))))) (Reps.none _ _))); intro v498 w84 ho85 hb hg_ hnew_; clear hg_ hnew_; (first | rw [← Ny497.out] at ho85 | (simp only [Int.reduceToNat] at ho85; rw [← Ny497.out] at ho85)); have HO499 := Aside0.mk (Kd.N_lower ho85 (below_size (by repeat (first | (with_reducible first | exact HB.out | apply below_alloc | apply pw_below_drewN | apply below_drew1 | refine below_set ?_ GE463.out | refine below_set ?_ GE464.out | refine below_set ?_ GE465.out | refine below_set ?_ GE484.out | refine below_set ?_ GE496.out) | exact HB.out)))); replace HO_464000 := mbV_ HO_464000.out hb; replace HO_464002 := mbV_ HO_464002.out hb; replace HO_465001 := mbV_ HO_465001.out hb; replace HO_465002 := mbV_ HO_465002.out hb; replace HO_466001 := mbV_ HO_466001.out hb; replace HO_466002 := mbV_ HO_466002.out hb; replace HO475 := mbN_ HO475.out hb; replace HO478 := mbV_ HO478.out hb; replace HO482 := mbV_ HO482.out hb; replace HO487 := mbN_ HO487.out hb; replace HO490 := mbV_ HO490.out hb; replace HO494 := mbV_ HO494.out hb; replace BK463 := mvB_ BK463.out hb; replace BK464 := mvB_ BK464.out hb; replace BK465 := mvB_ BK465.out hb; replace BK484 := mvB_ BK484.out hb; replace BK496 := mvB_ BK496.out hb; replace HB := Aside0.mk (below_step (by repeat (first | (with_reducible first | exact HB.out | apply below_alloc | apply pw_below_drewN | apply below_drew1 | refine below_set ?_ GE463.out | refine below_set ?_ GE464.out | refine below_set ?_ GE465.out | refine below_set ?_ GE484.out | refine below_set ?_ GE496.out) | exact HB.out)) hb); clear hb ho85; obtain ⟨Ao86, co86, eo86⟩ := Kd.N_slice HO499.out; subst eo86) | ((with_reducible refine gate_callee (f := 10) rfl ?_); refine gL_ (some 57) Try.func10 #[.agg #[.slice Ao60 t476.length co60, .int .i64 t479, .slice Ao65 t480.length co65], .int .i64 a1, .slice none 0 0, .slice Ao86 y497.length co86] ?_; (refine (store_Commit.calls kj5 (fun k_ => (((P0_0_ k_ ∨ P0_2_ k_ ∨ P2_1_ k_ ∨ P2_2_ k_ ∨ P3_1_ k_ ∨ P3_2_ k_) ∨ w.heap.size ≤ k_) ∧ (k_ ≠ gb463 ∧ (k_ ≠ gb464 ∧ (k_ ≠ gb465 ∧ (k_ ≠ gb484 ∧ k_ ≠ gb496)))))) _ _ t476 t479 (fun k_ => (((P0_0_ k_ ∨ P0_2_ k_ ∨ P2_1_ k_ ∨ P2_2_ k_ ∨ P3_1_ k_ ∨ P3_2_ k_) ∨ w.heap.size ≤ k_) ∧ (k_ ≠ gb463 ∧ (k_ ≠ gb464 ∧ (k_ ≠ gb465 ∧ (k_ ≠ gb484 ∧ k_ ≠ gb496)))))) _ _ t480 a1 _ _ ([] : List Int) _ _ y497 t500 t503 t504 t507 _ ?side1 ?side2 ?side3 ?side4 ?side5 ?side6 A47.out).mono ?_); (case side1 => (with_reducible repeat (first | apply Kd.V_alloc | apply Kd.V_drewN | apply Kd.V_drew)); first | with_reducible exact HO478.out | exact HO478.out | exact Kd.V_mono HO478.out (fun _ h_ => by simpa only [and_assoc, and_comm, and_left_comm] using h_)); (case side2 => (with_reducible repeat (first | apply Kd.V_alloc | apply Kd.V_drewN | apply Kd.V_drew)); first | with_reducible exact HO482.out | exact HO482.out | exact Kd.V_mono HO482.out (fun _ h_ => by simpa only [and_assoc, and_comm, and_left_comm] using h_)); (case side3 => exact Kd.C_nil _ _); (case side4 => exact Nat.le_refl _); (case side5 => exact mvC_ ((Kd.N_reads' HO499.out).2.2)); (case side6 => exact (Kd.N_reads' HO499.out).2.1); rintro e w87 ⟨v501, v505, rfl, ho0, ho1, hb⟩; refine ⟨_, rfl, ?_⟩; have HO502 := Aside0.mk (Kd.V_lower (Kd.V_mono (ok' := fun k_ => ((P0_0_ k_ ∨ P0_2_ k_ ∨ P2_1_ k_ ∨ P2_2_ k_ ∨ P3_1_ k_ ∨ P3_2_ k_) ∨ w.heap.size ≤ k_) ∧ k_ ≠ gb463 ∧ k_ ≠ gb464 ∧ k_ ≠ gb465 ∧ k_ ≠ gb484 ∧ k_ ≠ gb496) ho0 (fun k_ hk_ => ⟨Or.elim hk_ (fun hs_ => Or.elim hs_ (fun hs_ => hs_.1) (fun hs_ => hs_.1)) (fun hn_ => (.inr (Nat.le_trans (below_size (by repeat (first | (with_reducible first | exact HB.out | apply below_alloc | apply pw_below_drewN | apply below_drew1 | refine below_set ?_ GE463.out | refine below_set ?_ GE464.out | refine below_set ?_ GE465.out | refine below_set ?_ GE484.out | refine below_set ?_ GE496.out) | exact HB.out))) hn_))), Or.elim hk_ (fun hs_ => Or.elim hs_ (fun hs_ => hs_.2.1) (fun hs_ => hs_.2.1)) (fun hn_ => (mvF_ BK463.out hn_)), Or.elim hk_ (fun hs_ => Or.elim hs_ (fun hs_ => hs_.2.2.1) (fun hs_ => hs_.2.2.1)) (fun hn_ => (mvF_ BK464.out hn_)), Or.elim hk_ (fun hs_ => Or.elim hs_ (fun hs_ => hs_.2.2.2.1) (fun hs_ => hs_.2.2.2.1)) (fun hn_ => (mvF_ BK465.out hn_)), Or.elim hk_ (fun hs_ => Or.elim hs_ (fun hs_ => hs_.2.2.2.2.1) (fun hs_ => hs_.2.2.2.2.1)) (fun hn_ => (mvF_ BK484.out hn_)), Or.elim hk_ (fun hs_ => Or.elim hs_ (fun hs_ => hs_.2.2.2.2.2) (fun hs_ => hs_.2.2.2.2.2)) (fun hn_ => (mvF_ BK496.out hn_))⟩)) (below_size (by repeat (first | (with_reducible first | exact HB.out | apply below_alloc | apply pw_below_drewN | apply below_drew1 | refine below_set ?_ GE463.out | refine below_set ?_ GE464.out | refine below_set ?_ GE465.out | refine below_set ?_ GE484.out | refine below_set ?_ GE496.out) | exact HB.out)))); have HO506 := Aside0.mk (Kd.V_lower (Kd.V_mono (ok' := fun k_ => ((P0_0_ k_ ∨ P0_2_ k_ ∨ P2_1_ k_ ∨ P2_2_ k_ ∨ P3_1_ k_ ∨ P3_2_ k_) ∨ w.heap.size ≤ k_) ∧ k_ ≠ gb463 ∧ k_ ≠ gb464 ∧ k_ ≠ gb465 ∧ k_ ≠ gb484 ∧ k_ ≠ gb496) ho1 (fun k_ hk_ => ⟨Or.elim hk_ (fun hs_ => Or.elim hs_ (fun hs_ => hs_.1) (fun hs_ => hs_.1)) (fun hn_ => (.inr (Nat.le_trans (below_size (by repeat (first | (with_reducible first | exact HB.out | apply below_alloc | apply pw_below_drewN | apply below_drew1 | refine below_set ?_ GE463.out | refine below_set ?_ GE464.out | refine below_set ?_ GE465.out | refine below_set ?_ GE484.out | refine below_set ?_ GE496.out) | exact HB.out))) hn_))), Or.elim hk_ (fun hs_ => Or.elim hs_ (fun hs_ => hs_.2.1) (fun hs_ => hs_.2.1)) (fun hn_ => (mvF_ BK463.out hn_)), Or.elim hk_ (fun hs_ => Or.elim hs_ (fun hs_ => hs_.2.2.1) (fun hs_ => hs_.2.2.1)) (fun hn_ => (mvF_ BK464.out hn_)), Or.elim hk_ (fun hs_ => Or.elim hs_ (fun hs_ => hs_.2.2.2.1) (fun hs_ => hs_.2.2.2.1)) (fun hn_ => (mvF_ BK465.out hn_)), Or.elim hk_ (fun hs_ => Or.elim hs_ (fun hs_ => hs_.2.2.2.2.1) (fun hs_ => hs_.2.2.2.2.1)) (fun hn_ => (mvF_ BK484.out hn_)), Or.elim hk_ (fun hs_ => Or.elim hs_ (fun hs_ => hs_.2.2.2.2.2) (fun hs_ => hs_.2.2.2.2.2)) (fun hn_ => (mvF_ BK496.out hn_))⟩)) (below_size (by repeat (first | (with_reducible first | exact HB.out | apply below_alloc | apply pw_below_drewN | apply below_drew1 | refine below_set ?_ GE463.out | refine below_set ?_ GE464.out | refine below_set ?_ GE465.out | refine below_set ?_ GE484.out | refine below_set ?_ GE496.out) | exact HB.out)))); replace HO_464000 := mbV_ HO_464000.out hb; replace HO_464002 := mbV_ HO_464002.out hb; replace HO_465001 := mbV_ HO_465001.out hb; replace HO_465002 := mbV_ HO_465002.out hb; replace HO_466001 := mbV_ HO_466001.out hb; replace HO_466002 := mbV_ HO_466002.out hb; replace HO475 := mbN_ HO475.out hb; replace HO478 := mbV_ HO478.out hb; replace HO482 := mbV_ HO482.out hb; replace HO487 := mbN_ HO487.out hb; replace HO490 := mbV_ HO490.out hb; replace HO494 := mbV_ HO494.out hb; replace HO499 := mbN_ HO499.out hb; replace BK463 := mvB_ BK463.out hb; replace BK464 := mvB_ BK464.out hb; replace BK465 := mvB_ BK465.out hb; replace BK484 := mvB_ BK484.out hb; replace BK496 := mvB_ BK496.out hb; replace HB := Aside0.mk (below_step (by repeat (first | (with_reducible first | exact HB.out | apply below_alloc | apply pw_below_drewN | apply below_drew1 | refine below_set ?_ GE463.out | refine below_set ?_ GE464.out | refine below_set ?_ GE465.out | refine below_set ?_ GE484.out | refine below_set ?_ GE496.out) | exact HB.out)) hb); (try clear hb); (try clear ho0); (try clear ho1)) | ((with_reducible refine gate_dst (N := 14) rfl ?_); (try (refine gate_guard (by rfl) ?_; dsimp only)); refine box_event ?hg (N := 14) ?hd (cs := #[.slice none 0 0, .int .i64 0, .slice none 0 0]) (t := 25) ?hr ?_; (case hd => rfl); (case hg => rfl); (case hr => first | (go_simp; done) | (go_simp; rfl)); intro gb508 hg w88 hbox hb; have BK508 := Aside0.mk (hbox); have GW508 := Aside0.mk ((by rw [hg]; exact (below_size (by repeat (first | (with_reducible first | exact HB.out | apply below_alloc | apply pw_below_drewN | apply below_drew1 | refine below_set ?_ GE463.out | refine below_set ?_ GE464.out | refine below_set ?_ GE465.out | refine below_set ?_ GE484.out | refine below_set ?_ GE496.out) | exact HB.out))) : w.heap.size ≤ gb508)); have GE508 := Aside0.mk ((by rw [hg]; exact (below_size (by repeat (first | (with_reducible first | exact HB.out | apply below_alloc | apply pw_below_drewN | apply below_drew1 | refine below_set ?_ GE463.out | refine below_set ?_ GE464.out | refine below_set ?_ GE465.out | refine below_set ?_ GE484.out | refine below_set ?_ GE496.out) | exact HB.out))) : w.heap.size ≤ gb508)); have NB463_508 := Aside0.mk ((by rw [hg]; exact Nat.ne_of_lt (blk_lt (g := gb463) (o := .cells #[.slice A0_0 l0_0.length c0_0, .int .i64 a0_1, .slice A0_2 l0_2.length c0_2] 25 (0, 0)) (mvK_ BK463.out)) : gb463 ≠ gb508)); have NB508_463 := Aside0.mk ((by rw [hg]; exact Nat.ne_of_gt (blk_lt (g := gb463) (o := .cells #[.slice A0_0 l0_0.length c0_0, .int .i64 a0_1, .slice A0_2 l0_2.length c0_2] 25 (0, 0)) (mvK_ BK463.out)) : gb508 ≠ gb463)); have NB464_508 := Aside0.mk ((by rw [hg]; exact Nat.ne_of_lt (blk_lt (g := gb464) (o := .cells #[.int .i64 a2_0, .slice A2_1 l2_1.length c2_1, .slice A2_2 l2_2.length c2_2] 42 (0, 0)) (mvK_ BK464.out)) : gb464 ≠ gb508)); have NB508_464 := Aside0.mk ((by rw [hg]; exact Nat.ne_of_gt (blk_lt (g := gb464) (o := .cells #[.int .i64 a2_0, .slice A2_1 l2_1.length c2_1, .slice A2_2 l2_2.length c2_2] 42 (0, 0)) (mvK_ BK464.out)) : gb508 ≠ gb464)); have NB465_508 := Aside0.mk ((by rw [hg]; exact Nat.ne_of_lt (blk_lt (g := gb465) (o := .cells #[.int .i64 a3_0, .slice A3_1 l3_1.length c3_1, .slice A3_2 l3_2.length c3_2] 42 (0, 0)) (mvK_ BK465.out)) : gb465 ≠ gb508)); have NB508_465 := Aside0.mk ((by rw [hg]; exact Nat.ne_of_gt (blk_lt (g := gb465) (o := .cells #[.int .i64 a3_0, .slice A3_1 l3_1.length c3_1, .slice A3_2 l3_2.length c3_2] 42 (0, 0)) (mvK_ BK465.out)) : gb508 ≠ gb465)); have NB484_508 := Aside0.mk ((by rw [hg]; exact Nat.ne_of_lt (blk_lt (g := gb484) (o := .cells #[.slice Ao60 t476.length co60, .int .i64 t479, .slice Ao65 t480.length co65] 25 (0, 0)) (mvK_ BK484.out)) : gb484 ≠ gb508)); have NB508_484 := Aside0.mk ((by rw [hg]; exact Nat.ne_of_gt (blk_lt (g := gb484) (o := .cells #[.slice Ao60 t476.length co60, .int .i64 t479, .slice Ao65 t480.length co65] 25 (0, 0)) (mvK_ BK484.out)) : gb508 ≠ gb484)); have NB496_508 := Aside0.mk ((by rw [hg]; exact Nat.ne_of_lt (blk_lt (g := gb496) (o := .cells #[.slice Ao74 t488.length co74, .int .i64 t491, .slice Ao80 t492.length co80] 25 (0, 0)) (mvK_ BK496.out)) : gb496 ≠ gb508)); have NB508_496 := Aside0.mk ((by rw [hg]; exact Nat.ne_of_gt (blk_lt (g := gb496) (o := .cells #[.slice Ao74 t488.length co74, .int .i64 t491, .slice Ao80 t492.length co80] 25 (0, 0)) (mvK_ BK496.out)) : gb508 ≠ gb496)); replace HO_464000 := Aside0.mk (Kd.V_below (Kd.V_elderB (mvV_ HO_464000.out) gb508 (Nat.le_of_eq hg.symm)) hb); replace HO_464002 := Aside0.mk (Kd.V_below (Kd.V_elderB (mvV_ HO_464002.out) gb508 (Nat.le_of_eq hg.symm)) hb); replace HO_465001 := Aside0.mk (Kd.V_below (Kd.V_elderB (mvV_ HO_465001.out) gb508 (Nat.le_of_eq hg.symm)) hb); replace HO_465002 := Aside0.mk (Kd.V_below (Kd.V_elderB (mvV_ HO_465002.out) gb508 (Nat.le_of_eq hg.symm)) hb); replace HO_466001 := Aside0.mk (Kd.V_below (Kd.V_elderB (mvV_ HO_466001.out) gb508 (Nat.le_of_eq hg.symm)) hb); replace HO_466002 := Aside0.mk (Kd.V_below (Kd.V_elderB (mvV_ HO_466002.out) gb508 (Nat.le_of_eq hg.symm)) hb); replace HO475 := Aside0.mk (Kd.N_below (Kd.N_elderB (mvN_ HO475.out) gb508 (Nat.le_of_eq hg.symm)) hb); replace HO478 := Aside0.mk (Kd.V_below (Kd.V_elderB (mvV_ HO478.out) gb508 (Nat.le_of_eq hg.symm)) hb); replace HO482 := Aside0.mk (Kd.V_below (Kd.V_elderB (mvV_ HO482.out) gb508 (Nat.le_of_eq hg.symm)) hb); replace HO487 := Aside0.mk (Kd.N_below (Kd.N_elderB (mvN_ HO487.out) gb508 (Nat.le_of_eq hg.symm)) hb); replace HO490 := Aside0.mk (Kd.V_below (Kd.V_elderB (mvV_ HO490.out) gb508 (Nat.le_of_eq hg.symm)) hb); replace HO494 := Aside0.mk (Kd.V_below (Kd.V_elderB (mvV_ HO494.out) gb508 (Nat.le_of_eq hg.symm)) hb); replace HO499 := Aside0.mk (Kd.N_below (Kd.N_elderB (mvN_ HO499.out) gb508 (Nat.le_of_eq hg.symm)) hb); replace HO502 := Aside0.mk (Kd.V_below (Kd.V_elderB (mvV_ HO502.out) gb508 (Nat.le_of_eq hg.symm)) hb); replace HO506 := Aside0.mk (Kd.V_below (Kd.V_elderB (mvV_ HO506.out) gb508 (Nat.le_of_eq hg.symm)) hb); replace BK463 := mvB_ BK463.out hb; replace BK464 := mvB_ BK464.out hb; replace BK465 := mvB_ BK465.out hb; replace BK484 := mvB_ BK484.out hb; replace BK496 := mvB_ BK496.out hb; replace HB := Aside0.mk (below_step (by repeat (first | (with_reducible first | exact HB.out | apply below_alloc | apply pw_below_drewN | apply below_drew1 | refine below_set ?_ GE463.out | refine below_set ?_ GE464.out | refine below_set ?_ GE465.out | refine below_set ?_ GE484.out | refine below_set ?_ GE496.out) | exact HB.out)) hb); clear hb hbox hg; obtain ⟨Ao89, co89, eo89⟩ := Kd.V_slice HO502.out; subst eo89; have hnb90 := NB508_463.out; have hnc90 := NB463_508.out; have hnb91 := NB508_464.out; have hnc91 := NB464_508.out; have hnb92 := NB508_465.out; have hnc92 := NB465_508.out; have hnb93 := NB508_484.out; have hnc93 := NB484_508.out; have hnb94 := NB508_496.out; have hnc94 := NB496_508.out; have hcz95_0 := cz0_ BK508.out; have hcz95_1 := cz1_ BK508.out; have hcz95_2 := cz2_ BK508.out; have hfz95_0 := blk_frozen BK508.out 0; have hfz95_1 := blk_frozen BK508.out 1; have hfz95_2 := blk_frozen BK508.out 2; obtain ⟨Ao96, co96, eo96⟩ := Kd.V_slice HO506.out; subst eo96) | ((with_reducible refine gate_store (t := 25) (p := 14) rfl ?_); refine store_event (t := 25) (p := 14) (v := ?vo_w97) (w1 := (((w88.setCell ⟨gb508, 0, none⟩ (.slice Ao89 t500.length co89)).setCell ⟨gb508, 1, none⟩ (.int .i64 t503)).setCell ⟨gb508, 2, none⟩ (.slice Ao96 t504.length co96))) ?hg ?ho ?hn ?hr ?_; (case ho => rfl); (case hg => rfl); (case hn => rfl); (case hr => first | (go_simp; done) | (go_simp; rfl)); intro w97 hw; have n0_ : Aside0 (Kd.V (Kd.slice 74 k74) 54 w97 w.heap.size (fun k_ => ((P0_0_ k_ ∨ P0_2_ k_ ∨ P2_1_ k_ ∨ P2_2_ k_ ∨ P3_1_ k_ ∨ P3_2_ k_) ∨ w.heap.size ≤ k_) ∧ k_ ≠ gb463 ∧ k_ ≠ gb464 ∧ k_ ≠ gb465 ∧ k_ ≠ gb484 ∧ k_ ≠ gb496 ∧ k_ ≠ gb508) (.slice A0_0 l0_0.length c0_0) l0_0) := ⟨(by rw [hw]; exact (by (with_reducible repeat (first | apply Kd.V_alloc | apply Kd.V_drewN | apply Kd.V_drew)); exact Kd.V_mono (Kd.V_far (p := ⟨gb508, 2, none⟩) (Kd.V_far (p := ⟨gb508, 1, none⟩) (Kd.V_far (p := ⟨gb508, 0, none⟩) (Kd.V_mono HO_464000.out (fun k_ hk => (⟨hk, hk.2⟩ : _ ∧ k_ ≠ gb508))) (fun _ hk => hk.2) (.slice Ao89 t500.length co89)) (fun _ hk => hk.2) (.int .i64 t503)) (fun _ hk => hk.2) (.slice Ao96 t504.length co96)) (fun _ hk => ⟨hk.1.1.1, ⟨hk.1.1.2.1, ⟨hk.1.1.2.2.1, ⟨hk.1.1.2.2.2.1, ⟨hk.1.1.2.2.2.2.1, ⟨hk.1.1.2.2.2.2.2, hk.1.2⟩⟩⟩⟩⟩⟩)))⟩; have n1_ : Aside0 (Kd.V (Kd.int .i64) 3 w97 w.heap.size (fun k_ => ((P0_0_ k_ ∨ P0_2_ k_ ∨ P2_1_ k_ ∨ P2_2_ k_ ∨ P3_1_ k_ ∨ P3_2_ k_) ∨ w.heap.size ≤ k_) ∧ k_ ≠ gb463 ∧ k_ ≠ gb464 ∧ k_ ≠ gb465 ∧ k_ ≠ gb484 ∧ k_ ≠ gb496 ∧ k_ ≠ gb508) (.slice A0_2 l0_2.length c0_2) l0_2) := ⟨(by rw [hw]; exact (by (with_reducible repeat (first | apply Kd.V_alloc | apply Kd.V_drewN | apply Kd.V_drew)); exact Kd.V_mono (Kd.V_far (p := ⟨gb508, 2, none⟩) (Kd.V_far (p := ⟨gb508, 1, none⟩) (Kd.V_far (p := ⟨gb508, 0, none⟩) (Kd.V_mono HO_464002.out (fun k_ hk => (⟨hk, hk.2⟩ : _ ∧ k_ ≠ gb508))) (fun _ hk => hk.2) (.slice Ao89 t500.length co89)) (fun _ hk => hk.2) (.int .i64 t503)) (fun _ hk => hk.2) (.slice Ao96 t504.length co96)) (fun _ hk => ⟨hk.1.1.1, ⟨hk.1.1.2.1, ⟨hk.1.1.2.2.1, ⟨hk.1.1.2.2.2.1, ⟨hk.1.1.2.2.2.2.1, ⟨hk.1.1.2.2.2.2.2, hk.1.2⟩⟩⟩⟩⟩⟩)))⟩; have n2_ : Aside0 (Kd.V (Kd.int .i64) 3 w97 w.heap.size (fun k_ => ((P0_0_ k_ ∨ P0_2_ k_ ∨ P2_1_ k_ ∨ P2_2_ k_ ∨ P3_1_ k_ ∨ P3_2_ k_) ∨ w.heap.size ≤ k_) ∧ k_ ≠ gb463 ∧ k_ ≠ gb464 ∧ k_ ≠ gb465 ∧ k_ ≠ gb484 ∧ k_ ≠ gb496 ∧ k_ ≠ gb508) (.slice A2_1 l2_1.length c2_1) l2_1) := ⟨(by rw [hw]; exact (by (with_reducible repeat (first | apply Kd.V_alloc | apply Kd.V_drewN | apply Kd.V_drew)); exact Kd.V_mono (Kd.V_far (p := ⟨gb508, 2, none⟩) (Kd.V_far (p := ⟨gb508, 1, none⟩) (Kd.V_far (p := ⟨gb508, 0, none⟩) (Kd.V_mono HO_465001.out (fun k_ hk => (⟨hk, hk.2⟩ : _ ∧ k_ ≠ gb508))) (fun _ hk => hk.2) (.slice Ao89 t500.length co89)) (fun _ hk => hk.2) (.int .i64 t503)) (fun _ hk => hk.2) (.slice Ao96 t504.length co96)) (fun _ hk => ⟨hk.1.1.1, ⟨hk.1.1.2.1, ⟨hk.1.1.2.2.1, ⟨hk.1.1.2.2.2.1, ⟨hk.1.1.2.2.2.2.1, ⟨hk.1.1.2.2.2.2.2, hk.1.2⟩⟩⟩⟩⟩⟩)))⟩; have n3_ : Aside0 (Kd.V (Kd.int .i64) 3 w97 w.heap.size (fun k_ => ((P0_0_ k_ ∨ P0_2_ k_ ∨ P2_1_ k_ ∨ P2_2_ k_ ∨ P3_1_ k_ ∨ P3_2_ k_) ∨ w.heap.size ≤ k_) ∧ k_ ≠ gb463 ∧ k_ ≠ gb464 ∧ k_ ≠ gb465 ∧ k_ ≠ gb484 ∧ k_ ≠ gb496 ∧ k_ ≠ gb508) (.slice A2_2 l2_2.length c2_2) l2_2) := ⟨(by rw [hw]; exact (by (with_reducible repeat (first | apply Kd.V_alloc | apply Kd.V_drewN | apply Kd.V_drew)); exact Kd.V_mono (Kd.V_far (p := ⟨gb508, 2, none⟩) (Kd.V_far (p := ⟨gb508, 1, none⟩) (Kd.V_far (p := ⟨gb508, 0, none⟩) (Kd.V_mono HO_465002.out (fun k_ hk => (⟨hk, hk.2⟩ : _ ∧ k_ ≠ gb508))) (fun _ hk => hk.2) (.slice Ao89 t500.length co89)) (fun _ hk => hk.2) (.int .i64 t503)) (fun _ hk => hk.2) (.slice Ao96 t504.length co96)) (fun _ hk => ⟨hk.1.1.1, ⟨hk.1.1.2.1, ⟨hk.1.1.2.2.1, ⟨hk.1.1.2.2.2.1, ⟨hk.1.1.2.2.2.2.1, ⟨hk.1.1.2.2.2.2.2, hk.1.2⟩⟩⟩⟩⟩⟩)))⟩; have n4_ : Aside0 (Kd.V (Kd.int .i64) 3 w97 w.heap.size (fun k_ => ((P0_0_ k_ ∨ P0_2_ k_ ∨ P2_1_ k_ ∨ P2_2_ k_ ∨ P3_1_ k_ ∨ P3_2_ k_) ∨ w.heap.size ≤ k_) ∧ k_ ≠ gb463 ∧ k_ ≠ gb464 ∧ k_ ≠ gb465 ∧ k_ ≠ gb484 ∧ k_ ≠ gb496 ∧ k_ ≠ gb508) (.slice A3_1 l3_1.length c3_1) l3_1) := ⟨(by rw [hw]; exact (by (with_reducible repeat (first | apply Kd.V_alloc | apply Kd.V_drewN | apply Kd.V_drew)); exact Kd.V_mono (Kd.V_far (p := ⟨gb508, 2, none⟩) (Kd.V_far (p := ⟨gb508, 1, none⟩) (Kd.V_far (p := ⟨gb508, 0, none⟩) (Kd.V_mono HO_466001.out (fun k_ hk => (⟨hk, hk.2⟩ : _ ∧ k_ ≠ gb508))) (fun _ hk => hk.2) (.slice Ao89 t500.length co89)) (fun _ hk => hk.2) (.int .i64 t503)) (fun _ hk => hk.2) (.slice Ao96 t504.length co96)) (fun _ hk => ⟨hk.1.1.1, ⟨hk.1.1.2.1, ⟨hk.1.1.2.2.1, ⟨hk.1.1.2.2.2.1, ⟨hk.1.1.2.2.2.2.1, ⟨hk.1.1.2.2.2.2.2, hk.1.2⟩⟩⟩⟩⟩⟩)))⟩; have n5_ : Aside0 (Kd.V (Kd.int .i64) 3 w97 w.heap.size (fun k_ => ((P0_0_ k_ ∨ P0_2_ k_ ∨ P2_1_ k_ ∨ P2_2_ k_ ∨ P3_1_ k_ ∨ P3_2_ k_) ∨ w.heap.size ≤ k_) ∧ k_ ≠ gb463 ∧ k_ ≠ gb464 ∧ k_ ≠ gb465 ∧ k_ ≠ gb484 ∧ k_ ≠ gb496 ∧ k_ ≠ gb508) (.slice A3_2 l3_2.length c3_2) l3_2) := ⟨(by rw [hw]; exact (by (with_reducible repeat (first | apply Kd.V_alloc | apply Kd.V_drewN | apply Kd.V_drew)); exact Kd.V_mono (Kd.V_far (p := ⟨gb508, 2, none⟩) (Kd.V_far (p := ⟨gb508, 1, none⟩) (Kd.V_far (p := ⟨gb508, 0, none⟩) (Kd.V_mono HO_466002.out (fun k_ hk => (⟨hk, hk.2⟩ : _ ∧ k_ ≠ gb508))) (fun _ hk => hk.2) (.slice Ao89 t500.length co89)) (fun _ hk => hk.2) (.int .i64 t503)) (fun _ hk => hk.2) (.slice Ao96 t504.length co96)) (fun _ hk => ⟨hk.1.1.1, ⟨hk.1.1.2.1, ⟨hk.1.1.2.2.1, ⟨hk.1.1.2.2.2.1, ⟨hk.1.1.2.2.2.2.1, ⟨hk.1.1.2.2.2.2.2, hk.1.2⟩⟩⟩⟩⟩⟩)))⟩; have n6_ : Aside0 (Kd.N k42 42 w97 w.heap.size (fun k_ => ((P0_0_ k_ ∨ P0_2_ k_ ∨ P2_1_ k_ ∨ P2_2_ k_ ∨ P3_1_ k_ ∨ P3_2_ k_) ∨ w.heap.size ≤ k_) ∧ k_ ≠ gb463 ∧ k_ ≠ gb464 ∧ k_ ≠ gb465 ∧ k_ ≠ gb484 ∧ k_ ≠ gb496 ∧ k_ ≠ gb508) (.slice Ao57 y473.length co57) y473) := ⟨(by rw [hw]; exact (by (with_reducible repeat (first | apply Kd.N_alloc | apply Kd.N_drewN | apply Kd.N_drew)); exact Kd.N_mono (Kd.N_far (p := ⟨gb508, 2, none⟩) (Kd.N_far (p := ⟨gb508, 1, none⟩) (Kd.N_far (p := ⟨gb508, 0, none⟩) (Kd.N_mono HO475.out (fun k_ hk => (⟨hk, hk.2⟩ : _ ∧ k_ ≠ gb508))) (fun _ hk => hk.2) (.slice Ao89 t500.length co89)) (fun _ hk => hk.2) (.int .i64 t503)) (fun _ hk => hk.2) (.slice Ao96 t504.length co96)) (fun _ hk => ⟨hk.1.1.1, ⟨hk.1.1.2.1, ⟨hk.1.1.2.2.1, ⟨hk.1.1.2.2.2.1, ⟨hk.1.1.2.2.2.2.1, ⟨hk.1.1.2.2.2.2.2, hk.1.2⟩⟩⟩⟩⟩⟩)))⟩; have n7_ : Aside0 (Kd.V (Kd.slice 74 k74) 54 w97 w.heap.size (fun k_ => ((P0_0_ k_ ∨ P0_2_ k_ ∨ P2_1_ k_ ∨ P2_2_ k_ ∨ P3_1_ k_ ∨ P3_2_ k_) ∨ w.heap.size ≤ k_) ∧ k_ ≠ gb463 ∧ k_ ≠ gb464 ∧ k_ ≠ gb465 ∧ k_ ≠ gb484 ∧ k_ ≠ gb496 ∧ k_ ≠ gb508) (.slice Ao60 t476.length co60) t476) := ⟨(by rw [hw]; exact (by (with_reducible repeat (first | apply Kd.V_alloc | apply Kd.V_drewN | apply Kd.V_drew)); exact Kd.V_mono (Kd.V_far (p := ⟨gb508, 2, none⟩) (Kd.V_far (p := ⟨gb508, 1, none⟩) (Kd.V_far (p := ⟨gb508, 0, none⟩) (Kd.V_mono HO478.out (fun k_ hk => (⟨hk, hk.2⟩ : _ ∧ k_ ≠ gb508))) (fun _ hk => hk.2) (.slice Ao89 t500.length co89)) (fun _ hk => hk.2) (.int .i64 t503)) (fun _ hk => hk.2) (.slice Ao96 t504.length co96)) (fun _ hk => ⟨hk.1.1.1, ⟨hk.1.1.2.1, ⟨hk.1.1.2.2.1, ⟨hk.1.1.2.2.2.1, ⟨hk.1.1.2.2.2.2.1, ⟨hk.1.1.2.2.2.2.2, hk.1.2⟩⟩⟩⟩⟩⟩)))⟩; have n8_ : Aside0 (Kd.V (Kd.int .i64) 3 w97 w.heap.size (fun k_ => ((P0_0_ k_ ∨ P0_2_ k_ ∨ P2_1_ k_ ∨ P2_2_ k_ ∨ P3_1_ k_ ∨ P3_2_ k_) ∨ w.heap.size ≤ k_) ∧ k_ ≠ gb463 ∧ k_ ≠ gb464 ∧ k_ ≠ gb465 ∧ k_ ≠ gb484 ∧ k_ ≠ gb496 ∧ k_ ≠ gb508) (.slice Ao65 t480.length co65) t480) := ⟨(by rw [hw]; exact (by (with_reducible repeat (first | apply Kd.V_alloc | apply Kd.V_drewN | apply Kd.V_drew)); exact Kd.V_mono (Kd.V_far (p := ⟨gb508, 2, none⟩) (Kd.V_far (p := ⟨gb508, 1, none⟩) (Kd.V_far (p := ⟨gb508, 0, none⟩) (Kd.V_mono HO482.out (fun k_ hk => (⟨hk, hk.2⟩ : _ ∧ k_ ≠ gb508))) (fun _ hk => hk.2) (.slice Ao89 t500.length co89)) (fun _ hk => hk.2) (.int .i64 t503)) (fun _ hk => hk.2) (.slice Ao96 t504.length co96)) (fun _ hk => ⟨hk.1.1.1, ⟨hk.1.1.2.1, ⟨hk.1.1.2.2.1, ⟨hk.1.1.2.2.2.1, ⟨hk.1.1.2.2.2.2.1, ⟨hk.1.1.2.2.2.2.2, hk.1.2⟩⟩⟩⟩⟩⟩)))⟩; have n9_ : Aside0 (Kd.N k42 42 w97 w.heap.size (fun k_ => ((P0_0_ k_ ∨ P0_2_ k_ ∨ P2_1_ k_ ∨ P2_2_ k_ ∨ P3_1_ k_ ∨ P3_2_ k_) ∨ w.heap.size ≤ k_) ∧ k_ ≠ gb463 ∧ k_ ≠ gb464 ∧ k_ ≠ gb465 ∧ k_ ≠ gb484 ∧ k_ ≠ gb496 ∧ k_ ≠ gb508) (.slice Ao71 y485.length co71) y485) := ⟨(by rw [hw]; exact (by (with_reducible repeat (first | apply Kd.N_alloc | apply Kd.N_drewN | apply Kd.N_drew)); exact Kd.N_mono (Kd.N_far (p := ⟨gb508, 2, none⟩) (Kd.N_far (p := ⟨gb508, 1, none⟩) (Kd.N_far (p := ⟨gb508, 0, none⟩) (Kd.N_mono HO487.out (fun k_ hk => (⟨hk, hk.2⟩ : _ ∧ k_ ≠ gb508))) (fun _ hk => hk.2) (.slice Ao89 t500.length co89)) (fun _ hk => hk.2) (.int .i64 t503)) (fun _ hk => hk.2) (.slice Ao96 t504.length co96)) (fun _ hk => ⟨hk.1.1.1, ⟨hk.1.1.2.1, ⟨hk.1.1.2.2.1, ⟨hk.1.1.2.2.2.1, ⟨hk.1.1.2.2.2.2.1, ⟨hk.1.1.2.2.2.2.2, hk.1.2⟩⟩⟩⟩⟩⟩)))⟩; have n10_ : Aside0 (Kd.V (Kd.slice 74 k74) 54 w97 w.heap.size (fun k_ => ((P0_0_ k_ ∨ P0_2_ k_ ∨ P2_1_ k_ ∨ P2_2_ k_ ∨ P3_1_ k_ ∨ P3_2_ k_) ∨ w.heap.size ≤ k_) ∧ k_ ≠ gb463 ∧ k_ ≠ gb464 ∧ k_ ≠ gb465 ∧ k_ ≠ gb484 ∧ k_ ≠ gb496 ∧ k_ ≠ gb508) (.slice Ao74 t488.length co74) t488) := ⟨(by rw [hw]; exact (by (with_reducible repeat (first | apply Kd.V_alloc | apply Kd.V_drewN | apply Kd.V_drew)); exact Kd.V_mono (Kd.V_far (p := ⟨gb508, 2, none⟩) (Kd.V_far (p := ⟨gb508, 1, none⟩) (Kd.V_far (p := ⟨gb508, 0, none⟩) (Kd.V_mono HO490.out (fun k_ hk => (⟨hk, hk.2⟩ : _ ∧ k_ ≠ gb508))) (fun _ hk => hk.2) (.slice Ao89 t500.length co89)) (fun _ hk => hk.2) (.int .i64 t503)) (fun _ hk => hk.2) (.slice Ao96 t504.length co96)) (fun _ hk => ⟨hk.1.1.1, ⟨hk.1.1.2.1, ⟨hk.1.1.2.2.1, ⟨hk.1.1.2.2.2.1, ⟨hk.1.1.2.2.2.2.1, ⟨hk.1.1.2.2.2.2.2, hk.1.2⟩⟩⟩⟩⟩⟩)))⟩; have n11_ : Aside0 (Kd.V (Kd.int .i64) 3 w97 w.heap.size (fun k_ => ((P0_0_ k_ ∨ P0_2_ k_ ∨ P2_1_ k_ ∨ P2_2_ k_ ∨ P3_1_ k_ ∨ P3_2_ k_) ∨ w.heap.size ≤ k_) ∧ k_ ≠ gb463 ∧ k_ ≠ gb464 ∧ k_ ≠ gb465 ∧ k_ ≠ gb484 ∧ k_ ≠ gb496 ∧ k_ ≠ gb508) (.slice Ao80 t492.length co80) t492) := ⟨(by rw [hw]; exact (by (with_reducible repeat (first | apply Kd.V_alloc | apply Kd.V_drewN | apply Kd.V_drew)); exact Kd.V_mono (Kd.V_far (p := ⟨gb508, 2, none⟩) (Kd.V_far (p := ⟨gb508, 1, none⟩) (Kd.V_far (p := ⟨gb508, 0, none⟩) (Kd.V_mono HO494.out (fun k_ hk => (⟨hk, hk.2⟩ : _ ∧ k_ ≠ gb508))) (fun _ hk => hk.2) (.slice Ao89 t500.length co89)) (fun _ hk => hk.2) (.int .i64 t503)) (fun _ hk => hk.2) (.slice Ao96 t504.length co96)) (fun _ hk => ⟨hk.1.1.1, ⟨hk.1.1.2.1, ⟨hk.1.1.2.2.1, ⟨hk.1.1.2.2.2.1, ⟨hk.1.1.2.2.2.2.1, ⟨hk.1.1.2.2.2.2.2, hk.1.2⟩⟩⟩⟩⟩⟩)))⟩; have n12_ : Aside0 (Kd.N k42 42 w97 w.heap.size (fun k_ => ((P0_0_ k_ ∨ P0_2_ k_ ∨ P2_1_ k_ ∨ P2_2_ k_ ∨ P3_1_ k_ ∨ P3_2_ k_) ∨ w.heap.size ≤ k_) ∧ k_ ≠ gb463 ∧ k_ ≠ gb464 ∧ k_ ≠ gb465 ∧ k_ ≠ gb484 ∧ k_ ≠ gb496 ∧ k_ ≠ gb508) (.slice Ao86 y497.length co86) y497) := ⟨(by rw [hw]; exact (by (with_reducible repeat (first | apply Kd.N_alloc | apply Kd.N_drewN | apply Kd.N_drew)); exact Kd.N_mono (Kd.N_far (p := ⟨gb508, 2, none⟩) (Kd.N_far (p := ⟨gb508, 1, none⟩) (Kd.N_far (p := ⟨gb508, 0, none⟩) (Kd.N_mono HO499.out (fun k_ hk => (⟨hk, hk.2⟩ : _ ∧ k_ ≠ gb508))) (fun _ hk => hk.2) (.slice Ao89 t500.length co89)) (fun _ hk => hk.2) (.int .i64 t503)) (fun _ hk => hk.2) (.slice Ao96 t504.length co96)) (fun _ hk => ⟨hk.1.1.1, ⟨hk.1.1.2.1, ⟨hk.1.1.2.2.1, ⟨hk.1.1.2.2.2.1, ⟨hk.1.1.2.2.2.2.1, ⟨hk.1.1.2.2.2.2.2, hk.1.2⟩⟩⟩⟩⟩⟩)))⟩; have n13_ : Aside0 (Kd.V (Kd.slice 74 k74) 54 w97 w.heap.size (fun k_ => ((P0_0_ k_ ∨ P0_2_ k_ ∨ P2_1_ k_ ∨ P2_2_ k_ ∨ P3_1_ k_ ∨ P3_2_ k_) ∨ w.heap.size ≤ k_) ∧ k_ ≠ gb463 ∧ k_ ≠ gb464 ∧ k_ ≠ gb465 ∧ k_ ≠ gb484 ∧ k_ ≠ gb496 ∧ k_ ≠ gb508) (.slice Ao89 t500.length co89) t500) := ⟨(by rw [hw]; exact (by (with_reducible repeat (first | apply Kd.V_alloc | apply Kd.V_drewN | apply Kd.V_drew)); exact Kd.V_mono (Kd.V_far (p := ⟨gb508, 2, none⟩) (Kd.V_far (p := ⟨gb508, 1, none⟩) (Kd.V_far (p := ⟨gb508, 0, none⟩) (Kd.V_mono HO502.out (fun k_ hk => (⟨hk, hk.2⟩ : _ ∧ k_ ≠ gb508))) (fun _ hk => hk.2) (.slice Ao89 t500.length co89)) (fun _ hk => hk.2) (.int .i64 t503)) (fun _ hk => hk.2) (.slice Ao96 t504.length co96)) (fun _ hk => ⟨hk.1.1.1, ⟨hk.1.1.2.1, ⟨hk.1.1.2.2.1, ⟨hk.1.1.2.2.2.1, ⟨hk.1.1.2.2.2.2.1, ⟨hk.1.1.2.2.2.2.2, hk.1.2⟩⟩⟩⟩⟩⟩)))⟩; have n14_ : Aside0 (Kd.V (Kd.int .i64) 3 w97 w.heap.size (fun k_ => ((P0_0_ k_ ∨ P0_2_ k_ ∨ P2_1_ k_ ∨ P2_2_ k_ ∨ P3_1_ k_ ∨ P3_2_ k_) ∨ w.heap.size ≤ k_) ∧ k_ ≠ gb463 ∧ k_ ≠ gb464 ∧ k_ ≠ gb465 ∧ k_ ≠ gb484 ∧ k_ ≠ gb496 ∧ k_ ≠ gb508) (.slice Ao96 t504.length co96) t504) := ⟨(by rw [hw]; exact (by (with_reducible repeat (first | apply Kd.V_alloc | apply Kd.V_drewN | apply Kd.V_drew)); exact Kd.V_mono (Kd.V_far (p := ⟨gb508, 2, none⟩) (Kd.V_far (p := ⟨gb508, 1, none⟩) (Kd.V_far (p := ⟨gb508, 0, none⟩) (Kd.V_mono HO506.out (fun k_ hk => (⟨hk, hk.2⟩ : _ ∧ k_ ≠ gb508))) (fun _ hk => hk.2) (.slice Ao89 t500.length co89)) (fun _ hk => hk.2) (.int .i64 t503)) (fun _ hk => hk.2) (.slice Ao96 t504.length co96)) (fun _ hk => ⟨hk.1.1.1, ⟨hk.1.1.2.1, ⟨hk.1.1.2.2.1, ⟨hk.1.1.2.2.2.1, ⟨hk.1.1.2.2.2.2.1, ⟨hk.1.1.2.2.2.2.2, hk.1.2⟩⟩⟩⟩⟩⟩)))⟩; have n15_ : Aside0 (w97.heap[gb463]? = some (.cells #[.slice A0_0 l0_0.length c0_0, .int .i64 a0_1, .slice A0_2 l0_2.length c0_2] 25 (0, 0))) := ⟨(by rw [hw]; exact (by (with_reducible repeat (first | refine blk_drewN ?_ _ | refine blk_drew ?_ | refine blk_alloc ?_ _)); refine blk_far ?_ NB463_508.out _; (with_reducible repeat (first | refine blk_drewN ?_ _ | refine blk_drew ?_ | refine blk_alloc ?_ _)); refine blk_far ?_ NB463_508.out _; (with_reducible repeat (first | refine blk_drewN ?_ _ | refine blk_drew ?_ | refine blk_alloc ?_ _)); refine blk_far ?_ NB463_508.out _; (with_reducible repeat (first | refine blk_drewN ?_ _ | refine blk_drew ?_ | refine blk_alloc ?_ _)); exact BK463.out))⟩; have n16_ : Aside0 (w97.heap[gb464]? = some (.cells #[.int .i64 a2_0, .slice A2_1 l2_1.length c2_1, .slice A2_2 l2_2.length c2_2] 42 (0, 0))) := ⟨(by rw [hw]; exact (by (with_reducible repeat (first | refine blk_drewN ?_ _ | refine blk_drew ?_ | refine blk_alloc ?_ _)); refine blk_far ?_ NB464_508.out _; (with_reducible repeat (first | refine blk_drewN ?_ _ | refine blk_drew ?_ | refine blk_alloc ?_ _)); refine blk_far ?_ NB464_508.out _; (with_reducible repeat (first | refine blk_drewN ?_ _ | refine blk_drew ?_ | refine blk_alloc ?_ _)); refine blk_far ?_ NB464_508.out _; (with_reducible repeat (first | refine blk_drewN ?_ _ | refine blk_drew ?_ | refine blk_alloc ?_ _)); exact BK464.out))⟩; have n17_ : Aside0 (w97.heap[gb465]? = some (.cells #[.int .i64 a3_0, .slice A3_1 l3_1.length c3_1, .slice A3_2 l3_2.length c3_2] 42 (0, 0))) := ⟨(by rw [hw]; exact (by (with_reducible repeat (first | refine blk_drewN ?_ _ | refine blk_drew ?_ | refine blk_alloc ?_ _)); refine blk_far ?_ NB465_508.out _; (with_reducible repeat (first | refine blk_drewN ?_ _ | refine blk_drew ?_ | refine blk_alloc ?_ _)); refine blk_far ?_ NB465_508.out _; (with_reducible repeat (first | refine blk_drewN ?_ _ | refine blk_drew ?_ | refine blk_alloc ?_ _)); refine blk_far ?_ NB465_508.out _; (with_reducible repeat (first | refine blk_drewN ?_ _ | refine blk_drew ?_ | refine blk_alloc ?_ _)); exact BK465.out))⟩; have n18_ : Aside0 (w97.heap[gb484]? = some (.cells #[.slice Ao60 t476.length co60, .int .i64 t479, .slice Ao65 t480.length co65] 25 (0, 0))) := ⟨(by rw [hw]; exact (by (with_reducible repeat (first | refine blk_drewN ?_ _ | refine blk_drew ?_ | refine blk_alloc ?_ _)); refine blk_far ?_ NB484_508.out _; (with_reducible repeat (first | refine blk_drewN ?_ _ | refine blk_drew ?_ | refine blk_alloc ?_ _)); refine blk_far ?_ NB484_508.out _; (with_reducible repeat (first | refine blk_drewN ?_ _ | refine blk_drew ?_ | refine blk_alloc ?_ _)); refine blk_far ?_ NB484_508.out _; (with_reducible repeat (first | refine blk_drewN ?_ _ | refine blk_drew ?_ | refine blk_alloc ?_ _)); exact BK484.out))⟩; have n19_ : Aside0 (w97.heap[gb496]? = some (.cells #[.slice Ao74 t488.length co74, .int .i64 t491, .slice Ao80 t492.length co80] 25 (0, 0))) := ⟨(by rw [hw]; exact (by (with_reducible repeat (first | refine blk_drewN ?_ _ | refine blk_drew ?_ | refine blk_alloc ?_ _)); refine blk_far ?_ NB496_508.out _; (with_reducible repeat (first | refine blk_drewN ?_ _ | refine blk_drew ?_ | refine blk_alloc ?_ _)); refine blk_far ?_ NB496_508.out _; (with_reducible repeat (first | refine blk_drewN ?_ _ | refine blk_drew ?_ | refine blk_alloc ?_ _)); refine blk_far ?_ NB496_508.out _; (with_reducible repeat (first | refine blk_drewN ?_ _ | refine blk_drew ?_ | refine blk_alloc ?_ _)); exact BK496.out))⟩; have n20_ : Aside0 (w97.heap[gb508]? = some (.cells #[.slice Ao89 t500.length co89, .int .i64 t503, .slice Ao96 t504.length co96] 25 (0, 0))) := ⟨(by rw [hw]; exact (by (with_reducible repeat (first | refine blk_drewN ?_ _ | refine blk_drew ?_ | refine blk_alloc ?_ _)); refine blk_put (cs := #[.slice Ao89 t500.length co89, .int .i64 t503, .slice none 0 0]) ?_ 2 _ rfl; (with_reducible repeat (first | refine blk_drewN ?_ _ | refine blk_drew ?_ | refine blk_alloc ?_ _)); refine blk_put (cs := #[.slice Ao89 t500.length co89, .int .i64 0, .slice none 0 0]) ?_ 1 _ rfl; (with_reducible repeat (first | refine blk_drewN ?_ _ | refine blk_drew ?_ | refine blk_alloc ?_ _)); refine blk_put (cs := #[.slice none 0 0, .int .i64 0, .slice none 0 0]) ?_ 0 _ rfl; (with_reducible repeat (first | refine blk_drewN ?_ _ | refine blk_drew ?_ | refine blk_alloc ?_ _)); exact BK508.out))⟩; have n21_ : Aside0 (Below w.heap.size w w97) := ⟨(by rw [hw]; exact (by repeat (first | (with_reducible first | exact HB.out | apply below_alloc | apply pw_below_drewN | apply below_drew1 | refine below_set ?_ GE463.out | refine below_set ?_ GE464.out | refine below_set ?_ GE465.out | refine below_set ?_ GE484.out | refine below_set ?_ GE496.out | refine below_set ?_ GE508.out) | exact HB.out)))⟩; clear hw; clear HO_464000; clear HO_464002; clear HO_465001; clear HO_465002; clear HO_466001; clear HO_466002; clear HO475; clear HO478; clear HO482; clear HO487; clear HO490; clear HO494; clear HO499; clear HO502; clear HO506; clear BK463; clear BK464; clear BK465; clear BK484; clear BK496; clear BK508; clear HB; have HO_464000 := n0_; have HO_464002 := n1_; have HO_465001 := n2_; have HO_465002 := n3_; have HO_466001 := n4_; have HO_466002 := n5_; have HO475 := n6_; have HO478 := n7_; have HO482 := n8_; have HO487 := n9_; have HO490 := n10_; have HO494 := n11_; have HO499 := n12_; have HO502 := n13_; have HO506 := n14_; have BK463 := n15_; have BK464 := n16_; have BK465 := n17_; have BK484 := n18_; have BK496 := n19_; have BK508 := n20_; have HB := n21_; clear n0_ n1_ n2_ n3_ n4_ n5_ n6_ n7_ n8_ n9_ n10_ n11_ n12_ n13_ n14_ n15_ n16_ n17_ n18_ n19_ n20_ n21_; have hcz98_0 := cz0_ BK496.out; have hcz98_1 := cz1_ BK496.out; have hcz98_2 := cz2_ BK496.out; have hfz98_0 := blk_frozen BK496.out 0; have hfz98_1 := blk_frozen BK496.out 1; have hfz98_2 := blk_frozen BK496.out 2; have hcz99_0 := cz0_ BK464.out; have hcz99_1 := cz1_ BK464.out; have hcz99_2 := cz2_ BK464.out; have hfz99_0 := blk_frozen BK464.out 0; have hfz99_1 := blk_frozen BK464.out 1; have hfz99_2 := blk_frozen BK464.out 2) | ((with_reducible refine gate_dst (N := 64) rfl ?_); (try (refine gate_guard (by rfl) ?_; dsimp only)); refine Kd.N_lit k42 _ 42 ?hg (N' := 64) ?hd (xs := ([(⟨a2_0, (⟨l2_1, l2_2⟩ : S37)⟩ : S42)] : List (S42))) (inner := [.int .i64 a2_0, .slice A2_1 l2_1.length c2_1, .slice A2_2 l2_2.length c2_2]) (ok := (fun k_ => ((P0_0_ k_ ∨ P0_2_ k_ ∨ P2_1_ k_ ∨ P2_2_ k_ ∨ P3_1_ k_ ∨ P3_2_ k_) ∨ w.heap.size ≤ k_) ∧ k_ ≠ gb463 ∧ k_ ≠ gb464 ∧ k_ ≠ gb465 ∧ k_ ≠ gb484 ∧ k_ ≠ gb496 ∧ k_ ≠ gb508)) (okp := (fun k_ => ((P0_0_ k_ ∨ P0_2_ k_ ∨ P2_1_ k_ ∨ P2_2_ k_ ∨ P3_1_ k_ ∨ P3_2_ k_) ∨ w.heap.size ≤ k_) ∧ k_ ≠ gb463 ∧ k_ ≠ gb464 ∧ k_ ≠ gb465 ∧ k_ ≠ gb484 ∧ k_ ≠ gb496 ∧ k_ ≠ gb508)) ?hr ?hp (fun _ hk => hk) ((show ∀ k_, w97.heap.size ≤ k_ → (fun k_ => ((P0_0_ k_ ∨ P0_2_ k_ ∨ P2_1_ k_ ∨ P2_2_ k_ ∨ P3_1_ k_ ∨ P3_2_ k_) ∨ w.heap.size ≤ k_) ∧ k_ ≠ gb463 ∧ k_ ≠ gb464 ∧ k_ ≠ gb465 ∧ k_ ≠ gb484 ∧ k_ ≠ gb496 ∧ k_ ≠ gb508) k_ from fun k_ hk => ⟨(.inr (Nat.le_trans (below_size (by repeat (first | (with_reducible first | exact HB.out | apply below_alloc | apply pw_below_drewN | apply below_drew1 | refine below_set ?_ GE463.out | refine below_set ?_ GE464.out | refine below_set ?_ GE465.out | refine below_set ?_ GE484.out | refine below_set ?_ GE496.out | refine below_set ?_ GE508.out) | exact HB.out))) hk)), mvF_ BK463.out hk, mvF_ BK464.out hk, mvF_ BK465.out hk, mvF_ BK484.out hk, mvF_ BK496.out hk, mvF_ BK508.out hk⟩) _ (Nat.le_refl _)) (Below.refl _ _) (Nat.le_refl _) (by simp) ?_; (case hd => rfl); (case hg => rfl); (case hr => first | (go_simp; done) | (go_simp; rfl)); (case hp => exact (Reps.c3 (show Kd.FK k42 _ _ (⟨a2_0, (⟨l2_1, l2_2⟩ : S37)⟩ : S42) [.int .i64 a2_0, .slice A2_1 l2_1.length c2_1, .slice A2_2 l2_2.length c2_2] from (k42_mkF _ _ (⟨a2_0, (⟨l2_1, l2_2⟩ : S37)⟩ : S42) (Kd.V_reads' (Kd.V_mono (ok' := (fun k_ => ((P0_0_ k_ ∨ P0_2_ k_ ∨ P2_1_ k_ ∨ P2_2_ k_ ∨ P3_1_ k_ ∨ P3_2_ k_) ∨ w.heap.size ≤ k_) ∧ k_ ≠ gb463 ∧ k_ ≠ gb464 ∧ k_ ≠ gb465 ∧ k_ ≠ gb484 ∧ k_ ≠ gb496 ∧ k_ ≠ gb508)) (HO_465001.out) (fun k_ hk => ⟨hk.1, ⟨hk.2.1, ⟨hk.2.2.1, ⟨hk.2.2.2.1, ⟨hk.2.2.2.2.1, ⟨hk.2.2.2.2.2.1, hk.2.2.2.2.2.2⟩⟩⟩⟩⟩⟩))).2.1 (Kd.V_F (Kd.V_mono (ok' := (fun k_ => ((P0_0_ k_ ∨ P0_2_ k_ ∨ P2_1_ k_ ∨ P2_2_ k_ ∨ P3_1_ k_ ∨ P3_2_ k_) ∨ w.heap.size ≤ k_) ∧ k_ ≠ gb463 ∧ k_ ≠ gb464 ∧ k_ ≠ gb465 ∧ k_ ≠ gb484 ∧ k_ ≠ gb496 ∧ k_ ≠ gb508)) (HO_465001.out) (fun k_ hk => ⟨hk.1, ⟨hk.2.1, ⟨hk.2.2.1, ⟨hk.2.2.2.1, ⟨hk.2.2.2.2.1, ⟨hk.2.2.2.2.2.1, hk.2.2.2.2.2.2⟩⟩⟩⟩⟩⟩))) (Kd.V_reads' (Kd.V_mono (ok' := (fun k_ => ((P0_0_ k_ ∨ P0_2_ k_ ∨ P2_1_ k_ ∨ P2_2_ k_ ∨ P3_1_ k_ ∨ P3_2_ k_) ∨ w.heap.size ≤ k_) ∧ k_ ≠ gb463 ∧ k_ ≠ gb464 ∧ k_ ≠ gb465 ∧ k_ ≠ gb484 ∧ k_ ≠ gb496 ∧ k_ ≠ gb508)) (HO_465002.out) (fun k_ hk => ⟨hk.1, ⟨hk.2.1, ⟨hk.2.2.1, ⟨hk.2.2.2.1, ⟨hk.2.2.2.2.1, ⟨hk.2.2.2.2.2.1, hk.2.2.2.2.2.2⟩⟩⟩⟩⟩⟩))).2.1 (Kd.V_F (Kd.V_mono (ok' := (fun k_ => ((P0_0_ k_ ∨ P0_2_ k_ ∨ P2_1_ k_ ∨ P2_2_ k_ ∨ P3_1_ k_ ∨ P3_2_ k_) ∨ w.heap.size ≤ k_) ∧ k_ ≠ gb463 ∧ k_ ≠ gb464 ∧ k_ ≠ gb465 ∧ k_ ≠ gb484 ∧ k_ ≠ gb496 ∧ k_ ≠ gb508)) (HO_465002.out) (fun k_ hk => ⟨hk.1, ⟨hk.2.1, ⟨hk.2.2.1, ⟨hk.2.2.2.1, ⟨hk.2.2.2.2.1, ⟨hk.2.2.2.2.2.1, hk.2.2.2.2.2.2⟩⟩⟩⟩⟩⟩))))) (Reps.none _ _))); intro v510 w100 ho101 hb hg_ hnew_; clear hg_ hnew_; (first | rw [← Ny509.out] at ho101 | (simp only [Int.reduceToNat] at ho101; rw [← Ny509.out] at ho101)); have HO511 := Aside0.mk (Kd.N_lower ho101 (below_size (by repeat (first | (with_reducible first | exact HB.out | apply below_alloc | apply pw_below_drewN | apply below_drew1 | refine below_set ?_ GE463.out | refine below_set ?_ GE464.out | refine below_set ?_ GE465.out | refine below_set ?_ GE484.out | refine below_set ?_ GE496.out | refine below_set ?_ GE508.out) | exact HB.out)))); replace HO_464000 := mbV_ HO_464000.out hb; replace HO_464002 := mbV_ HO_464002.out hb; replace HO_465001 := mbV_ HO_465001.out hb; replace HO_465002 := mbV_ HO_465002.out hb; replace HO_466001 := mbV_ HO_466001.out hb; replace HO_466002 := mbV_ HO_466002.out hb; replace HO475 := mbN_ HO475.out hb; replace HO478 := mbV_ HO478.out hb; replace HO482 := mbV_ HO482.out hb; replace HO487 := mbN_ HO487.out hb; replace HO490 := mbV_ HO490.out hb; replace HO494 := mbV_ HO494.out hb; replace HO499 := mbN_ HO499.out hb; replace HO502 := mbV_ HO502.out hb; replace HO506 := mbV_ HO506.out hb; replace BK463 := mvB_ BK463.out hb; replace BK464 := mvB_ BK464.out hb; replace BK465 := mvB_ BK465.out hb; replace BK484 := mvB_ BK484.out hb; replace BK496 := mvB_ BK496.out hb; replace BK508 := mvB_ BK508.out hb; replace HB := Aside0.mk (below_step (by repeat (first | (with_reducible first | exact HB.out | apply below_alloc | apply pw_below_drewN | apply below_drew1 | refine below_set ?_ GE463.out | refine below_set ?_ GE464.out | refine below_set ?_ GE465.out | refine below_set ?_ GE484.out | refine below_set ?_ GE496.out | refine below_set ?_ GE508.out) | exact HB.out)) hb); clear hb ho101; obtain ⟨Ao102, co102, eo102⟩ := Kd.N_slice HO511.out; subst eo102) | ((with_reducible refine gate_callee (f := 10) rfl ?_); refine gL_ (some 65) Try.func10 #[.agg #[.slice Ao74 t488.length co74, .int .i64 t491, .slice Ao80 t492.length co80], .int .i64 a1, .slice none 0 0, .slice Ao102 y509.length co102] ?_; (refine (store_Commit.calls kj5 (fun k_ => (((P0_0_ k_ ∨ P0_2_ k_ ∨ P2_1_ k_ ∨ P2_2_ k_ ∨ P3_1_ k_ ∨ P3_2_ k_) ∨ w.heap.size ≤ k_) ∧ (k_ ≠ gb463 ∧ (k_ ≠ gb464 ∧ (k_ ≠ gb465 ∧ (k_ ≠ gb484 ∧ (k_ ≠ gb496 ∧ k_ ≠ gb508))))))) _ _ t488 t491 (fun k_ => (((P0_0_ k_ ∨ P0_2_ k_ ∨ P2_1_ k_ ∨ P2_2_ k_ ∨ P3_1_ k_ ∨ P3_2_ k_) ∨ w.heap.size ≤ k_) ∧ (k_ ≠ gb463 ∧ (k_ ≠ gb464 ∧ (k_ ≠ gb465 ∧ (k_ ≠ gb484 ∧ (k_ ≠ gb496 ∧ k_ ≠ gb508))))))) _ _ t492 a1 _ _ ([] : List Int) _ _ y509 t512 t515 t516 t519 _ ?side1 ?side2 ?side3 ?side4 ?side5 ?side6 A48.out).mono ?_); (case side1 => (with_reducible repeat (first | apply Kd.V_alloc | apply Kd.V_drewN | apply Kd.V_drew)); first | with_reducible exact HO490.out | exact HO490.out | exact Kd.V_mono HO490.out (fun _ h_ => by simpa only [and_assoc, and_comm, and_left_comm] using h_)); (case side2 => (with_reducible repeat (first | apply Kd.V_alloc | apply Kd.V_drewN | apply Kd.V_drew)); first | with_reducible exact HO494.out | exact HO494.out | exact Kd.V_mono HO494.out (fun _ h_ => by simpa only [and_assoc, and_comm, and_left_comm] using h_)); (case side3 => exact Kd.C_nil _ _); (case side4 => exact Nat.le_refl _); (case side5 => exact mvC_ ((Kd.N_reads' HO511.out).2.2)); (case side6 => exact (Kd.N_reads' HO511.out).2.1); rintro e w103 ⟨v513, v517, rfl, ho0, ho1, hb⟩; refine ⟨_, rfl, ?_⟩; have HO514 := Aside0.mk (Kd.V_lower (Kd.V_mono (ok' := fun k_ => ((P0_0_ k_ ∨ P0_2_ k_ ∨ P2_1_ k_ ∨ P2_2_ k_ ∨ P3_1_ k_ ∨ P3_2_ k_) ∨ w.heap.size ≤ k_) ∧ k_ ≠ gb463 ∧ k_ ≠ gb464 ∧ k_ ≠ gb465 ∧ k_ ≠ gb484 ∧ k_ ≠ gb496 ∧ k_ ≠ gb508) ho0 (fun k_ hk_ => ⟨Or.elim hk_ (fun hs_ => Or.elim hs_ (fun hs_ => hs_.1) (fun hs_ => hs_.1)) (fun hn_ => (.inr (Nat.le_trans (below_size (by repeat (first | (with_reducible first | exact HB.out | apply below_alloc | apply pw_below_drewN | apply below_drew1 | refine below_set ?_ GE463.out | refine below_set ?_ GE464.out | refine below_set ?_ GE465.out | refine below_set ?_ GE484.out | refine below_set ?_ GE496.out | refine below_set ?_ GE508.out) | exact HB.out))) hn_))), Or.elim hk_ (fun hs_ => Or.elim hs_ (fun hs_ => hs_.2.1) (fun hs_ => hs_.2.1)) (fun hn_ => (mvF_ BK463.out hn_)), Or.elim hk_ (fun hs_ => Or.elim hs_ (fun hs_ => hs_.2.2.1) (fun hs_ => hs_.2.2.1)) (fun hn_ => (mvF_ BK464.out hn_)), Or.elim hk_ (fun hs_ => Or.elim hs_ (fun hs_ => hs_.2.2.2.1) (fun hs_ => hs_.2.2.2.1)) (fun hn_ => (mvF_ BK465.out hn_)), Or.elim hk_ (fun hs_ => Or.elim hs_ (fun hs_ => hs_.2.2.2.2.1) (fun hs_ => hs_.2.2.2.2.1)) (fun hn_ => (mvF_ BK484.out hn_)), Or.elim hk_ (fun hs_ => Or.elim hs_ (fun hs_ => hs_.2.2.2.2.2.1) (fun hs_ => hs_.2.2.2.2.2.1)) (fun hn_ => (mvF_ BK496.out hn_)), Or.elim hk_ (fun hs_ => Or.elim hs_ (fun hs_ => hs_.2.2.2.2.2.2) (fun hs_ => hs_.2.2.2.2.2.2)) (fun hn_ => (mvF_ BK508.out hn_))⟩)) (below_size (by repeat (first | (with_reducible first | exact HB.out | apply below_alloc | apply pw_below_drewN | apply below_drew1 | refine below_set ?_ GE463.out | refine below_set ?_ GE464.out | refine below_set ?_ GE465.out | refine below_set ?_ GE484.out | refine below_set ?_ GE496.out | refine below_set ?_ GE508.out) | exact HB.out)))); have HO518 := Aside0.mk (Kd.V_lower (Kd.V_mono (ok' := fun k_ => ((P0_0_ k_ ∨ P0_2_ k_ ∨ P2_1_ k_ ∨ P2_2_ k_ ∨ P3_1_ k_ ∨ P3_2_ k_) ∨ w.heap.size ≤ k_) ∧ k_ ≠ gb463 ∧ k_ ≠ gb464 ∧ k_ ≠ gb465 ∧ k_ ≠ gb484 ∧ k_ ≠ gb496 ∧ k_ ≠ gb508) ho1 (fun k_ hk_ => ⟨Or.elim hk_ (fun hs_ => Or.elim hs_ (fun hs_ => hs_.1) (fun hs_ => hs_.1)) (fun hn_ => (.inr (Nat.le_trans (below_size (by repeat (first | (with_reducible first | exact HB.out | apply below_alloc | apply pw_below_drewN | apply below_drew1 | refine below_set ?_ GE463.out | refine below_set ?_ GE464.out | refine below_set ?_ GE465.out | refine below_set ?_ GE484.out | refine below_set ?_ GE496.out | refine below_set ?_ GE508.out) | exact HB.out))) hn_))), Or.elim hk_ (fun hs_ => Or.elim hs_ (fun hs_ => hs_.2.1) (fun hs_ => hs_.2.1)) (fun hn_ => (mvF_ BK463.out hn_)), Or.elim hk_ (fun hs_ => Or.elim hs_ (fun hs_ => hs_.2.2.1) (fun hs_ => hs_.2.2.1)) (fun hn_ => (mvF_ BK464.out hn_)), Or.elim hk_ (fun hs_ => Or.elim hs_ (fun hs_ => hs_.2.2.2.1) (fun hs_ => hs_.2.2.2.1)) (fun hn_ => (mvF_ BK465.out hn_)), Or.elim hk_ (fun hs_ => Or.elim hs_ (fun hs_ => hs_.2.2.2.2.1) (fun hs_ => hs_.2.2.2.2.1)) (fun hn_ => (mvF_ BK484.out hn_)), Or.elim hk_ (fun hs_ => Or.elim hs_ (fun hs_ => hs_.2.2.2.2.2.1) (fun hs_ => hs_.2.2.2.2.2.1)) (fun hn_ => (mvF_ BK496.out hn_)), Or.elim hk_ (fun hs_ => Or.elim hs_ (fun hs_ => hs_.2.2.2.2.2.2) (fun hs_ => hs_.2.2.2.2.2.2)) (fun hn_ => (mvF_ BK508.out hn_))⟩)) (below_size (by repeat (first | (with_reducible first | exact HB.out | apply below_alloc | apply pw_below_drewN | apply below_drew1 | refine below_set ?_ GE463.out | refine below_set ?_ GE464.out | refine below_set ?_ GE465.out | refine below_set ?_ GE484.out | refine below_set ?_ GE496.out | refine below_set ?_ GE508.out) | exact HB.out)))); replace HO_464000 := mbV_ HO_464000.out hb; replace HO_464002 := mbV_ HO_464002.out hb; replace HO_465001 := mbV_ HO_465001.out hb; replace HO_465002 := mbV_ HO_465002.out hb; replace HO_466001 := mbV_ HO_466001.out hb; replace HO_466002 := mbV_ HO_466002.out hb; replace HO475 := mbN_ HO475.out hb; replace HO478 := mbV_ HO478.out hb; replace HO482 := mbV_ HO482.out hb; replace HO487 := mbN_ HO487.out hb; replace HO490 := mbV_ HO490.out hb; replace HO494 := mbV_ HO494.out hb; replace HO499 := mbN_ HO499.out hb; replace HO502 := mbV_ HO502.out hb; replace HO506 := mbV_ HO506.out hb; replace HO511 := mbN_ HO511.out hb; replace BK463 := mvB_ BK463.out hb; replace BK464 := mvB_ BK464.out hb; replace BK465 := mvB_ BK465.out hb; replace BK484 := mvB_ BK484.out hb; replace BK496 := mvB_ BK496.out hb; replace BK508 := mvB_ BK508.out hb; replace HB := Aside0.mk (below_step (by repeat (first | (with_reducible first | exact HB.out | apply below_alloc | apply pw_below_drewN | apply below_drew1 | refine below_set ?_ GE463.out | refine below_set ?_ GE464.out | refine below_set ?_ GE465.out | refine below_set ?_ GE484.out | refine below_set ?_ GE496.out | refine below_set ?_ GE508.out) | exact HB.out)) hb); (try clear hb); (try clear ho0); (try clear ho1)) | ((with_reducible refine gate_dst (N := 16) rfl ?_); (try (refine gate_guard (by rfl) ?_; dsimp only)); refine box_event ?hg (N := 16) ?hd (cs := #[.slice none 0 0, .int .i64 0, .slice none 0 0]) (t := 25) ?hr ?_; (case hd => rfl); (case hg => rfl); (case hr => first | (go_simp; done) | (go_simp; rfl)); intro gb520 hg w104 hbox hb; have BK520 := Aside0.mk (hbox); have GW520 := Aside0.mk ((by rw [hg]; exact (below_size (by repeat (first | (with_reducible first | exact HB.out | apply below_alloc | apply pw_below_drewN | apply below_drew1 | refine below_set ?_ GE463.out | refine below_set ?_ GE464.out | refine below_set ?_ GE465.out | refine below_set ?_ GE484.out | refine below_set ?_ GE496.out | refine below_set ?_ GE508.out) | exact HB.out))) : w.heap.size ≤ gb520)); have GE520 := Aside0.mk ((by rw [hg]; exact (below_size (by repeat (first | (with_reducible first | exact HB.out | apply below_alloc | apply pw_below_drewN | apply below_drew1 | refine below_set ?_ GE463.out | refine below_set ?_ GE464.out | refine below_set ?_ GE465.out | refine below_set ?_ GE484.out | refine below_set ?_ GE496.out | refine below_set ?_ GE508.out) | exact HB.out))) : w.heap.size ≤ gb520)); have NB463_520 := Aside0.mk ((by rw [hg]; exact Nat.ne_of_lt (blk_lt (g := gb463) (o := .cells #[.slice A0_0 l0_0.length c0_0, .int .i64 a0_1, .slice A0_2 l0_2.length c0_2] 25 (0, 0)) (mvK_ BK463.out)) : gb463 ≠ gb520)); have NB520_463 := Aside0.mk ((by rw [hg]; exact Nat.ne_of_gt (blk_lt (g := gb463) (o := .cells #[.slice A0_0 l0_0.length c0_0, .int .i64 a0_1, .slice A0_2 l0_2.length c0_2] 25 (0, 0)) (mvK_ BK463.out)) : gb520 ≠ gb463)); have NB464_520 := Aside0.mk ((by rw [hg]; exact Nat.ne_of_lt (blk_lt (g := gb464) (o := .cells #[.int .i64 a2_0, .slice A2_1 l2_1.length c2_1, .slice A2_2 l2_2.length c2_2] 42 (0, 0)) (mvK_ BK464.out)) : gb464 ≠ gb520)); have NB520_464 := Aside0.mk ((by rw [hg]; exact Nat.ne_of_gt (blk_lt (g := gb464) (o := .cells #[.int .i64 a2_0, .slice A2_1 l2_1.length c2_1, .slice A2_2 l2_2.length c2_2] 42 (0, 0)) (mvK_ BK464.out)) : gb520 ≠ gb464)); have NB465_520 := Aside0.mk ((by rw [hg]; exact Nat.ne_of_lt (blk_lt (g := gb465) (o := .cells #[.int .i64 a3_0, .slice A3_1 l3_1.length c3_1, .slice A3_2 l3_2.length c3_2] 42 (0, 0)) (mvK_ BK465.out)) : gb465 ≠ gb520)); have NB520_465 := Aside0.mk ((by rw [hg]; exact Nat.ne_of_gt (blk_lt (g := gb465) (o := .cells #[.int .i64 a3_0, .slice A3_1 l3_1.length c3_1, .slice A3_2 l3_2.length c3_2] 42 (0, 0)) (mvK_ BK465.out)) : gb520 ≠ gb465)); have NB484_520 := Aside0.mk ((by rw [hg]; exact Nat.ne_of_lt (blk_lt (g := gb484) (o := .cells #[.slice Ao60 t476.length co60, .int .i64 t479, .slice Ao65 t480.length co65] 25 (0, 0)) (mvK_ BK484.out)) : gb484 ≠ gb520)); have NB520_484 := Aside0.mk ((by rw [hg]; exact Nat.ne_of_gt (blk_lt (g := gb484) (o := .cells #[.slice Ao60 t476.length co60, .int .i64 t479, .slice Ao65 t480.length co65] 25 (0, 0)) (mvK_ BK484.out)) : gb520 ≠ gb484)); have NB496_520 := Aside0.mk ((by rw [hg]; exact Nat.ne_of_lt (blk_lt (g := gb496) (o := .cells #[.slice Ao74 t488.length co74, .int .i64 t491, .slice Ao80 t492.length co80] 25 (0, 0)) (mvK_ BK496.out)) : gb496 ≠ gb520)); have NB520_496 := Aside0.mk ((by rw [hg]; exact Nat.ne_of_gt (blk_lt (g := gb496) (o := .cells #[.slice Ao74 t488.length co74, .int .i64 t491, .slice Ao80 t492.length co80] 25 (0, 0)) (mvK_ BK496.out)) : gb520 ≠ gb496)); have NB508_520 := Aside0.mk ((by rw [hg]; exact Nat.ne_of_lt (blk_lt (g := gb508) (o := .cells #[.slice Ao89 t500.length co89, .int .i64 t503, .slice Ao96 t504.length co96] 25 (0, 0)) (mvK_ BK508.out)) : gb508 ≠ gb520)); have NB520_508 := Aside0.mk ((by rw [hg]; exact Nat.ne_of_gt (blk_lt (g := gb508) (o := .cells #[.slice Ao89 t500.length co89, .int .i64 t503, .slice Ao96 t504.length co96] 25 (0, 0)) (mvK_ BK508.out)) : gb520 ≠ gb508)); replace HO_464000 := Aside0.mk (Kd.V_below (Kd.V_elderB (mvV_ HO_464000.out) gb520 (Nat.le_of_eq hg.symm)) hb); replace HO_464002 := Aside0.mk (Kd.V_below (Kd.V_elderB (mvV_ HO_464002.out) gb520 (Nat.le_of_eq hg.symm)) hb); replace HO_465001 := Aside0.mk (Kd.V_below (Kd.V_elderB (mvV_ HO_465001.out) gb520 (Nat.le_of_eq hg.symm)) hb); replace HO_465002 := Aside0.mk (Kd.V_below (Kd.V_elderB (mvV_ HO_465002.out) gb520 (Nat.le_of_eq hg.symm)) hb); replace HO_466001 := Aside0.mk (Kd.V_below (Kd.V_elderB (mvV_ HO_466001.out) gb520 (Nat.le_of_eq hg.symm)) hb); replace HO_466002 := Aside0.mk (Kd.V_below (Kd.V_elderB (mvV_ HO_466002.out) gb520 (Nat.le_of_eq hg.symm)) hb); replace HO475 := Aside0.mk (Kd.N_below (Kd.N_elderB (mvN_ HO475.out) gb520 (Nat.le_of_eq hg.symm)) hb); replace HO478 := Aside0.mk (Kd.V_below (Kd.V_elderB (mvV_ HO478.out) gb520 (Nat.le_of_eq hg.symm)) hb); replace HO482 := Aside0.mk (Kd.V_below (Kd.V_elderB (mvV_ HO482.out) gb520 (Nat.le_of_eq hg.symm)) hb); replace HO487 := Aside0.mk (Kd.N_below (Kd.N_elderB (mvN_ HO487.out) gb520 (Nat.le_of_eq hg.symm)) hb); replace HO490 := Aside0.mk (Kd.V_below (Kd.V_elderB (mvV_ HO490.out) gb520 (Nat.le_of_eq hg.symm)) hb); replace HO494 := Aside0.mk (Kd.V_below (Kd.V_elderB (mvV_ HO494.out) gb520 (Nat.le_of_eq hg.symm)) hb); replace HO499 := Aside0.mk (Kd.N_below (Kd.N_elderB (mvN_ HO499.out) gb520 (Nat.le_of_eq hg.symm)) hb); replace HO502 := Aside0.mk (Kd.V_below (Kd.V_elderB (mvV_ HO502.out) gb520 (Nat.le_of_eq hg.symm)) hb); replace HO506 := Aside0.mk (Kd.V_below (Kd.V_elderB (mvV_ HO506.out) gb520 (Nat.le_of_eq hg.symm)) hb); replace HO511 := Aside0.mk (Kd.N_below (Kd.N_elderB (mvN_ HO511.out) gb520 (Nat.le_of_eq hg.symm)) hb); replace HO514 := Aside0.mk (Kd.V_below (Kd.V_elderB (mvV_ HO514.out) gb520 (Nat.le_of_eq hg.symm)) hb); replace HO518 := Aside0.mk (Kd.V_below (Kd.V_elderB (mvV_ HO518.out) gb520 (Nat.le_of_eq hg.symm)) hb); replace BK463 := mvB_ BK463.out hb; replace BK464 := mvB_ BK464.out hb; replace BK465 := mvB_ BK465.out hb; replace BK484 := mvB_ BK484.out hb; replace BK496 := mvB_ BK496.out hb; replace BK508 := mvB_ BK508.out hb; replace HB := Aside0.mk (below_step (by repeat (first | (with_reducible first | exact HB.out | apply below_alloc | apply pw_below_drewN | apply below_drew1 | refine below_set ?_ GE463.out | refine below_set ?_ GE464.out | refine below_set ?_ GE465.out | refine below_set ?_ GE484.out | refine below_set ?_ GE496.out | refine below_set ?_ GE508.out) | exact HB.out)) hb); clear hb hbox hg; obtain ⟨Ao105, co105, eo105⟩ := Kd.V_slice HO514.out; subst eo105; have hnb106 := NB520_463.out; have hnc106 := NB463_520.out; have hnb107 := NB520_464.out; have hnc107 := NB464_520.out; have hnb108 := NB520_465.out; have hnc108 := NB465_520.out; have hnb109 := NB520_484.out; have hnc109 := NB484_520.out; have hnb110 := NB520_496.out; have hnc110 := NB496_520.out; have hnb111 := NB520_508.out; have hnc111 := NB508_520.out; have hcz112_0 := cz0_ BK520.out; have hcz112_1 := cz1_ BK520.out; have hcz112_2 := cz2_ BK520.out; have hfz112_0 := blk_frozen BK520.out 0; have hfz112_1 := blk_frozen BK520.out 1; have hfz112_2 := blk_frozen BK520.out 2; obtain ⟨Ao113, co113, eo113⟩ := Kd.V_slice HO518.out; subst eo113))
    (try simp only [Act.put, sA_, sB_, sC_])
    go_cut [73] (fun v73 wc => ∃ (kq : Nat) (x73_48 : Bool), v73 = .bool x73_48 ∧ Aside0 (fullerlaw18_StoreApart.j1 kq t466 t483 t507 t519 x73_48 l0_0 a0_1 l0_2 a2_0 l2_1 l2_2 a3_0 l3_1 l3_2 t476 t479 t480 t500 t503 t504 t512 t515 t516 = some r) ∧ Aside0 (kq ≤ kj5) ∧ Aside0 (Kd.V (Kd.slice 74 k74) 54 wc w.heap.size (fun k_ => ((P0_0_ k_ ∨ P0_2_ k_ ∨ P2_1_ k_ ∨ P2_2_ k_ ∨ P3_1_ k_ ∨ P3_2_ k_) ∨ w.heap.size ≤ k_) ∧ k_ ≠ gb463 ∧ k_ ≠ gb464 ∧ k_ ≠ gb465 ∧ k_ ≠ gb484 ∧ k_ ≠ gb496 ∧ k_ ≠ gb508 ∧ k_ ≠ gb520) (.slice A0_0 l0_0.length c0_0) l0_0) ∧ Aside0 (Kd.V (Kd.int .i64) 3 wc w.heap.size (fun k_ => ((P0_0_ k_ ∨ P0_2_ k_ ∨ P2_1_ k_ ∨ P2_2_ k_ ∨ P3_1_ k_ ∨ P3_2_ k_) ∨ w.heap.size ≤ k_) ∧ k_ ≠ gb463 ∧ k_ ≠ gb464 ∧ k_ ≠ gb465 ∧ k_ ≠ gb484 ∧ k_ ≠ gb496 ∧ k_ ≠ gb508 ∧ k_ ≠ gb520) (.slice A0_2 l0_2.length c0_2) l0_2) ∧ Aside0 (Kd.V (Kd.int .i64) 3 wc w.heap.size (fun k_ => ((P0_0_ k_ ∨ P0_2_ k_ ∨ P2_1_ k_ ∨ P2_2_ k_ ∨ P3_1_ k_ ∨ P3_2_ k_) ∨ w.heap.size ≤ k_) ∧ k_ ≠ gb463 ∧ k_ ≠ gb464 ∧ k_ ≠ gb465 ∧ k_ ≠ gb484 ∧ k_ ≠ gb496 ∧ k_ ≠ gb508 ∧ k_ ≠ gb520) (.slice A2_1 l2_1.length c2_1) l2_1) ∧ Aside0 (Kd.V (Kd.int .i64) 3 wc w.heap.size (fun k_ => ((P0_0_ k_ ∨ P0_2_ k_ ∨ P2_1_ k_ ∨ P2_2_ k_ ∨ P3_1_ k_ ∨ P3_2_ k_) ∨ w.heap.size ≤ k_) ∧ k_ ≠ gb463 ∧ k_ ≠ gb464 ∧ k_ ≠ gb465 ∧ k_ ≠ gb484 ∧ k_ ≠ gb496 ∧ k_ ≠ gb508 ∧ k_ ≠ gb520) (.slice A2_2 l2_2.length c2_2) l2_2) ∧ Aside0 (Kd.V (Kd.int .i64) 3 wc w.heap.size (fun k_ => ((P0_0_ k_ ∨ P0_2_ k_ ∨ P2_1_ k_ ∨ P2_2_ k_ ∨ P3_1_ k_ ∨ P3_2_ k_) ∨ w.heap.size ≤ k_) ∧ k_ ≠ gb463 ∧ k_ ≠ gb464 ∧ k_ ≠ gb465 ∧ k_ ≠ gb484 ∧ k_ ≠ gb496 ∧ k_ ≠ gb508 ∧ k_ ≠ gb520) (.slice A3_1 l3_1.length c3_1) l3_1) ∧ Aside0 (Kd.V (Kd.int .i64) 3 wc w.heap.size (fun k_ => ((P0_0_ k_ ∨ P0_2_ k_ ∨ P2_1_ k_ ∨ P2_2_ k_ ∨ P3_1_ k_ ∨ P3_2_ k_) ∨ w.heap.size ≤ k_) ∧ k_ ≠ gb463 ∧ k_ ≠ gb464 ∧ k_ ≠ gb465 ∧ k_ ≠ gb484 ∧ k_ ≠ gb496 ∧ k_ ≠ gb508 ∧ k_ ≠ gb520) (.slice A3_2 l3_2.length c3_2) l3_2) ∧ Aside0 (Kd.V (Kd.slice 74 k74) 54 wc w.heap.size (fun k_ => ((P0_0_ k_ ∨ P0_2_ k_ ∨ P2_1_ k_ ∨ P2_2_ k_ ∨ P3_1_ k_ ∨ P3_2_ k_) ∨ w.heap.size ≤ k_) ∧ k_ ≠ gb463 ∧ k_ ≠ gb464 ∧ k_ ≠ gb465 ∧ k_ ≠ gb484 ∧ k_ ≠ gb496 ∧ k_ ≠ gb508 ∧ k_ ≠ gb520) (.slice Ao60 t476.length co60) t476) ∧ Aside0 (Kd.V (Kd.int .i64) 3 wc w.heap.size (fun k_ => ((P0_0_ k_ ∨ P0_2_ k_ ∨ P2_1_ k_ ∨ P2_2_ k_ ∨ P3_1_ k_ ∨ P3_2_ k_) ∨ w.heap.size ≤ k_) ∧ k_ ≠ gb463 ∧ k_ ≠ gb464 ∧ k_ ≠ gb465 ∧ k_ ≠ gb484 ∧ k_ ≠ gb496 ∧ k_ ≠ gb508 ∧ k_ ≠ gb520) (.slice Ao65 t480.length co65) t480) ∧ Aside0 (Kd.V (Kd.slice 74 k74) 54 wc w.heap.size (fun k_ => ((P0_0_ k_ ∨ P0_2_ k_ ∨ P2_1_ k_ ∨ P2_2_ k_ ∨ P3_1_ k_ ∨ P3_2_ k_) ∨ w.heap.size ≤ k_) ∧ k_ ≠ gb463 ∧ k_ ≠ gb464 ∧ k_ ≠ gb465 ∧ k_ ≠ gb484 ∧ k_ ≠ gb496 ∧ k_ ≠ gb508 ∧ k_ ≠ gb520) (.slice Ao74 t488.length co74) t488) ∧ Aside0 (Kd.V (Kd.int .i64) 3 wc w.heap.size (fun k_ => ((P0_0_ k_ ∨ P0_2_ k_ ∨ P2_1_ k_ ∨ P2_2_ k_ ∨ P3_1_ k_ ∨ P3_2_ k_) ∨ w.heap.size ≤ k_) ∧ k_ ≠ gb463 ∧ k_ ≠ gb464 ∧ k_ ≠ gb465 ∧ k_ ≠ gb484 ∧ k_ ≠ gb496 ∧ k_ ≠ gb508 ∧ k_ ≠ gb520) (.slice Ao80 t492.length co80) t492) ∧ Aside0 (Kd.V (Kd.slice 74 k74) 54 wc w.heap.size (fun k_ => ((P0_0_ k_ ∨ P0_2_ k_ ∨ P2_1_ k_ ∨ P2_2_ k_ ∨ P3_1_ k_ ∨ P3_2_ k_) ∨ w.heap.size ≤ k_) ∧ k_ ≠ gb463 ∧ k_ ≠ gb464 ∧ k_ ≠ gb465 ∧ k_ ≠ gb484 ∧ k_ ≠ gb496 ∧ k_ ≠ gb508 ∧ k_ ≠ gb520) (.slice Ao89 t500.length co89) t500) ∧ Aside0 (Kd.V (Kd.int .i64) 3 wc w.heap.size (fun k_ => ((P0_0_ k_ ∨ P0_2_ k_ ∨ P2_1_ k_ ∨ P2_2_ k_ ∨ P3_1_ k_ ∨ P3_2_ k_) ∨ w.heap.size ≤ k_) ∧ k_ ≠ gb463 ∧ k_ ≠ gb464 ∧ k_ ≠ gb465 ∧ k_ ≠ gb484 ∧ k_ ≠ gb496 ∧ k_ ≠ gb508 ∧ k_ ≠ gb520) (.slice Ao96 t504.length co96) t504) ∧ Aside0 (Kd.V (Kd.slice 74 k74) 54 wc w.heap.size (fun k_ => ((P0_0_ k_ ∨ P0_2_ k_ ∨ P2_1_ k_ ∨ P2_2_ k_ ∨ P3_1_ k_ ∨ P3_2_ k_) ∨ w.heap.size ≤ k_) ∧ k_ ≠ gb463 ∧ k_ ≠ gb464 ∧ k_ ≠ gb465 ∧ k_ ≠ gb484 ∧ k_ ≠ gb496 ∧ k_ ≠ gb508 ∧ k_ ≠ gb520) (.slice Ao105 t512.length co105) t512) ∧ Aside0 (Kd.V (Kd.int .i64) 3 wc w.heap.size (fun k_ => ((P0_0_ k_ ∨ P0_2_ k_ ∨ P2_1_ k_ ∨ P2_2_ k_ ∨ P3_1_ k_ ∨ P3_2_ k_) ∨ w.heap.size ≤ k_) ∧ k_ ≠ gb463 ∧ k_ ≠ gb464 ∧ k_ ≠ gb465 ∧ k_ ≠ gb484 ∧ k_ ≠ gb496 ∧ k_ ≠ gb508 ∧ k_ ≠ gb520) (.slice Ao113 t516.length co113) t516) ∧ Aside0 (wc.heap[gb463]? = some (.cells #[(.slice A0_0 l0_0.length c0_0), .int .i64 a0_1, (.slice A0_2 l0_2.length c0_2)] 25 (0, 0))) ∧ Aside0 (wc.heap[gb464]? = some (.cells #[.int .i64 a2_0, (.slice A2_1 l2_1.length c2_1), (.slice A2_2 l2_2.length c2_2)] 42 (0, 0))) ∧ Aside0 (wc.heap[gb465]? = some (.cells #[.int .i64 a3_0, (.slice A3_1 l3_1.length c3_1), (.slice A3_2 l3_2.length c3_2)] 42 (0, 0))) ∧ Aside0 (wc.heap[gb484]? = some (.cells #[(.slice Ao60 t476.length co60), .int .i64 t479, (.slice Ao65 t480.length co65)] 25 (0, 0))) ∧ Aside0 (wc.heap[gb496]? = some (.cells #[(.slice Ao74 t488.length co74), .int .i64 t491, (.slice Ao80 t492.length co80)] 25 (0, 0))) ∧ Aside0 (wc.heap[gb508]? = some (.cells #[(.slice Ao89 t500.length co89), .int .i64 t503, (.slice Ao96 t504.length co96)] 25 (0, 0))) ∧ Aside0 (wc.heap[gb520]? = some (.cells #[(.slice Ao105 t512.length co105), .int .i64 t515, (.slice Ao113 t516.length co113)] 25 (0, 0))) ∧ Aside0 (Below w.heap.size w wc))
    case first =>
     have H := HC49.out
     clear HC49
     by_cases c114 : t483 = 0
     ·rw [if_pos c114] at H
      obtain ⟨c114b0, c114b1⟩ := eqT_ c114
      clear c114
      (first | rw [c114b0] | (simp only [i64_w, i32_w]; rw [c114b0]) | rw [c114b1] | skip)
      have H' := Aside0.mk H
      clear H
      go_wp2
      go_meet
      case rel => exact ⟨_, ((t495 != 0)), (by first | rfl | (simp; done) | (simp [*]; done)), H', ⟨by have := HJ5.out; first | omega | exact Nat.le_refl _⟩, ⟨by (with_reducible repeat (first | apply Kd.V_alloc | apply Kd.V_drewN | apply Kd.V_drew)); exact Kd.V_mono (Kd.V_far (p := ⟨gb520, 2, none⟩) (Kd.V_far (p := ⟨gb520, 1, none⟩) (Kd.V_far (p := ⟨gb520, 0, none⟩) (Kd.V_mono HO_464000.out (fun k_ hk => (⟨hk, hk.2⟩ : _ ∧ k_ ≠ gb520))) (fun _ hk => hk.2) (.slice Ao105 t512.length co105)) (fun _ hk => hk.2) (.int .i64 t515)) (fun _ hk => hk.2) (.slice Ao113 t516.length co113)) (fun _ hk => ⟨hk.1.1.1, ⟨hk.1.1.2.1, ⟨hk.1.1.2.2.1, ⟨hk.1.1.2.2.2.1, ⟨hk.1.1.2.2.2.2.1, ⟨hk.1.1.2.2.2.2.2.1, ⟨hk.1.1.2.2.2.2.2.2, hk.1.2⟩⟩⟩⟩⟩⟩⟩)⟩, ⟨by (with_reducible repeat (first | apply Kd.V_alloc | apply Kd.V_drewN | apply Kd.V_drew)); exact Kd.V_mono (Kd.V_far (p := ⟨gb520, 2, none⟩) (Kd.V_far (p := ⟨gb520, 1, none⟩) (Kd.V_far (p := ⟨gb520, 0, none⟩) (Kd.V_mono HO_464002.out (fun k_ hk => (⟨hk, hk.2⟩ : _ ∧ k_ ≠ gb520))) (fun _ hk => hk.2) (.slice Ao105 t512.length co105)) (fun _ hk => hk.2) (.int .i64 t515)) (fun _ hk => hk.2) (.slice Ao113 t516.length co113)) (fun _ hk => ⟨hk.1.1.1, ⟨hk.1.1.2.1, ⟨hk.1.1.2.2.1, ⟨hk.1.1.2.2.2.1, ⟨hk.1.1.2.2.2.2.1, ⟨hk.1.1.2.2.2.2.2.1, ⟨hk.1.1.2.2.2.2.2.2, hk.1.2⟩⟩⟩⟩⟩⟩⟩)⟩, ⟨by (with_reducible repeat (first | apply Kd.V_alloc | apply Kd.V_drewN | apply Kd.V_drew)); exact Kd.V_mono (Kd.V_far (p := ⟨gb520, 2, none⟩) (Kd.V_far (p := ⟨gb520, 1, none⟩) (Kd.V_far (p := ⟨gb520, 0, none⟩) (Kd.V_mono HO_465001.out (fun k_ hk => (⟨hk, hk.2⟩ : _ ∧ k_ ≠ gb520))) (fun _ hk => hk.2) (.slice Ao105 t512.length co105)) (fun _ hk => hk.2) (.int .i64 t515)) (fun _ hk => hk.2) (.slice Ao113 t516.length co113)) (fun _ hk => ⟨hk.1.1.1, ⟨hk.1.1.2.1, ⟨hk.1.1.2.2.1, ⟨hk.1.1.2.2.2.1, ⟨hk.1.1.2.2.2.2.1, ⟨hk.1.1.2.2.2.2.2.1, ⟨hk.1.1.2.2.2.2.2.2, hk.1.2⟩⟩⟩⟩⟩⟩⟩)⟩, ⟨by (with_reducible repeat (first | apply Kd.V_alloc | apply Kd.V_drewN | apply Kd.V_drew)); exact Kd.V_mono (Kd.V_far (p := ⟨gb520, 2, none⟩) (Kd.V_far (p := ⟨gb520, 1, none⟩) (Kd.V_far (p := ⟨gb520, 0, none⟩) (Kd.V_mono HO_465002.out (fun k_ hk => (⟨hk, hk.2⟩ : _ ∧ k_ ≠ gb520))) (fun _ hk => hk.2) (.slice Ao105 t512.length co105)) (fun _ hk => hk.2) (.int .i64 t515)) (fun _ hk => hk.2) (.slice Ao113 t516.length co113)) (fun _ hk => ⟨hk.1.1.1, ⟨hk.1.1.2.1, ⟨hk.1.1.2.2.1, ⟨hk.1.1.2.2.2.1, ⟨hk.1.1.2.2.2.2.1, ⟨hk.1.1.2.2.2.2.2.1, ⟨hk.1.1.2.2.2.2.2.2, hk.1.2⟩⟩⟩⟩⟩⟩⟩)⟩, ⟨by (with_reducible repeat (first | apply Kd.V_alloc | apply Kd.V_drewN | apply Kd.V_drew)); exact Kd.V_mono (Kd.V_far (p := ⟨gb520, 2, none⟩) (Kd.V_far (p := ⟨gb520, 1, none⟩) (Kd.V_far (p := ⟨gb520, 0, none⟩) (Kd.V_mono HO_466001.out (fun k_ hk => (⟨hk, hk.2⟩ : _ ∧ k_ ≠ gb520))) (fun _ hk => hk.2) (.slice Ao105 t512.length co105)) (fun _ hk => hk.2) (.int .i64 t515)) (fun _ hk => hk.2) (.slice Ao113 t516.length co113)) (fun _ hk => ⟨hk.1.1.1, ⟨hk.1.1.2.1, ⟨hk.1.1.2.2.1, ⟨hk.1.1.2.2.2.1, ⟨hk.1.1.2.2.2.2.1, ⟨hk.1.1.2.2.2.2.2.1, ⟨hk.1.1.2.2.2.2.2.2, hk.1.2⟩⟩⟩⟩⟩⟩⟩)⟩, ⟨by (with_reducible repeat (first | apply Kd.V_alloc | apply Kd.V_drewN | apply Kd.V_drew)); exact Kd.V_mono (Kd.V_far (p := ⟨gb520, 2, none⟩) (Kd.V_far (p := ⟨gb520, 1, none⟩) (Kd.V_far (p := ⟨gb520, 0, none⟩) (Kd.V_mono HO_466002.out (fun k_ hk => (⟨hk, hk.2⟩ : _ ∧ k_ ≠ gb520))) (fun _ hk => hk.2) (.slice Ao105 t512.length co105)) (fun _ hk => hk.2) (.int .i64 t515)) (fun _ hk => hk.2) (.slice Ao113 t516.length co113)) (fun _ hk => ⟨hk.1.1.1, ⟨hk.1.1.2.1, ⟨hk.1.1.2.2.1, ⟨hk.1.1.2.2.2.1, ⟨hk.1.1.2.2.2.2.1, ⟨hk.1.1.2.2.2.2.2.1, ⟨hk.1.1.2.2.2.2.2.2, hk.1.2⟩⟩⟩⟩⟩⟩⟩)⟩, ⟨by (with_reducible repeat (first | apply Kd.V_alloc | apply Kd.V_drewN | apply Kd.V_drew)); exact Kd.V_mono (Kd.V_far (p := ⟨gb520, 2, none⟩) (Kd.V_far (p := ⟨gb520, 1, none⟩) (Kd.V_far (p := ⟨gb520, 0, none⟩) (Kd.V_mono HO478.out (fun k_ hk => (⟨hk, hk.2⟩ : _ ∧ k_ ≠ gb520))) (fun _ hk => hk.2) (.slice Ao105 t512.length co105)) (fun _ hk => hk.2) (.int .i64 t515)) (fun _ hk => hk.2) (.slice Ao113 t516.length co113)) (fun _ hk => ⟨hk.1.1.1, ⟨hk.1.1.2.1, ⟨hk.1.1.2.2.1, ⟨hk.1.1.2.2.2.1, ⟨hk.1.1.2.2.2.2.1, ⟨hk.1.1.2.2.2.2.2.1, ⟨hk.1.1.2.2.2.2.2.2, hk.1.2⟩⟩⟩⟩⟩⟩⟩)⟩, ⟨by (with_reducible repeat (first | apply Kd.V_alloc | apply Kd.V_drewN | apply Kd.V_drew)); exact Kd.V_mono (Kd.V_far (p := ⟨gb520, 2, none⟩) (Kd.V_far (p := ⟨gb520, 1, none⟩) (Kd.V_far (p := ⟨gb520, 0, none⟩) (Kd.V_mono HO482.out (fun k_ hk => (⟨hk, hk.2⟩ : _ ∧ k_ ≠ gb520))) (fun _ hk => hk.2) (.slice Ao105 t512.length co105)) (fun _ hk => hk.2) (.int .i64 t515)) (fun _ hk => hk.2) (.slice Ao113 t516.length co113)) (fun _ hk => ⟨hk.1.1.1, ⟨hk.1.1.2.1, ⟨hk.1.1.2.2.1, ⟨hk.1.1.2.2.2.1, ⟨hk.1.1.2.2.2.2.1, ⟨hk.1.1.2.2.2.2.2.1, ⟨hk.1.1.2.2.2.2.2.2, hk.1.2⟩⟩⟩⟩⟩⟩⟩)⟩, ⟨by (with_reducible repeat (first | apply Kd.V_alloc | apply Kd.V_drewN | apply Kd.V_drew)); exact Kd.V_mono (Kd.V_far (p := ⟨gb520, 2, none⟩) (Kd.V_far (p := ⟨gb520, 1, none⟩) (Kd.V_far (p := ⟨gb520, 0, none⟩) (Kd.V_mono HO490.out (fun k_ hk => (⟨hk, hk.2⟩ : _ ∧ k_ ≠ gb520))) (fun _ hk => hk.2) (.slice Ao105 t512.length co105)) (fun _ hk => hk.2) (.int .i64 t515)) (fun _ hk => hk.2) (.slice Ao113 t516.length co113)) (fun _ hk => ⟨hk.1.1.1, ⟨hk.1.1.2.1, ⟨hk.1.1.2.2.1, ⟨hk.1.1.2.2.2.1, ⟨hk.1.1.2.2.2.2.1, ⟨hk.1.1.2.2.2.2.2.1, ⟨hk.1.1.2.2.2.2.2.2, hk.1.2⟩⟩⟩⟩⟩⟩⟩)⟩, ⟨by (with_reducible repeat (first | apply Kd.V_alloc | apply Kd.V_drewN | apply Kd.V_drew)); exact Kd.V_mono (Kd.V_far (p := ⟨gb520, 2, none⟩) (Kd.V_far (p := ⟨gb520, 1, none⟩) (Kd.V_far (p := ⟨gb520, 0, none⟩) (Kd.V_mono HO494.out (fun k_ hk => (⟨hk, hk.2⟩ : _ ∧ k_ ≠ gb520))) (fun _ hk => hk.2) (.slice Ao105 t512.length co105)) (fun _ hk => hk.2) (.int .i64 t515)) (fun _ hk => hk.2) (.slice Ao113 t516.length co113)) (fun _ hk => ⟨hk.1.1.1, ⟨hk.1.1.2.1, ⟨hk.1.1.2.2.1, ⟨hk.1.1.2.2.2.1, ⟨hk.1.1.2.2.2.2.1, ⟨hk.1.1.2.2.2.2.2.1, ⟨hk.1.1.2.2.2.2.2.2, hk.1.2⟩⟩⟩⟩⟩⟩⟩)⟩, ⟨by (with_reducible repeat (first | apply Kd.V_alloc | apply Kd.V_drewN | apply Kd.V_drew)); exact Kd.V_mono (Kd.V_far (p := ⟨gb520, 2, none⟩) (Kd.V_far (p := ⟨gb520, 1, none⟩) (Kd.V_far (p := ⟨gb520, 0, none⟩) (Kd.V_mono HO502.out (fun k_ hk => (⟨hk, hk.2⟩ : _ ∧ k_ ≠ gb520))) (fun _ hk => hk.2) (.slice Ao105 t512.length co105)) (fun _ hk => hk.2) (.int .i64 t515)) (fun _ hk => hk.2) (.slice Ao113 t516.length co113)) (fun _ hk => ⟨hk.1.1.1, ⟨hk.1.1.2.1, ⟨hk.1.1.2.2.1, ⟨hk.1.1.2.2.2.1, ⟨hk.1.1.2.2.2.2.1, ⟨hk.1.1.2.2.2.2.2.1, ⟨hk.1.1.2.2.2.2.2.2, hk.1.2⟩⟩⟩⟩⟩⟩⟩)⟩, ⟨by (with_reducible repeat (first | apply Kd.V_alloc | apply Kd.V_drewN | apply Kd.V_drew)); exact Kd.V_mono (Kd.V_far (p := ⟨gb520, 2, none⟩) (Kd.V_far (p := ⟨gb520, 1, none⟩) (Kd.V_far (p := ⟨gb520, 0, none⟩) (Kd.V_mono HO506.out (fun k_ hk => (⟨hk, hk.2⟩ : _ ∧ k_ ≠ gb520))) (fun _ hk => hk.2) (.slice Ao105 t512.length co105)) (fun _ hk => hk.2) (.int .i64 t515)) (fun _ hk => hk.2) (.slice Ao113 t516.length co113)) (fun _ hk => ⟨hk.1.1.1, ⟨hk.1.1.2.1, ⟨hk.1.1.2.2.1, ⟨hk.1.1.2.2.2.1, ⟨hk.1.1.2.2.2.2.1, ⟨hk.1.1.2.2.2.2.2.1, ⟨hk.1.1.2.2.2.2.2.2, hk.1.2⟩⟩⟩⟩⟩⟩⟩)⟩, ⟨by (with_reducible repeat (first | apply Kd.V_alloc | apply Kd.V_drewN | apply Kd.V_drew)); exact Kd.V_mono (Kd.V_far (p := ⟨gb520, 2, none⟩) (Kd.V_far (p := ⟨gb520, 1, none⟩) (Kd.V_far (p := ⟨gb520, 0, none⟩) (Kd.V_mono HO514.out (fun k_ hk => (⟨hk, hk.2⟩ : _ ∧ k_ ≠ gb520))) (fun _ hk => hk.2) (.slice Ao105 t512.length co105)) (fun _ hk => hk.2) (.int .i64 t515)) (fun _ hk => hk.2) (.slice Ao113 t516.length co113)) (fun _ hk => ⟨hk.1.1.1, ⟨hk.1.1.2.1, ⟨hk.1.1.2.2.1, ⟨hk.1.1.2.2.2.1, ⟨hk.1.1.2.2.2.2.1, ⟨hk.1.1.2.2.2.2.2.1, ⟨hk.1.1.2.2.2.2.2.2, hk.1.2⟩⟩⟩⟩⟩⟩⟩)⟩, ⟨by (with_reducible repeat (first | apply Kd.V_alloc | apply Kd.V_drewN | apply Kd.V_drew)); exact Kd.V_mono (Kd.V_far (p := ⟨gb520, 2, none⟩) (Kd.V_far (p := ⟨gb520, 1, none⟩) (Kd.V_far (p := ⟨gb520, 0, none⟩) (Kd.V_mono HO518.out (fun k_ hk => (⟨hk, hk.2⟩ : _ ∧ k_ ≠ gb520))) (fun _ hk => hk.2) (.slice Ao105 t512.length co105)) (fun _ hk => hk.2) (.int .i64 t515)) (fun _ hk => hk.2) (.slice Ao113 t516.length co113)) (fun _ hk => ⟨hk.1.1.1, ⟨hk.1.1.2.1, ⟨hk.1.1.2.2.1, ⟨hk.1.1.2.2.2.1, ⟨hk.1.1.2.2.2.2.1, ⟨hk.1.1.2.2.2.2.2.1, ⟨hk.1.1.2.2.2.2.2.2, hk.1.2⟩⟩⟩⟩⟩⟩⟩)⟩, ⟨by (with_reducible repeat (first | refine blk_drewN ?_ _ | refine blk_drew ?_ | refine blk_alloc ?_ _)); refine blk_far ?_ NB463_520.out _; (with_reducible repeat (first | refine blk_drewN ?_ _ | refine blk_drew ?_ | refine blk_alloc ?_ _)); refine blk_far ?_ NB463_520.out _; (with_reducible repeat (first | refine blk_drewN ?_ _ | refine blk_drew ?_ | refine blk_alloc ?_ _)); refine blk_far ?_ NB463_520.out _; (with_reducible repeat (first | refine blk_drewN ?_ _ | refine blk_drew ?_ | refine blk_alloc ?_ _)); exact BK463.out⟩, ⟨by (with_reducible repeat (first | refine blk_drewN ?_ _ | refine blk_drew ?_ | refine blk_alloc ?_ _)); refine blk_far ?_ NB464_520.out _; (with_reducible repeat (first | refine blk_drewN ?_ _ | refine blk_drew ?_ | refine blk_alloc ?_ _)); refine blk_far ?_ NB464_520.out _; (with_reducible repeat (first | refine blk_drewN ?_ _ | refine blk_drew ?_ | refine blk_alloc ?_ _)); refine blk_far ?_ NB464_520.out _; (with_reducible repeat (first | refine blk_drewN ?_ _ | refine blk_drew ?_ | refine blk_alloc ?_ _)); exact BK464.out⟩, ⟨by (with_reducible repeat (first | refine blk_drewN ?_ _ | refine blk_drew ?_ | refine blk_alloc ?_ _)); refine blk_far ?_ NB465_520.out _; (with_reducible repeat (first | refine blk_drewN ?_ _ | refine blk_drew ?_ | refine blk_alloc ?_ _)); refine blk_far ?_ NB465_520.out _; (with_reducible repeat (first | refine blk_drewN ?_ _ | refine blk_drew ?_ | refine blk_alloc ?_ _)); refine blk_far ?_ NB465_520.out _; (with_reducible repeat (first | refine blk_drewN ?_ _ | refine blk_drew ?_ | refine blk_alloc ?_ _)); exact BK465.out⟩, ⟨by (with_reducible repeat (first | refine blk_drewN ?_ _ | refine blk_drew ?_ | refine blk_alloc ?_ _)); refine blk_far ?_ NB484_520.out _; (with_reducible repeat (first | refine blk_drewN ?_ _ | refine blk_drew ?_ | refine blk_alloc ?_ _)); refine blk_far ?_ NB484_520.out _; (with_reducible repeat (first | refine blk_drewN ?_ _ | refine blk_drew ?_ | refine blk_alloc ?_ _)); refine blk_far ?_ NB484_520.out _; (with_reducible repeat (first | refine blk_drewN ?_ _ | refine blk_drew ?_ | refine blk_alloc ?_ _)); exact BK484.out⟩, ⟨by (with_reducible repeat (first | refine blk_drewN ?_ _ | refine blk_drew ?_ | refine blk_alloc ?_ _)); refine blk_far ?_ NB496_520.out _; (with_reducible repeat (first | refine blk_drewN ?_ _ | refine blk_drew ?_ | refine blk_alloc ?_ _)); refine blk_far ?_ NB496_520.out _; (with_reducible repeat (first | refine blk_drewN ?_ _ | refine blk_drew ?_ | refine blk_alloc ?_ _)); refine blk_far ?_ NB496_520.out _; (with_reducible repeat (first | refine blk_drewN ?_ _ | refine blk_drew ?_ | refine blk_alloc ?_ _)); exact BK496.out⟩, ⟨by (with_reducible repeat (first | refine blk_drewN ?_ _ | refine blk_drew ?_ | refine blk_alloc ?_ _)); refine blk_far ?_ NB508_520.out _; (with_reducible repeat (first | refine blk_drewN ?_ _ | refine blk_drew ?_ | refine blk_alloc ?_ _)); refine blk_far ?_ NB508_520.out _; (with_reducible repeat (first | refine blk_drewN ?_ _ | refine blk_drew ?_ | refine blk_alloc ?_ _)); refine blk_far ?_ NB508_520.out _; (with_reducible repeat (first | refine blk_drewN ?_ _ | refine blk_drew ?_ | refine blk_alloc ?_ _)); exact BK508.out⟩, ⟨by (with_reducible repeat (first | refine blk_drewN ?_ _ | refine blk_drew ?_ | refine blk_alloc ?_ _)); refine blk_put (cs := #[.slice Ao105 t512.length co105, .int .i64 t515, .slice none 0 0]) ?_ 2 _ rfl; (with_reducible repeat (first | refine blk_drewN ?_ _ | refine blk_drew ?_ | refine blk_alloc ?_ _)); refine blk_put (cs := #[.slice Ao105 t512.length co105, .int .i64 0, .slice none 0 0]) ?_ 1 _ rfl; (with_reducible repeat (first | refine blk_drewN ?_ _ | refine blk_drew ?_ | refine blk_alloc ?_ _)); refine blk_put (cs := #[.slice none 0 0, .int .i64 0, .slice none 0 0]) ?_ 0 _ rfl; (with_reducible repeat (first | refine blk_drewN ?_ _ | refine blk_drew ?_ | refine blk_alloc ?_ _)); exact BK520.out⟩, ⟨by repeat (first | (with_reducible first | exact HB.out | apply below_alloc | apply pw_below_drewN | apply below_drew1 | refine below_set ?_ GE463.out | refine below_set ?_ GE464.out | refine below_set ?_ GE465.out | refine below_set ?_ GE484.out | refine below_set ?_ GE496.out | refine below_set ?_ GE508.out | refine below_set ?_ GE520.out) | exact HB.out)⟩⟩
     ·rw [if_neg c114] at H
      have c114b0 : (t483 == 0) = false := beq_eq_false_iff_ne.mpr c114
      have c114b1 : (t483 != 0) = true := bne_iff_ne.mpr c114
      (first | rw [c114b0] | (simp only [i64_w, i32_w]; rw [c114b0]) | rw [c114b1] | skip)
      have H' := Aside0.mk H
      clear H
      go_wp2
      go_meet
      case rel => exact ⟨_, (true), (by first | rfl | (simp; done) | (simp [*]; done)), H', ⟨by have := HJ5.out; first | omega | exact Nat.le_refl _⟩, ⟨by (with_reducible repeat (first | apply Kd.V_alloc | apply Kd.V_drewN | apply Kd.V_drew)); exact Kd.V_mono (Kd.V_far (p := ⟨gb520, 2, none⟩) (Kd.V_far (p := ⟨gb520, 1, none⟩) (Kd.V_far (p := ⟨gb520, 0, none⟩) (Kd.V_mono HO_464000.out (fun k_ hk => (⟨hk, hk.2⟩ : _ ∧ k_ ≠ gb520))) (fun _ hk => hk.2) (.slice Ao105 t512.length co105)) (fun _ hk => hk.2) (.int .i64 t515)) (fun _ hk => hk.2) (.slice Ao113 t516.length co113)) (fun _ hk => ⟨hk.1.1.1, ⟨hk.1.1.2.1, ⟨hk.1.1.2.2.1, ⟨hk.1.1.2.2.2.1, ⟨hk.1.1.2.2.2.2.1, ⟨hk.1.1.2.2.2.2.2.1, ⟨hk.1.1.2.2.2.2.2.2, hk.1.2⟩⟩⟩⟩⟩⟩⟩)⟩, ⟨by (with_reducible repeat (first | apply Kd.V_alloc | apply Kd.V_drewN | apply Kd.V_drew)); exact Kd.V_mono (Kd.V_far (p := ⟨gb520, 2, none⟩) (Kd.V_far (p := ⟨gb520, 1, none⟩) (Kd.V_far (p := ⟨gb520, 0, none⟩) (Kd.V_mono HO_464002.out (fun k_ hk => (⟨hk, hk.2⟩ : _ ∧ k_ ≠ gb520))) (fun _ hk => hk.2) (.slice Ao105 t512.length co105)) (fun _ hk => hk.2) (.int .i64 t515)) (fun _ hk => hk.2) (.slice Ao113 t516.length co113)) (fun _ hk => ⟨hk.1.1.1, ⟨hk.1.1.2.1, ⟨hk.1.1.2.2.1, ⟨hk.1.1.2.2.2.1, ⟨hk.1.1.2.2.2.2.1, ⟨hk.1.1.2.2.2.2.2.1, ⟨hk.1.1.2.2.2.2.2.2, hk.1.2⟩⟩⟩⟩⟩⟩⟩)⟩, ⟨by (with_reducible repeat (first | apply Kd.V_alloc | apply Kd.V_drewN | apply Kd.V_drew)); exact Kd.V_mono (Kd.V_far (p := ⟨gb520, 2, none⟩) (Kd.V_far (p := ⟨gb520, 1, none⟩) (Kd.V_far (p := ⟨gb520, 0, none⟩) (Kd.V_mono HO_465001.out (fun k_ hk => (⟨hk, hk.2⟩ : _ ∧ k_ ≠ gb520))) (fun _ hk => hk.2) (.slice Ao105 t512.length co105)) (fun _ hk => hk.2) (.int .i64 t515)) (fun _ hk => hk.2) (.slice Ao113 t516.length co113)) (fun _ hk => ⟨hk.1.1.1, ⟨hk.1.1.2.1, ⟨hk.1.1.2.2.1, ⟨hk.1.1.2.2.2.1, ⟨hk.1.1.2.2.2.2.1, ⟨hk.1.1.2.2.2.2.2.1, ⟨hk.1.1.2.2.2.2.2.2, hk.1.2⟩⟩⟩⟩⟩⟩⟩)⟩, ⟨by (with_reducible repeat (first | apply Kd.V_alloc | apply Kd.V_drewN | apply Kd.V_drew)); exact Kd.V_mono (Kd.V_far (p := ⟨gb520, 2, none⟩) (Kd.V_far (p := ⟨gb520, 1, none⟩) (Kd.V_far (p := ⟨gb520, 0, none⟩) (Kd.V_mono HO_465002.out (fun k_ hk => (⟨hk, hk.2⟩ : _ ∧ k_ ≠ gb520))) (fun _ hk => hk.2) (.slice Ao105 t512.length co105)) (fun _ hk => hk.2) (.int .i64 t515)) (fun _ hk => hk.2) (.slice Ao113 t516.length co113)) (fun _ hk => ⟨hk.1.1.1, ⟨hk.1.1.2.1, ⟨hk.1.1.2.2.1, ⟨hk.1.1.2.2.2.1, ⟨hk.1.1.2.2.2.2.1, ⟨hk.1.1.2.2.2.2.2.1, ⟨hk.1.1.2.2.2.2.2.2, hk.1.2⟩⟩⟩⟩⟩⟩⟩)⟩, ⟨by (with_reducible repeat (first | apply Kd.V_alloc | apply Kd.V_drewN | apply Kd.V_drew)); exact Kd.V_mono (Kd.V_far (p := ⟨gb520, 2, none⟩) (Kd.V_far (p := ⟨gb520, 1, none⟩) (Kd.V_far (p := ⟨gb520, 0, none⟩) (Kd.V_mono HO_466001.out (fun k_ hk => (⟨hk, hk.2⟩ : _ ∧ k_ ≠ gb520))) (fun _ hk => hk.2) (.slice Ao105 t512.length co105)) (fun _ hk => hk.2) (.int .i64 t515)) (fun _ hk => hk.2) (.slice Ao113 t516.length co113)) (fun _ hk => ⟨hk.1.1.1, ⟨hk.1.1.2.1, ⟨hk.1.1.2.2.1, ⟨hk.1.1.2.2.2.1, ⟨hk.1.1.2.2.2.2.1, ⟨hk.1.1.2.2.2.2.2.1, ⟨hk.1.1.2.2.2.2.2.2, hk.1.2⟩⟩⟩⟩⟩⟩⟩)⟩, ⟨by (with_reducible repeat (first | apply Kd.V_alloc | apply Kd.V_drewN | apply Kd.V_drew)); exact Kd.V_mono (Kd.V_far (p := ⟨gb520, 2, none⟩) (Kd.V_far (p := ⟨gb520, 1, none⟩) (Kd.V_far (p := ⟨gb520, 0, none⟩) (Kd.V_mono HO_466002.out (fun k_ hk => (⟨hk, hk.2⟩ : _ ∧ k_ ≠ gb520))) (fun _ hk => hk.2) (.slice Ao105 t512.length co105)) (fun _ hk => hk.2) (.int .i64 t515)) (fun _ hk => hk.2) (.slice Ao113 t516.length co113)) (fun _ hk => ⟨hk.1.1.1, ⟨hk.1.1.2.1, ⟨hk.1.1.2.2.1, ⟨hk.1.1.2.2.2.1, ⟨hk.1.1.2.2.2.2.1, ⟨hk.1.1.2.2.2.2.2.1, ⟨hk.1.1.2.2.2.2.2.2, hk.1.2⟩⟩⟩⟩⟩⟩⟩)⟩, ⟨by (with_reducible repeat (first | apply Kd.V_alloc | apply Kd.V_drewN | apply Kd.V_drew)); exact Kd.V_mono (Kd.V_far (p := ⟨gb520, 2, none⟩) (Kd.V_far (p := ⟨gb520, 1, none⟩) (Kd.V_far (p := ⟨gb520, 0, none⟩) (Kd.V_mono HO478.out (fun k_ hk => (⟨hk, hk.2⟩ : _ ∧ k_ ≠ gb520))) (fun _ hk => hk.2) (.slice Ao105 t512.length co105)) (fun _ hk => hk.2) (.int .i64 t515)) (fun _ hk => hk.2) (.slice Ao113 t516.length co113)) (fun _ hk => ⟨hk.1.1.1, ⟨hk.1.1.2.1, ⟨hk.1.1.2.2.1, ⟨hk.1.1.2.2.2.1, ⟨hk.1.1.2.2.2.2.1, ⟨hk.1.1.2.2.2.2.2.1, ⟨hk.1.1.2.2.2.2.2.2, hk.1.2⟩⟩⟩⟩⟩⟩⟩)⟩, ⟨by (with_reducible repeat (first | apply Kd.V_alloc | apply Kd.V_drewN | apply Kd.V_drew)); exact Kd.V_mono (Kd.V_far (p := ⟨gb520, 2, none⟩) (Kd.V_far (p := ⟨gb520, 1, none⟩) (Kd.V_far (p := ⟨gb520, 0, none⟩) (Kd.V_mono HO482.out (fun k_ hk => (⟨hk, hk.2⟩ : _ ∧ k_ ≠ gb520))) (fun _ hk => hk.2) (.slice Ao105 t512.length co105)) (fun _ hk => hk.2) (.int .i64 t515)) (fun _ hk => hk.2) (.slice Ao113 t516.length co113)) (fun _ hk => ⟨hk.1.1.1, ⟨hk.1.1.2.1, ⟨hk.1.1.2.2.1, ⟨hk.1.1.2.2.2.1, ⟨hk.1.1.2.2.2.2.1, ⟨hk.1.1.2.2.2.2.2.1, ⟨hk.1.1.2.2.2.2.2.2, hk.1.2⟩⟩⟩⟩⟩⟩⟩)⟩, ⟨by (with_reducible repeat (first | apply Kd.V_alloc | apply Kd.V_drewN | apply Kd.V_drew)); exact Kd.V_mono (Kd.V_far (p := ⟨gb520, 2, none⟩) (Kd.V_far (p := ⟨gb520, 1, none⟩) (Kd.V_far (p := ⟨gb520, 0, none⟩) (Kd.V_mono HO490.out (fun k_ hk => (⟨hk, hk.2⟩ : _ ∧ k_ ≠ gb520))) (fun _ hk => hk.2) (.slice Ao105 t512.length co105)) (fun _ hk => hk.2) (.int .i64 t515)) (fun _ hk => hk.2) (.slice Ao113 t516.length co113)) (fun _ hk => ⟨hk.1.1.1, ⟨hk.1.1.2.1, ⟨hk.1.1.2.2.1, ⟨hk.1.1.2.2.2.1, ⟨hk.1.1.2.2.2.2.1, ⟨hk.1.1.2.2.2.2.2.1, ⟨hk.1.1.2.2.2.2.2.2, hk.1.2⟩⟩⟩⟩⟩⟩⟩)⟩, ⟨by (with_reducible repeat (first | apply Kd.V_alloc | apply Kd.V_drewN | apply Kd.V_drew)); exact Kd.V_mono (Kd.V_far (p := ⟨gb520, 2, none⟩) (Kd.V_far (p := ⟨gb520, 1, none⟩) (Kd.V_far (p := ⟨gb520, 0, none⟩) (Kd.V_mono HO494.out (fun k_ hk => (⟨hk, hk.2⟩ : _ ∧ k_ ≠ gb520))) (fun _ hk => hk.2) (.slice Ao105 t512.length co105)) (fun _ hk => hk.2) (.int .i64 t515)) (fun _ hk => hk.2) (.slice Ao113 t516.length co113)) (fun _ hk => ⟨hk.1.1.1, ⟨hk.1.1.2.1, ⟨hk.1.1.2.2.1, ⟨hk.1.1.2.2.2.1, ⟨hk.1.1.2.2.2.2.1, ⟨hk.1.1.2.2.2.2.2.1, ⟨hk.1.1.2.2.2.2.2.2, hk.1.2⟩⟩⟩⟩⟩⟩⟩)⟩, ⟨by (with_reducible repeat (first | apply Kd.V_alloc | apply Kd.V_drewN | apply Kd.V_drew)); exact Kd.V_mono (Kd.V_far (p := ⟨gb520, 2, none⟩) (Kd.V_far (p := ⟨gb520, 1, none⟩) (Kd.V_far (p := ⟨gb520, 0, none⟩) (Kd.V_mono HO502.out (fun k_ hk => (⟨hk, hk.2⟩ : _ ∧ k_ ≠ gb520))) (fun _ hk => hk.2) (.slice Ao105 t512.length co105)) (fun _ hk => hk.2) (.int .i64 t515)) (fun _ hk => hk.2) (.slice Ao113 t516.length co113)) (fun _ hk => ⟨hk.1.1.1, ⟨hk.1.1.2.1, ⟨hk.1.1.2.2.1, ⟨hk.1.1.2.2.2.1, ⟨hk.1.1.2.2.2.2.1, ⟨hk.1.1.2.2.2.2.2.1, ⟨hk.1.1.2.2.2.2.2.2, hk.1.2⟩⟩⟩⟩⟩⟩⟩)⟩, ⟨by (with_reducible repeat (first | apply Kd.V_alloc | apply Kd.V_drewN | apply Kd.V_drew)); exact Kd.V_mono (Kd.V_far (p := ⟨gb520, 2, none⟩) (Kd.V_far (p := ⟨gb520, 1, none⟩) (Kd.V_far (p := ⟨gb520, 0, none⟩) (Kd.V_mono HO506.out (fun k_ hk => (⟨hk, hk.2⟩ : _ ∧ k_ ≠ gb520))) (fun _ hk => hk.2) (.slice Ao105 t512.length co105)) (fun _ hk => hk.2) (.int .i64 t515)) (fun _ hk => hk.2) (.slice Ao113 t516.length co113)) (fun _ hk => ⟨hk.1.1.1, ⟨hk.1.1.2.1, ⟨hk.1.1.2.2.1, ⟨hk.1.1.2.2.2.1, ⟨hk.1.1.2.2.2.2.1, ⟨hk.1.1.2.2.2.2.2.1, ⟨hk.1.1.2.2.2.2.2.2, hk.1.2⟩⟩⟩⟩⟩⟩⟩)⟩, ⟨by (with_reducible repeat (first | apply Kd.V_alloc | apply Kd.V_drewN | apply Kd.V_drew)); exact Kd.V_mono (Kd.V_far (p := ⟨gb520, 2, none⟩) (Kd.V_far (p := ⟨gb520, 1, none⟩) (Kd.V_far (p := ⟨gb520, 0, none⟩) (Kd.V_mono HO514.out (fun k_ hk => (⟨hk, hk.2⟩ : _ ∧ k_ ≠ gb520))) (fun _ hk => hk.2) (.slice Ao105 t512.length co105)) (fun _ hk => hk.2) (.int .i64 t515)) (fun _ hk => hk.2) (.slice Ao113 t516.length co113)) (fun _ hk => ⟨hk.1.1.1, ⟨hk.1.1.2.1, ⟨hk.1.1.2.2.1, ⟨hk.1.1.2.2.2.1, ⟨hk.1.1.2.2.2.2.1, ⟨hk.1.1.2.2.2.2.2.1, ⟨hk.1.1.2.2.2.2.2.2, hk.1.2⟩⟩⟩⟩⟩⟩⟩)⟩, ⟨by (with_reducible repeat (first | apply Kd.V_alloc | apply Kd.V_drewN | apply Kd.V_drew)); exact Kd.V_mono (Kd.V_far (p := ⟨gb520, 2, none⟩) (Kd.V_far (p := ⟨gb520, 1, none⟩) (Kd.V_far (p := ⟨gb520, 0, none⟩) (Kd.V_mono HO518.out (fun k_ hk => (⟨hk, hk.2⟩ : _ ∧ k_ ≠ gb520))) (fun _ hk => hk.2) (.slice Ao105 t512.length co105)) (fun _ hk => hk.2) (.int .i64 t515)) (fun _ hk => hk.2) (.slice Ao113 t516.length co113)) (fun _ hk => ⟨hk.1.1.1, ⟨hk.1.1.2.1, ⟨hk.1.1.2.2.1, ⟨hk.1.1.2.2.2.1, ⟨hk.1.1.2.2.2.2.1, ⟨hk.1.1.2.2.2.2.2.1, ⟨hk.1.1.2.2.2.2.2.2, hk.1.2⟩⟩⟩⟩⟩⟩⟩)⟩, ⟨by (with_reducible repeat (first | refine blk_drewN ?_ _ | refine blk_drew ?_ | refine blk_alloc ?_ _)); refine blk_far ?_ NB463_520.out _; (with_reducible repeat (first | refine blk_drewN ?_ _ | refine blk_drew ?_ | refine blk_alloc ?_ _)); refine blk_far ?_ NB463_520.out _; (with_reducible repeat (first | refine blk_drewN ?_ _ | refine blk_drew ?_ | refine blk_alloc ?_ _)); refine blk_far ?_ NB463_520.out _; (with_reducible repeat (first | refine blk_drewN ?_ _ | refine blk_drew ?_ | refine blk_alloc ?_ _)); exact BK463.out⟩, ⟨by (with_reducible repeat (first | refine blk_drewN ?_ _ | refine blk_drew ?_ | refine blk_alloc ?_ _)); refine blk_far ?_ NB464_520.out _; (with_reducible repeat (first | refine blk_drewN ?_ _ | refine blk_drew ?_ | refine blk_alloc ?_ _)); refine blk_far ?_ NB464_520.out _; (with_reducible repeat (first | refine blk_drewN ?_ _ | refine blk_drew ?_ | refine blk_alloc ?_ _)); refine blk_far ?_ NB464_520.out _; (with_reducible repeat (first | refine blk_drewN ?_ _ | refine blk_drew ?_ | refine blk_alloc ?_ _)); exact BK464.out⟩, ⟨by (with_reducible repeat (first | refine blk_drewN ?_ _ | refine blk_drew ?_ | refine blk_alloc ?_ _)); refine blk_far ?_ NB465_520.out _; (with_reducible repeat (first | refine blk_drewN ?_ _ | refine blk_drew ?_ | refine blk_alloc ?_ _)); refine blk_far ?_ NB465_520.out _; (with_reducible repeat (first | refine blk_drewN ?_ _ | refine blk_drew ?_ | refine blk_alloc ?_ _)); refine blk_far ?_ NB465_520.out _; (with_reducible repeat (first | refine blk_drewN ?_ _ | refine blk_drew ?_ | refine blk_alloc ?_ _)); exact BK465.out⟩, ⟨by (with_reducible repeat (first | refine blk_drewN ?_ _ | refine blk_drew ?_ | refine blk_alloc ?_ _)); refine blk_far ?_ NB484_520.out _; (with_reducible repeat (first | refine blk_drewN ?_ _ | refine blk_drew ?_ | refine blk_alloc ?_ _)); refine blk_far ?_ NB484_520.out _; (with_reducible repeat (first | refine blk_drewN ?_ _ | refine blk_drew ?_ | refine blk_alloc ?_ _)); refine blk_far ?_ NB484_520.out _; (with_reducible repeat (first | refine blk_drewN ?_ _ | refine blk_drew ?_ | refine blk_alloc ?_ _)); exact BK484.out⟩, ⟨by (with_reducible repeat (first | refine blk_drewN ?_ _ | refine blk_drew ?_ | refine blk_alloc ?_ _)); refine blk_far ?_ NB496_520.out _; (with_reducible repeat (first | refine blk_drewN ?_ _ | refine blk_drew ?_ | refine blk_alloc ?_ _)); refine blk_far ?_ NB496_520.out _; (with_reducible repeat (first | refine blk_drewN ?_ _ | refine blk_drew ?_ | refine blk_alloc ?_ _)); refine blk_far ?_ NB496_520.out _; (with_reducible repeat (first | refine blk_drewN ?_ _ | refine blk_drew ?_ | refine blk_alloc ?_ _)); exact BK496.out⟩, ⟨by (with_reducible repeat (first | refine blk_drewN ?_ _ | refine blk_drew ?_ | refine blk_alloc ?_ _)); refine blk_far ?_ NB508_520.out _; (with_reducible repeat (first | refine blk_drewN ?_ _ | refine blk_drew ?_ | refine blk_alloc ?_ _)); refine blk_far ?_ NB508_520.out _; (with_reducible repeat (first | refine blk_drewN ?_ _ | refine blk_drew ?_ | refine blk_alloc ?_ _)); refine blk_far ?_ NB508_520.out _; (with_reducible repeat (first | refine blk_drewN ?_ _ | refine blk_drew ?_ | refine blk_alloc ?_ _)); exact BK508.out⟩, ⟨by (with_reducible repeat (first | refine blk_drewN ?_ _ | refine blk_drew ?_ | refine blk_alloc ?_ _)); refine blk_put (cs := #[.slice Ao105 t512.length co105, .int .i64 t515, .slice none 0 0]) ?_ 2 _ rfl; (with_reducible repeat (first | refine blk_drewN ?_ _ | refine blk_drew ?_ | refine blk_alloc ?_ _)); refine blk_put (cs := #[.slice Ao105 t512.length co105, .int .i64 0, .slice none 0 0]) ?_ 1 _ rfl; (with_reducible repeat (first | refine blk_drewN ?_ _ | refine blk_drew ?_ | refine blk_alloc ?_ _)); refine blk_put (cs := #[.slice none 0 0, .int .i64 0, .slice none 0 0]) ?_ 0 _ rfl; (with_reducible repeat (first | refine blk_drewN ?_ _ | refine blk_drew ?_ | refine blk_alloc ?_ _)); exact BK520.out⟩, ⟨by repeat (first | (with_reducible first | exact HB.out | apply below_alloc | apply pw_below_drewN | apply below_drew1 | refine below_set ?_ GE463.out | refine below_set ?_ GE464.out | refine below_set ?_ GE465.out | refine below_set ?_ GE484.out | refine below_set ?_ GE496.out | refine below_set ?_ GE508.out | refine below_set ?_ GE520.out) | exact HB.out)⟩⟩
    case rest =>
     clear HC49
     try clear c1
     try clear c2
     try clear p2
     try clear c3
     try clear c4
     try clear c5
     try clear c6
     try clear c7
     try clear c9
     try clear c10
     try clear c11
     try clear c12
     try clear c14
     try clear c16
     try clear c17
     try clear c20
     try clear c29
     try clear c30
     try clear c33
     try clear c40
     try clear c41
     try clear c44
     try clear c50
     try clear c51
     try clear c53
     try clear c61
     try clear c62
     try clear c63
     try clear c75
     try clear c76
     try clear c77
     try clear c78
     try clear c90
     try clear c91
     try clear c92
     try clear c93
     try clear c94
     try clear c106
     try clear c107
     try clear c108
     try clear c109
     try clear c110
     try clear c111
     try clear c114
     try clear c114b0
     try clear c114b1
     try clear hcz112_0
     try clear hcz112_1
     try clear hcz112_2
     try clear hcz18_0
     try clear hcz18_1
     try clear hcz18_2
     try clear hcz21_0
     try clear hcz21_1
     try clear hcz21_2
     try clear hcz22_0
     try clear hcz22_1
     try clear hcz22_2
     try clear hcz27_0
     try clear hcz27_1
     try clear hcz27_2
     try clear hcz31_0
     try clear hcz31_1
     try clear hcz31_2
     try clear hcz34_0
     try clear hcz34_1
     try clear hcz34_2
     try clear hcz35_0
     try clear hcz35_1
     try clear hcz35_2
     try clear hcz42_0
     try clear hcz42_1
     try clear hcz42_2
     try clear hcz52_0
     try clear hcz52_1
     try clear hcz52_2
     try clear hcz54_0
     try clear hcz54_1
     try clear hcz54_2
     try clear hcz64_0
     try clear hcz64_1
     try clear hcz64_2
     try clear hcz67_0
     try clear hcz67_1
     try clear hcz67_2
     try clear hcz68_0
     try clear hcz68_1
     try clear hcz68_2
     try clear hcz79_0
     try clear hcz79_1
     try clear hcz79_2
     try clear hcz82_0
     try clear hcz82_1
     try clear hcz82_2
     try clear hcz83_0
     try clear hcz83_1
     try clear hcz83_2
     try clear hcz95_0
     try clear hcz95_1
     try clear hcz95_2
     try clear hcz98_0
     try clear hcz98_1
     try clear hcz98_2
     try clear hcz99_0
     try clear hcz99_1
     try clear hcz99_2
     try clear hfz112_0
     try clear hfz112_1
     try clear hfz112_2
     try clear hfz18_0
     try clear hfz18_1
     try clear hfz18_2
     try clear hfz21_0
     try clear hfz21_1
     try clear hfz21_2
     try clear hfz22_0
     try clear hfz22_1
     try clear hfz22_2
     try clear hfz27_0
     try clear hfz27_1
     try clear hfz27_2
     try clear hfz31_0
     try clear hfz31_1
     try clear hfz31_2
     try clear hfz34_0
     try clear hfz34_1
     try clear hfz34_2
     try clear hfz35_0
     try clear hfz35_1
     try clear hfz35_2
     try clear hfz42_0
     try clear hfz42_1
     try clear hfz42_2
     try clear hfz52_0
     try clear hfz52_1
     try clear hfz52_2
     try clear hfz54_0
     try clear hfz54_1
     try clear hfz54_2
     try clear hfz64_0
     try clear hfz64_1
     try clear hfz64_2
     try clear hfz67_0
     try clear hfz67_1
     try clear hfz67_2
     try clear hfz68_0
     try clear hfz68_1
     try clear hfz68_2
     try clear hfz79_0
     try clear hfz79_1
     try clear hfz79_2
     try clear hfz82_0
     try clear hfz82_1
     try clear hfz82_2
     try clear hfz83_0
     try clear hfz83_1
     try clear hfz83_2
     try clear hfz95_0
     try clear hfz95_1
     try clear hfz95_2
     try clear hfz98_0
     try clear hfz98_1
     try clear hfz98_2
     try clear hfz99_0
     try clear hfz99_1
     try clear hfz99_2
     try clear p2
     obtain ⟨kq, x73_48, rfl, HA, HJ48, HO_464000, HO_464002, HO_465001, HO_465002, HO_466001, HO_466002, HO_485000, HO_485002, HO_497000, HO_497002, HO_509000, HO_509002, HO_521000, HO_521002, BK463, BK464, BK465, BK484, BK496, BK508, BK520, HB⟩ := hcut
     cases kq with
     | zero => exact absurd HA.out (by simp [fullerlaw18_StoreApart.j1])
     | succ kj48 =>
      have H := HA.out
      clear HA
      simp only [fullerlaw18_StoreApart.j1] at H
      by_cases c115 : x73_48 = true
      ·subst c115
       have H1 : (if t466 = true then (if t483 = 0 then (some true) else ((fullerref18_Same.f kj48 t476 t479 t480 l0_0 a0_1 l0_2).bind fun t521 => (some t521))) else (some false)) = some r := by rw [if_pos rfl] at H; exact H
       clear H
       have H := H1
       clear H1
       by_cases c116 : t466 = true
       ·subst c116
        have H1 : (if t483 = 0 then (some true) else ((fullerref18_Same.f kj48 t476 t479 t480 l0_0 a0_1 l0_2).bind fun t521 => (some t521))) = some r := by rw [if_pos rfl] at H; exact H
        clear H
        have H := H1
        clear H1
        by_cases c117 : t483 = 0
        ·rw [if_pos c117] at H
         obtain ⟨c117b0, c117b1⟩ := eqT_ c117
         clear c117
         obtain rfl := Option.some.inj H
         go_wp2
         go_ret
         exact ⟨by first | rfl | (simp <;> rfl) | (simp [*] <;> rfl), by repeat (first | (with_reducible first | exact HB.out | apply below_alloc | apply pw_below_drewN | apply below_drew1 | refine below_set ?_ GE463.out | refine below_set ?_ GE464.out | refine below_set ?_ GE465.out | refine below_set ?_ GE484.out | refine below_set ?_ GE496.out | refine below_set ?_ GE508.out | refine below_set ?_ GE520.out) | exact HB.out)⟩
        ·rw [if_neg c117] at H
         have c117b0 : (t483 == 0) = false := beq_eq_false_iff_ne.mpr c117
         have c117b1 : (t483 != 0) = true := bne_iff_ne.mpr c117
         replace H := Option.bind_eq_some_iff.mp H
         obtain ⟨t521, A1180, H⟩ := H
         replace H : (some t521) = some r := H
         have A118 := Aside0.mk A1180
         clear A1180
         obtain rfl := Option.some.inj H
         have hnb119 := NB484_463.out
         have hnc119 := NB463_484.out
         have hnb120 := NB484_464.out
         have hnc120 := NB464_484.out
         have hnb121 := NB484_465.out
         have hnc121 := NB465_484.out
         have hnb122 := NB484_496.out
         have hnc122 := NB496_484.out
         have hnb123 := NB484_508.out
         have hnc123 := NB508_484.out
         have hnb124 := NB484_520.out
         have hnc124 := NB520_484.out
         have hcz125_0 := cz0_ BK484.out
         have hcz125_1 := cz1_ BK484.out
         have hcz125_2 := cz2_ BK484.out
         have hfz125_0 := blk_frozen BK484.out 0
         have hfz125_1 := blk_frozen BK484.out 1
         have hfz125_2 := blk_frozen BK484.out 2
         have hnb126 := NB463_464.out
         have hnc126 := NB464_463.out
         have hnb127 := NB463_465.out
         have hnc127 := NB465_463.out
         have hnb128 := NB463_496.out
         have hnc128 := NB496_463.out
         have hnb129 := NB463_508.out
         have hnc129 := NB508_463.out
         have hnb130 := NB463_520.out
         have hnc130 := NB520_463.out
         have hcz131_0 := cz0_ BK463.out
         have hcz131_1 := cz1_ BK463.out
         have hcz131_2 := cz2_ BK463.out
         have hfz131_0 := blk_frozen BK463.out 0
         have hfz131_1 := blk_frozen BK463.out 1
         have hfz131_2 := blk_frozen BK463.out 2
         go_wp2_with (first | (go_at_call 12; (with_reducible refine (fullerref18_Same.calls kj48 _ _ t476 t479 _ _ t480 _ _ l0_0 a0_1 _ _ l0_2 t521 _ ?side1 ?side2 ?side3 ?side4 ?side5 ?side6 ?side7 ?side8 A118.out).mono ?_); (case side1 => exact mvC_ ((Kd.V_reads' HO_485000.out).2.2)); (case side2 => exact (Kd.V_reads' HO_485000.out).2.1); (case side3 => exact mvC_ ((Kd.V_reads' HO_485002.out).2.2)); (case side4 => exact (Kd.V_reads' HO_485002.out).2.1); (case side5 => exact mvC_ ((Kd.V_reads' HO_464000.out).2.2)); (case side6 => exact (Kd.V_reads' HO_464000.out).2.1); (case side7 => exact mvC_ ((Kd.V_reads' HO_464002.out).2.2)); (case side8 => exact (Kd.V_reads' HO_464002.out).2.1); rintro e w132 ⟨rfl, hb⟩; replace HO_464000 := mbV_ HO_464000.out hb; replace HO_464002 := mbV_ HO_464002.out hb; replace HO_465001 := mbV_ HO_465001.out hb; replace HO_465002 := mbV_ HO_465002.out hb; replace HO_466001 := mbV_ HO_466001.out hb; replace HO_466002 := mbV_ HO_466002.out hb; replace HO_485000 := mbV_ HO_485000.out hb; replace HO_485002 := mbV_ HO_485002.out hb; replace HO_509000 := mbV_ HO_509000.out hb; replace HO_509002 := mbV_ HO_509002.out hb; replace HO_521000 := mbV_ HO_521000.out hb; replace HO_521002 := mbV_ HO_521002.out hb; replace BK463 := mvB_ BK463.out hb; replace BK464 := mvB_ BK464.out hb; replace BK465 := mvB_ BK465.out hb; replace BK484 := mvB_ BK484.out hb; replace BK496 := mvB_ BK496.out hb; replace BK508 := mvB_ BK508.out hb; replace BK520 := mvB_ BK520.out hb; replace HB := Aside0.mk (below_step (by repeat (first | (with_reducible first | exact HB.out | apply below_alloc | apply pw_below_drewN | apply below_drew1 | refine below_set ?_ GE463.out | refine below_set ?_ GE464.out | refine below_set ?_ GE465.out | refine below_set ?_ GE484.out | refine below_set ?_ GE496.out | refine below_set ?_ GE508.out | refine below_set ?_ GE520.out) | exact HB.out)) hb); (try clear hb)))
         go_ret
         exact ⟨by first | rfl | (simp <;> rfl) | (simp [*] <;> rfl), by repeat (first | (with_reducible first | exact HB.out | apply below_alloc | apply pw_below_drewN | apply below_drew1 | refine below_set ?_ GE463.out | refine below_set ?_ GE464.out | refine below_set ?_ GE465.out | refine below_set ?_ GE484.out | refine below_set ?_ GE496.out | refine below_set ?_ GE508.out | refine below_set ?_ GE520.out) | exact HB.out)⟩
       ·replace c116 := Bool.eq_false_iff.mpr c116
        subst c116
        have H1 : (some false) = some r := by rw [if_neg (show ¬ (false = true) by decide)] at H; exact H
        clear H
        have H := H1
        clear H1
        obtain rfl := Option.some.inj H
        go_wp2
        go_ret
        exact ⟨by first | rfl | (simp <;> rfl) | (simp [*] <;> rfl), by repeat (first | (with_reducible first | exact HB.out | apply below_alloc | apply pw_below_drewN | apply below_drew1 | refine below_set ?_ GE463.out | refine below_set ?_ GE464.out | refine below_set ?_ GE465.out | refine below_set ?_ GE484.out | refine below_set ?_ GE496.out | refine below_set ?_ GE508.out | refine below_set ?_ GE520.out) | exact HB.out)⟩
      ·replace c115 := Bool.eq_false_iff.mpr c115
       subst c115
       have H1 : (if a2_0 = a3_0 then (if t466 = true then (if (wrap64 (a0_1 + 2)) > 1099511627776 then (some true) else (if t507 = 181 then (some (t519 == 181)) else (some false))) else (some false)) else (if t466 = true then (if (wrap64 (a0_1 + 2)) > 1099511627776 then (some true) else (if t507 = 0 then (if t519 = 0 then (if t503 = t515 then ((store_All.f kj48 t500 t503 t504 t503).bind fun t522 => ((store_All.f kj48 t512 t515 t516 t515).bind fun t525 => ((fullerref09_Same.f kj48 t522 t525).bind fun t528 => (some t528)))) else (some false)) else (some false)) else (some false))) else (some false))) = some r := by rw [if_neg (show ¬ (false = true) by decide)] at H; exact H
       clear H
       have H := H1
       clear H1
       by_cases c133 : a2_0 = a3_0
       ·rw [if_pos c133] at H
        obtain ⟨c133b0, c133b1⟩ := eqT_ c133
        clear c133
        by_cases c134 : t466 = true
        ·subst c134
         have H1 : (if (wrap64 (a0_1 + 2)) > 1099511627776 then (some true) else (if t507 = 181 then (some (t519 == 181)) else (some false))) = some r := by rw [if_pos rfl] at H; exact H
         clear H
         have H := H1
         clear H1
         by_cases c135 : (wrap64 (a0_1 + 2)) > 1099511627776
         ·rw [if_pos c135] at H
          have c135b0 : decide (1099511627776 < (wrap64 (a0_1 + 2))) = true := decide_eq_true c135
          clear c135
          obtain rfl := Option.some.inj H
          have hnb136 := NB463_464.out
          have hnc136 := NB464_463.out
          have hnb137 := NB463_465.out
          have hnc137 := NB465_463.out
          have hnb138 := NB463_484.out
          have hnc138 := NB484_463.out
          have hnb139 := NB463_496.out
          have hnc139 := NB496_463.out
          have hnb140 := NB463_508.out
          have hnc140 := NB508_463.out
          have hnb141 := NB463_520.out
          have hnc141 := NB520_463.out
          have hcz142_0 := cz0_ BK463.out
          have hcz142_1 := cz1_ BK463.out
          have hcz142_2 := cz2_ BK463.out
          have hfz142_0 := blk_frozen BK463.out 0
          have hfz142_1 := blk_frozen BK463.out 1
          have hfz142_2 := blk_frozen BK463.out 2
          have hnb143 := NB464_465.out
          have hnc143 := NB465_464.out
          have hnb144 := NB464_484.out
          have hnc144 := NB484_464.out
          have hnb145 := NB464_496.out
          have hnc145 := NB496_464.out
          have hnb146 := NB464_508.out
          have hnc146 := NB508_464.out
          have hnb147 := NB464_520.out
          have hnc147 := NB520_464.out
          have hcz148_0 := cz0_ BK464.out
          have hcz148_1 := cz1_ BK464.out
          have hcz148_2 := cz2_ BK464.out
          have hfz148_0 := blk_frozen BK464.out 0
          have hfz148_1 := blk_frozen BK464.out 1
          have hfz148_2 := blk_frozen BK464.out 2
          have hnb149 := NB465_484.out
          have hnc149 := NB484_465.out
          have hnb150 := NB465_496.out
          have hnc150 := NB496_465.out
          have hnb151 := NB465_508.out
          have hnc151 := NB508_465.out
          have hnb152 := NB465_520.out
          have hnc152 := NB520_465.out
          have hcz153_0 := cz0_ BK465.out
          have hcz153_1 := cz1_ BK465.out
          have hcz153_2 := cz2_ BK465.out
          have hfz153_0 := blk_frozen BK465.out 0
          have hfz153_1 := blk_frozen BK465.out 1
          have hfz153_2 := blk_frozen BK465.out 2
          go_wp2
          go_ret
          exact ⟨by first | rfl | (simp <;> rfl) | (simp [*] <;> rfl), by repeat (first | (with_reducible first | exact HB.out | apply below_alloc | apply pw_below_drewN | apply below_drew1 | refine below_set ?_ GE463.out | refine below_set ?_ GE464.out | refine below_set ?_ GE465.out | refine below_set ?_ GE484.out | refine below_set ?_ GE496.out | refine below_set ?_ GE508.out | refine below_set ?_ GE520.out) | exact HB.out)⟩
         ·rw [if_neg c135] at H
          have c135b0 : decide (1099511627776 < (wrap64 (a0_1 + 2))) = false := decide_eq_false c135
          clear c135
          by_cases c154 : t507 = 181
          ·rw [if_pos c154] at H
           obtain ⟨c154b0, c154b1⟩ := eqT_ c154
           clear c154
           obtain rfl := Option.some.inj H
           have hnb155 := NB463_464.out
           have hnc155 := NB464_463.out
           have hnb156 := NB463_465.out
           have hnc156 := NB465_463.out
           have hnb157 := NB463_484.out
           have hnc157 := NB484_463.out
           have hnb158 := NB463_496.out
           have hnc158 := NB496_463.out
           have hnb159 := NB463_508.out
           have hnc159 := NB508_463.out
           have hnb160 := NB463_520.out
           have hnc160 := NB520_463.out
           have hcz161_0 := cz0_ BK463.out
           have hcz161_1 := cz1_ BK463.out
           have hcz161_2 := cz2_ BK463.out
           have hfz161_0 := blk_frozen BK463.out 0
           have hfz161_1 := blk_frozen BK463.out 1
           have hfz161_2 := blk_frozen BK463.out 2
           have hnb162 := NB464_465.out
           have hnc162 := NB465_464.out
           have hnb163 := NB464_484.out
           have hnc163 := NB484_464.out
           have hnb164 := NB464_496.out
           have hnc164 := NB496_464.out
           have hnb165 := NB464_508.out
           have hnc165 := NB508_464.out
           have hnb166 := NB464_520.out
           have hnc166 := NB520_464.out
           have hcz167_0 := cz0_ BK464.out
           have hcz167_1 := cz1_ BK464.out
           have hcz167_2 := cz2_ BK464.out
           have hfz167_0 := blk_frozen BK464.out 0
           have hfz167_1 := blk_frozen BK464.out 1
           have hfz167_2 := blk_frozen BK464.out 2
           have hnb168 := NB465_484.out
           have hnc168 := NB484_465.out
           have hnb169 := NB465_496.out
           have hnc169 := NB496_465.out
           have hnb170 := NB465_508.out
           have hnc170 := NB508_465.out
           have hnb171 := NB465_520.out
           have hnc171 := NB520_465.out
           have hcz172_0 := cz0_ BK465.out
           have hcz172_1 := cz1_ BK465.out
           have hcz172_2 := cz2_ BK465.out
           have hfz172_0 := blk_frozen BK465.out 0
           have hfz172_1 := blk_frozen BK465.out 1
           have hfz172_2 := blk_frozen BK465.out 2
           go_wp2
           go_ret
           exact ⟨by first | rfl | (simp <;> rfl) | (simp [*] <;> rfl), by repeat (first | (with_reducible first | exact HB.out | apply below_alloc | apply pw_below_drewN | apply below_drew1 | refine below_set ?_ GE463.out | refine below_set ?_ GE464.out | refine below_set ?_ GE465.out | refine below_set ?_ GE484.out | refine below_set ?_ GE496.out | refine below_set ?_ GE508.out | refine below_set ?_ GE520.out) | exact HB.out)⟩
          ·rw [if_neg c154] at H
           have c154b0 : (t507 == 181) = false := beq_eq_false_iff_ne.mpr c154
           have c154b1 : (t507 != 181) = true := bne_iff_ne.mpr c154
           obtain rfl := Option.some.inj H
           have hnb173 := NB463_464.out
           have hnc173 := NB464_463.out
           have hnb174 := NB463_465.out
           have hnc174 := NB465_463.out
           have hnb175 := NB463_484.out
           have hnc175 := NB484_463.out
           have hnb176 := NB463_496.out
           have hnc176 := NB496_463.out
           have hnb177 := NB463_508.out
           have hnc177 := NB508_463.out
           have hnb178 := NB463_520.out
           have hnc178 := NB520_463.out
           have hcz179_0 := cz0_ BK463.out
           have hcz179_1 := cz1_ BK463.out
           have hcz179_2 := cz2_ BK463.out
           have hfz179_0 := blk_frozen BK463.out 0
           have hfz179_1 := blk_frozen BK463.out 1
           have hfz179_2 := blk_frozen BK463.out 2
           have hnb180 := NB464_465.out
           have hnc180 := NB465_464.out
           have hnb181 := NB464_484.out
           have hnc181 := NB484_464.out
           have hnb182 := NB464_496.out
           have hnc182 := NB496_464.out
           have hnb183 := NB464_508.out
           have hnc183 := NB508_464.out
           have hnb184 := NB464_520.out
           have hnc184 := NB520_464.out
           have hcz185_0 := cz0_ BK464.out
           have hcz185_1 := cz1_ BK464.out
           have hcz185_2 := cz2_ BK464.out
           have hfz185_0 := blk_frozen BK464.out 0
           have hfz185_1 := blk_frozen BK464.out 1
           have hfz185_2 := blk_frozen BK464.out 2
           have hnb186 := NB465_484.out
           have hnc186 := NB484_465.out
           have hnb187 := NB465_496.out
           have hnc187 := NB496_465.out
           have hnb188 := NB465_508.out
           have hnc188 := NB508_465.out
           have hnb189 := NB465_520.out
           have hnc189 := NB520_465.out
           have hcz190_0 := cz0_ BK465.out
           have hcz190_1 := cz1_ BK465.out
           have hcz190_2 := cz2_ BK465.out
           have hfz190_0 := blk_frozen BK465.out 0
           have hfz190_1 := blk_frozen BK465.out 1
           have hfz190_2 := blk_frozen BK465.out 2
           go_wp2
           go_ret
           exact ⟨by first | rfl | (simp <;> rfl) | (simp [*] <;> rfl), by repeat (first | (with_reducible first | exact HB.out | apply below_alloc | apply pw_below_drewN | apply below_drew1 | refine below_set ?_ GE463.out | refine below_set ?_ GE464.out | refine below_set ?_ GE465.out | refine below_set ?_ GE484.out | refine below_set ?_ GE496.out | refine below_set ?_ GE508.out | refine below_set ?_ GE520.out) | exact HB.out)⟩
        ·replace c134 := Bool.eq_false_iff.mpr c134
         subst c134
         have H1 : (some false) = some r := by rw [if_neg (show ¬ (false = true) by decide)] at H; exact H
         clear H
         have H := H1
         clear H1
         obtain rfl := Option.some.inj H
         have hnb191 := NB463_464.out
         have hnc191 := NB464_463.out
         have hnb192 := NB463_465.out
         have hnc192 := NB465_463.out
         have hnb193 := NB463_484.out
         have hnc193 := NB484_463.out
         have hnb194 := NB463_496.out
         have hnc194 := NB496_463.out
         have hnb195 := NB463_508.out
         have hnc195 := NB508_463.out
         have hnb196 := NB463_520.out
         have hnc196 := NB520_463.out
         have hcz197_0 := cz0_ BK463.out
         have hcz197_1 := cz1_ BK463.out
         have hcz197_2 := cz2_ BK463.out
         have hfz197_0 := blk_frozen BK463.out 0
         have hfz197_1 := blk_frozen BK463.out 1
         have hfz197_2 := blk_frozen BK463.out 2
         have hnb198 := NB464_465.out
         have hnc198 := NB465_464.out
         have hnb199 := NB464_484.out
         have hnc199 := NB484_464.out
         have hnb200 := NB464_496.out
         have hnc200 := NB496_464.out
         have hnb201 := NB464_508.out
         have hnc201 := NB508_464.out
         have hnb202 := NB464_520.out
         have hnc202 := NB520_464.out
         have hcz203_0 := cz0_ BK464.out
         have hcz203_1 := cz1_ BK464.out
         have hcz203_2 := cz2_ BK464.out
         have hfz203_0 := blk_frozen BK464.out 0
         have hfz203_1 := blk_frozen BK464.out 1
         have hfz203_2 := blk_frozen BK464.out 2
         have hnb204 := NB465_484.out
         have hnc204 := NB484_465.out
         have hnb205 := NB465_496.out
         have hnc205 := NB496_465.out
         have hnb206 := NB465_508.out
         have hnc206 := NB508_465.out
         have hnb207 := NB465_520.out
         have hnc207 := NB520_465.out
         have hcz208_0 := cz0_ BK465.out
         have hcz208_1 := cz1_ BK465.out
         have hcz208_2 := cz2_ BK465.out
         have hfz208_0 := blk_frozen BK465.out 0
         have hfz208_1 := blk_frozen BK465.out 1
         have hfz208_2 := blk_frozen BK465.out 2
         go_wp2
         go_ret
         exact ⟨by first | rfl | (simp <;> rfl) | (simp [*] <;> rfl), by repeat (first | (with_reducible first | exact HB.out | apply below_alloc | apply pw_below_drewN | apply below_drew1 | refine below_set ?_ GE463.out | refine below_set ?_ GE464.out | refine below_set ?_ GE465.out | refine below_set ?_ GE484.out | refine below_set ?_ GE496.out | refine below_set ?_ GE508.out | refine below_set ?_ GE520.out) | exact HB.out)⟩
       ·rw [if_neg c133] at H
        have c133b0 : (a2_0 == a3_0) = false := beq_eq_false_iff_ne.mpr c133
        have c133b1 : (a2_0 != a3_0) = true := bne_iff_ne.mpr c133
        by_cases c209 : t466 = true
        ·subst c209
         have H1 : (if (wrap64 (a0_1 + 2)) > 1099511627776 then (some true) else (if t507 = 0 then (if t519 = 0 then (if t503 = t515 then ((store_All.f kj48 t500 t503 t504 t503).bind fun t522 => ((store_All.f kj48 t512 t515 t516 t515).bind fun t525 => ((fullerref09_Same.f kj48 t522 t525).bind fun t528 => (some t528)))) else (some false)) else (some false)) else (some false))) = some r := by rw [if_pos rfl] at H; exact H
         clear H
         have H := H1
         clear H1
         by_cases c210 : (wrap64 (a0_1 + 2)) > 1099511627776
         ·rw [if_pos c210] at H
          have c210b0 : decide (1099511627776 < (wrap64 (a0_1 + 2))) = true := decide_eq_true c210
          clear c210
          obtain rfl := Option.some.inj H
          have hnb211 := NB463_464.out
          have hnc211 := NB464_463.out
          have hnb212 := NB463_465.out
          have hnc212 := NB465_463.out
          have hnb213 := NB463_484.out
          have hnc213 := NB484_463.out
          have hnb214 := NB463_496.out
          have hnc214 := NB496_463.out
          have hnb215 := NB463_508.out
          have hnc215 := NB508_463.out
          have hnb216 := NB463_520.out
          have hnc216 := NB520_463.out
          have hcz217_0 := cz0_ BK463.out
          have hcz217_1 := cz1_ BK463.out
          have hcz217_2 := cz2_ BK463.out
          have hfz217_0 := blk_frozen BK463.out 0
          have hfz217_1 := blk_frozen BK463.out 1
          have hfz217_2 := blk_frozen BK463.out 2
          have hnb218 := NB464_465.out
          have hnc218 := NB465_464.out
          have hnb219 := NB464_484.out
          have hnc219 := NB484_464.out
          have hnb220 := NB464_496.out
          have hnc220 := NB496_464.out
          have hnb221 := NB464_508.out
          have hnc221 := NB508_464.out
          have hnb222 := NB464_520.out
          have hnc222 := NB520_464.out
          have hcz223_0 := cz0_ BK464.out
          have hcz223_1 := cz1_ BK464.out
          have hcz223_2 := cz2_ BK464.out
          have hfz223_0 := blk_frozen BK464.out 0
          have hfz223_1 := blk_frozen BK464.out 1
          have hfz223_2 := blk_frozen BK464.out 2
          have hnb224 := NB465_484.out
          have hnc224 := NB484_465.out
          have hnb225 := NB465_496.out
          have hnc225 := NB496_465.out
          have hnb226 := NB465_508.out
          have hnc226 := NB508_465.out
          have hnb227 := NB465_520.out
          have hnc227 := NB520_465.out
          have hcz228_0 := cz0_ BK465.out
          have hcz228_1 := cz1_ BK465.out
          have hcz228_2 := cz2_ BK465.out
          have hfz228_0 := blk_frozen BK465.out 0
          have hfz228_1 := blk_frozen BK465.out 1
          have hfz228_2 := blk_frozen BK465.out 2
          try go_wp2
          replace HO_464000 := Aside0.mk (Kd.V_drew HO_464000.out)
          replace HO_464002 := Aside0.mk (Kd.V_drew HO_464002.out)
          replace HO_465001 := Aside0.mk (Kd.V_drew HO_465001.out)
          replace HO_465002 := Aside0.mk (Kd.V_drew HO_465002.out)
          replace HO_466001 := Aside0.mk (Kd.V_drew HO_466001.out)
          replace HO_466002 := Aside0.mk (Kd.V_drew HO_466002.out)
          replace HO_485000 := Aside0.mk (Kd.V_drew HO_485000.out)
          replace HO_485002 := Aside0.mk (Kd.V_drew HO_485002.out)
          replace HO_497000 := Aside0.mk (Kd.V_drew HO_497000.out)
          replace HO_497002 := Aside0.mk (Kd.V_drew HO_497002.out)
          replace HO_509000 := Aside0.mk (Kd.V_drew HO_509000.out)
          replace HO_509002 := Aside0.mk (Kd.V_drew HO_509002.out)
          replace HO_521000 := Aside0.mk (Kd.V_drew HO_521000.out)
          replace HO_521002 := Aside0.mk (Kd.V_drew HO_521002.out)
          replace BK463 := Aside0.mk (blk_drew BK463.out)
          replace BK464 := Aside0.mk (blk_drew BK464.out)
          replace BK465 := Aside0.mk (blk_drew BK465.out)
          replace BK484 := Aside0.mk (blk_drew BK484.out)
          replace BK496 := Aside0.mk (blk_drew BK496.out)
          replace BK508 := Aside0.mk (blk_drew BK508.out)
          replace BK520 := Aside0.mk (blk_drew BK520.out)
          replace HB := Aside0.mk (below_drew1 HB.out)
          refine start_ (n := 31) (S := fun w' => True) (ds := []) L5_0 (by kernel_rfl) rfl rfl trivial (fun hHeld => ?_); refine with_tabW fullerlaw18_StoreApart.tab13 fullerlaw18_StoreApart.bits13 (fun HT_ HW_ => ?_)
          generalize wc.drew = w229 at HO_464000 HO_464002 HO_465001 HO_465002 HO_466001 HO_466002 HO_485000 HO_485002 HO_497000 HO_497002 HO_509000 HO_509002 HO_521000 HO_521002 BK463 BK464 BK465 BK484 BK496 BK508 BK520 HB hHeld ⊢
          refine pu_ 0 (some 105) L5_1 HT_ ?_
          refine pu_ 1 (some 106) L5_2 HT_ ?_
          refine pu_ 2 (some 107) L5_3 HT_ ?_
          refine pu_ 3 (some 108) L5_4 HT_ ?_
          refine skips_ (fuel := 3) (m := 27) HT_.out (fun _ _ _ _ _ h => h) [(4, 109), (5, 110), (6, 111), (7, 112), (8, 113), (9, 114), (10, 115), (11, 116), (12, 117), (13, 118), (14, 119), (15, 120), (16, 121), (17, 122), (18, 123), (19, 124), (20, 125), (21, 126), (22, 127), (23, 128), (24, 129), (25, 130), (26, 131), (27, 132)] L5_5 rfl (by kernel_rfl) (by kernel_rfl) (a' := ?_) ?_ ?_
          rotate_left
          ·simp only [putU, Act.put, sA_, sB_, sC_]
           rfl
          refine pu_ 28 (some 133) L5_6 HT_ ?_
          refine pu_ 29 (some 134) L5_7 HT_ ?_
          refine pu_ 30 (some 8) L5_8 HT_ ?_
          refine done_ (done_of HT_.out (by kernel_rfl)) ?_
          try go_wp2
          go_ret
          exact ⟨by first | rfl | (simp <;> rfl) | (simp [*] <;> rfl), by repeat (first | (with_reducible first | exact HB.out | apply below_alloc | apply pw_below_drewN | apply below_drew1 | refine below_set ?_ GE463.out | refine below_set ?_ GE464.out | refine below_set ?_ GE465.out | refine below_set ?_ GE484.out | refine below_set ?_ GE496.out | refine below_set ?_ GE508.out | refine below_set ?_ GE520.out) | exact HB.out)⟩
         ·rw [if_neg c210] at H
          have c210b0 : decide (1099511627776 < (wrap64 (a0_1 + 2))) = false := decide_eq_false c210
          clear c210
          by_cases c230 : t507 = 0
          ·rw [if_pos c230] at H
           obtain ⟨c230b0, c230b1⟩ := eqT_ c230
           clear c230
           by_cases c231 : t519 = 0
           ·rw [if_pos c231] at H
            obtain ⟨c231b0, c231b1⟩ := eqT_ c231
            clear c231
            by_cases c232 : t503 = t515
            ·rw [if_pos c232] at H
             obtain ⟨c232b0, c232b1⟩ := eqT_ c232
             clear c232
             replace H := Option.bind_eq_some_iff.mp H
             obtain ⟨t522, A2330, H⟩ := H
             replace H : ((store_All.f kj48 t512 t515 t516 t515).bind fun t525 => ((fullerref09_Same.f kj48 t522 t525).bind fun t528 => (some t528))) = some r := H
             have A233 := Aside0.mk A2330
             clear A2330
             replace H := Option.bind_eq_some_iff.mp H
             obtain ⟨t525, A2340, H⟩ := H
             replace H : ((fullerref09_Same.f kj48 t522 t525).bind fun t528 => (some t528)) = some r := H
             have A234 := Aside0.mk A2340
             clear A2340
             replace H := Option.bind_eq_some_iff.mp H
             obtain ⟨t528, A2350, H⟩ := H
             replace H : (some t528) = some r := H
             have A235 := Aside0.mk A2350
             clear A2350
             obtain rfl := Option.some.inj H
             have hnb236 := NB463_464.out
             have hnc236 := NB464_463.out
             have hnb237 := NB463_465.out
             have hnc237 := NB465_463.out
             have hnb238 := NB463_484.out
             have hnc238 := NB484_463.out
             have hnb239 := NB463_496.out
             have hnc239 := NB496_463.out
             have hnb240 := NB463_508.out
             have hnc240 := NB508_463.out
             have hnb241 := NB463_520.out
             have hnc241 := NB520_463.out
             have hcz242_0 := cz0_ BK463.out
             have hcz242_1 := cz1_ BK463.out
             have hcz242_2 := cz2_ BK463.out
             have hfz242_0 := blk_frozen BK463.out 0
             have hfz242_1 := blk_frozen BK463.out 1
             have hfz242_2 := blk_frozen BK463.out 2
             have hnb243 := NB464_465.out
             have hnc243 := NB465_464.out
             have hnb244 := NB464_484.out
             have hnc244 := NB484_464.out
             have hnb245 := NB464_496.out
             have hnc245 := NB496_464.out
             have hnb246 := NB464_508.out
             have hnc246 := NB508_464.out
             have hnb247 := NB464_520.out
             have hnc247 := NB520_464.out
             have hcz248_0 := cz0_ BK464.out
             have hcz248_1 := cz1_ BK464.out
             have hcz248_2 := cz2_ BK464.out
             have hfz248_0 := blk_frozen BK464.out 0
             have hfz248_1 := blk_frozen BK464.out 1
             have hfz248_2 := blk_frozen BK464.out 2
             have hnb249 := NB465_484.out
             have hnc249 := NB484_465.out
             have hnb250 := NB465_496.out
             have hnc250 := NB496_465.out
             have hnb251 := NB465_508.out
             have hnc251 := NB508_465.out
             have hnb252 := NB465_520.out
             have hnc252 := NB520_465.out
             have hcz253_0 := cz0_ BK465.out
             have hcz253_1 := cz1_ BK465.out
             have hcz253_2 := cz2_ BK465.out
             have hfz253_0 := blk_frozen BK465.out 0
             have hfz253_1 := blk_frozen BK465.out 1
             have hfz253_2 := blk_frozen BK465.out 2
             try go_wp2
             replace HO_464000 := Aside0.mk (Kd.V_drew HO_464000.out)
             replace HO_464002 := Aside0.mk (Kd.V_drew HO_464002.out)
             replace HO_465001 := Aside0.mk (Kd.V_drew HO_465001.out)
             replace HO_465002 := Aside0.mk (Kd.V_drew HO_465002.out)
             replace HO_466001 := Aside0.mk (Kd.V_drew HO_466001.out)
             replace HO_466002 := Aside0.mk (Kd.V_drew HO_466002.out)
             replace HO_485000 := Aside0.mk (Kd.V_drew HO_485000.out)
             replace HO_485002 := Aside0.mk (Kd.V_drew HO_485002.out)
             replace HO_497000 := Aside0.mk (Kd.V_drew HO_497000.out)
             replace HO_497002 := Aside0.mk (Kd.V_drew HO_497002.out)
             replace HO_509000 := Aside0.mk (Kd.V_drew HO_509000.out)
             replace HO_509002 := Aside0.mk (Kd.V_drew HO_509002.out)
             replace HO_521000 := Aside0.mk (Kd.V_drew HO_521000.out)
             replace HO_521002 := Aside0.mk (Kd.V_drew HO_521002.out)
             replace BK463 := Aside0.mk (blk_drew BK463.out)
             replace BK464 := Aside0.mk (blk_drew BK464.out)
             replace BK465 := Aside0.mk (blk_drew BK465.out)
             replace BK484 := Aside0.mk (blk_drew BK484.out)
             replace BK496 := Aside0.mk (blk_drew BK496.out)
             replace BK508 := Aside0.mk (blk_drew BK508.out)
             replace BK520 := Aside0.mk (blk_drew BK520.out)
             replace HB := Aside0.mk (below_drew1 HB.out)
             refine start_ (n := 31) (S := fun w' => w'.cell? ⟨gb508, 0, none⟩ = some (.slice Ao89 t500.length co89) ∧ w'.cell? ⟨gb508, 1, none⟩ = some (.int .i64 t503) ∧ w'.cell? ⟨gb508, 2, none⟩ = some (.slice Ao96 t504.length co96) ∧ w'.cell? ⟨gb520, 0, none⟩ = some (.slice Ao105 t512.length co105) ∧ w'.cell? ⟨gb520, 1, none⟩ = some (.int .i64 t515) ∧ w'.cell? ⟨gb520, 2, none⟩ = some (.slice Ao113 t516.length co113)) (ds := []) L5_0 (by kernel_rfl) rfl rfl ⟨(blk_cell BK508.out 0).trans rfl, (blk_cell BK508.out 1).trans rfl, (blk_cell BK508.out 2).trans rfl, (blk_cell BK520.out 0).trans rfl, (blk_cell BK520.out 1).trans rfl, (blk_cell BK520.out 2).trans rfl⟩ (fun hHeld => ?_); refine with_tabW fullerlaw18_StoreApart.tab13 fullerlaw18_StoreApart.bits13 (fun HT_ HW_ => ?_)
             generalize wc.drew = w254 at HO_464000 HO_464002 HO_465001 HO_465002 HO_466001 HO_466002 HO_485000 HO_485002 HO_497000 HO_497002 HO_509000 HO_509002 HO_521000 HO_521002 BK463 BK464 BK465 BK484 BK496 BK508 BK520 HB hHeld ⊢
             refine pu_ 0 (some 105) L5_1 HT_ ?_
             refine pu_ 1 (some 106) L5_2 HT_ ?_
             refine pu_ 2 (some 107) L5_3 HT_ ?_
             refine pu_ 3 (some 108) L5_4 HT_ ?_
             refine pu_ 4 (some 109) L5_9 HT_ ?_
             refine pu_ 5 (some 110) L5_10 HT_ ?_
             refine pu_ 6 (some 111) L5_11 HT_ ?_
             refine pu_ 7 (some 112) L5_12 HT_ ?_
             refine pu_ 8 (some 113) L5_13 HT_ ?_
             refine pu_ 9 (some 114) L5_14 HT_ ?_
             refine pu_ 10 (some 115) L5_15 HT_ ?_
             refine pu_ 11 (some 116) L5_16 HT_ ?_
             refine pu_ 13 (some 118) L5_17 HT_ ?_
             refine ta_ 12 (some 117) L5_18 HT_ HW_ hHeld ?_ (hy := by rintro w' ⟨s0, s1, s2, s3, s4, s5⟩; go_simp; with_reducible rfl)
             refine ta_ 14 (some 119) L5_19 HT_ HW_ hHeld ?_ (hy := by rintro w' ⟨s0, s1, s2, s3, s4, s5⟩; go_simp; with_reducible rfl)
             refine pu_ 15 (some 120) L5_20 HT_ ?_
             refine pu_ 16 (some 121) L5_21 HT_ ?_
             refine pu_ 17 (some 122) L5_22 HT_ ?_
             refine pu_ 19 (some 124) L5_23 HT_ ?_
             refine pu_ 23 (some 128) L5_24 HT_ ?_
             refine ta_ 18 (some 123) L5_25 HT_ HW_ hHeld ?_ (hy := by rintro w' ⟨s0, s1, s2, s3, s4, s5⟩; go_simp; with_reducible rfl)
             refine ta_ 20 (some 125) L5_26 HT_ HW_ hHeld ?_ (hy := by rintro w' ⟨s0, s1, s2, s3, s4, s5⟩; go_simp; with_reducible rfl)
             refine ta_ 22 (some 127) L5_27 HT_ HW_ hHeld ?_ (hy := by rintro w' ⟨s0, s1, s2, s3, s4, s5⟩; go_simp; with_reducible rfl)
             refine ta_ 24 (some 129) L5_28 HT_ HW_ hHeld ?_ (hy := by rintro w' ⟨s0, s1, s2, s3, s4, s5⟩; go_simp; with_reducible rfl)
             refine one_ (i := 21) (N := some 126) L5_29 rfl rfl (one_of HT_.out (by kernel_rfl)) (by decide) (fun K hK => ?_)
             refine goes_ Try.func11 (by kernel_rfl) rfl #[.agg #[.slice Ao89 t500.length co89, .int .i64 t503, .slice Ao96 t504.length co96], .int .i64 t503] (by rfl) rfl rfl (by (try simp only [List.map_toArray, List.map_cons, List.map_nil]); first | done | rfl | (simp only [List.length_drop, List.length_take]; rfl)) ?_
             with_reducible refine (store_All.calls kj48 _ _ t500 t503 _ _ t504 t503 t522 _ ?side1 ?side2 ?side3 ?side4 A233.out).mono ?_
             (case side1 => exact mvC_ ((Kd.V_reads' HO_509000.out).2.2))
             (case side2 => exact (Kd.V_reads' HO_509000.out).2.1)
             (case side3 => exact mvC_ ((Kd.V_reads' HO_509002.out).2.2))
             (case side4 => exact (Kd.V_reads' HO_509002.out).2.1)
             rintro e w255 ⟨v523, rfl, ho0, hb⟩
             refine ⟨_, rfl, ?_⟩
             have HO524 := Aside0.mk (Kd.N_lower (Kd.N_mono (ok' := fun k_ => ((P0_0_ k_ ∨ P0_2_ k_ ∨ P2_1_ k_ ∨ P2_2_ k_ ∨ P3_1_ k_ ∨ P3_2_ k_) ∨ w.heap.size ≤ k_) ∧ k_ ≠ gb463 ∧ k_ ≠ gb464 ∧ k_ ≠ gb465 ∧ k_ ≠ gb484 ∧ k_ ≠ gb496 ∧ k_ ≠ gb508 ∧ k_ ≠ gb520) (Kd.R_N (Kd.R_bound ho0)) (fun k_ hk_ => ⟨(.inr (Nat.le_trans (below_size (by repeat (first | (with_reducible first | exact HB.out | apply below_alloc | apply pw_below_drewN | apply below_drew1 | refine below_set ?_ GE463.out | refine below_set ?_ GE464.out | refine below_set ?_ GE465.out | refine below_set ?_ GE484.out | refine below_set ?_ GE496.out | refine below_set ?_ GE508.out | refine below_set ?_ GE520.out) | exact HB.out))) hk_.2.1)), (Kd.freshB (g := gb463) (o := .cells #[.slice A0_0 l0_0.length c0_0, .int .i64 a0_1, .slice A0_2 l0_2.length c0_2] 25 (0, 0)) (mvK_ BK463.out) k_ hk_.2.1), (Kd.freshB (g := gb464) (o := .cells #[.int .i64 a2_0, .slice A2_1 l2_1.length c2_1, .slice A2_2 l2_2.length c2_2] 42 (0, 0)) (mvK_ BK464.out) k_ hk_.2.1), (Kd.freshB (g := gb465) (o := .cells #[.int .i64 a3_0, .slice A3_1 l3_1.length c3_1, .slice A3_2 l3_2.length c3_2] 42 (0, 0)) (mvK_ BK465.out) k_ hk_.2.1), (Kd.freshB (g := gb484) (o := .cells #[.slice Ao60 t476.length co60, .int .i64 t479, .slice Ao65 t480.length co65] 25 (0, 0)) (mvK_ BK484.out) k_ hk_.2.1), (Kd.freshB (g := gb496) (o := .cells #[.slice Ao74 t488.length co74, .int .i64 t491, .slice Ao80 t492.length co80] 25 (0, 0)) (mvK_ BK496.out) k_ hk_.2.1), (Kd.freshB (g := gb508) (o := .cells #[.slice Ao89 t500.length co89, .int .i64 t503, .slice Ao96 t504.length co96] 25 (0, 0)) (mvK_ BK508.out) k_ hk_.2.1), (Kd.freshB (g := gb520) (o := .cells #[.slice Ao105 t512.length co105, .int .i64 t515, .slice Ao113 t516.length co113] 25 (0, 0)) (mvK_ BK520.out) k_ hk_.2.1)⟩)) (below_size (by repeat (first | (with_reducible first | exact HB.out | apply below_alloc | apply pw_below_drewN | apply below_drew1 | refine below_set ?_ GE463.out | refine below_set ?_ GE464.out | refine below_set ?_ GE465.out | refine below_set ?_ GE484.out | refine below_set ?_ GE496.out | refine below_set ?_ GE508.out | refine below_set ?_ GE520.out) | exact HB.out))))
             replace HO_464000 := mbV_ HO_464000.out hb
             replace HO_464002 := mbV_ HO_464002.out hb
             replace HO_465001 := mbV_ HO_465001.out hb
             replace HO_465002 := mbV_ HO_465002.out hb
             replace HO_466001 := mbV_ HO_466001.out hb
             replace HO_466002 := mbV_ HO_466002.out hb
             replace HO_485000 := mbV_ HO_485000.out hb
             replace HO_485002 := mbV_ HO_485002.out hb
             replace HO_497000 := mbV_ HO_497000.out hb
             replace HO_497002 := mbV_ HO_497002.out hb
             replace HO_509000 := mbV_ HO_509000.out hb
             replace HO_509002 := mbV_ HO_509002.out hb
             replace HO_521000 := mbV_ HO_521000.out hb
             replace HO_521002 := mbV_ HO_521002.out hb
             replace BK463 := mvB_ BK463.out hb
             replace BK464 := mvB_ BK464.out hb
             replace BK465 := mvB_ BK465.out hb
             replace BK484 := mvB_ BK484.out hb
             replace BK496 := mvB_ BK496.out hb
             replace BK508 := mvB_ BK508.out hb
             replace BK520 := mvB_ BK520.out hb
             replace HB := Aside0.mk (below_step (by repeat (first | (with_reducible first | exact HB.out | apply below_alloc | apply pw_below_drewN | apply below_drew1 | refine below_set ?_ GE463.out | refine below_set ?_ GE464.out | refine below_set ?_ GE465.out | refine below_set ?_ GE484.out | refine below_set ?_ GE496.out | refine below_set ?_ GE508.out | refine below_set ?_ GE520.out) | exact HB.out)) hb)
             (try clear hb)
             (try clear hb2)
             (try clear hk)
             (try clear hi)
             (try clear ho0)
             refine hK.out _ _ ⟨(blk_cell BK508.out 0).trans rfl, (blk_cell BK508.out 1).trans rfl, (blk_cell BK508.out 2).trans rfl, (blk_cell BK520.out 0).trans rfl, (blk_cell BK520.out 1).trans rfl, (blk_cell BK520.out 2).trans rfl⟩ (fun hHeld => ?_)
             clear hK K
             refine norm_ (a' := ?_) ?_ ?_
             rotate_left
             ·show Act.put _ (some 126) _ = _
              simp only [Act.put, sA_, sB_, sC_, i64_w, i32_w]
              rfl
             refine one_ (i := 25) (N := some 130) L5_30 rfl rfl (one_of HT_.out (by kernel_rfl)) (by decide) (fun K hK => ?_)
             refine goes_ Try.func11 (by kernel_rfl) rfl #[.agg #[.slice Ao105 t512.length co105, .int .i64 t515, .slice Ao113 t516.length co113], .int .i64 t515] (by rfl) rfl rfl (by (try simp only [List.map_toArray, List.map_cons, List.map_nil]); first | done | rfl | (simp only [List.length_drop, List.length_take]; rfl)) ?_
             with_reducible refine (store_All.calls kj48 _ _ t512 t515 _ _ t516 t515 t525 _ ?side1 ?side2 ?side3 ?side4 A234.out).mono ?_
             (case side1 => exact mvC_ ((Kd.V_reads' HO_521000.out).2.2))
             (case side2 => exact (Kd.V_reads' HO_521000.out).2.1)
             (case side3 => exact mvC_ ((Kd.V_reads' HO_521002.out).2.2))
             (case side4 => exact (Kd.V_reads' HO_521002.out).2.1)
             rintro e w256 ⟨v526, rfl, ho0, hb⟩
             refine ⟨_, rfl, ?_⟩
             have HO527 := Aside0.mk (Kd.N_lower (Kd.N_mono (ok' := fun k_ => ((P0_0_ k_ ∨ P0_2_ k_ ∨ P2_1_ k_ ∨ P2_2_ k_ ∨ P3_1_ k_ ∨ P3_2_ k_) ∨ w.heap.size ≤ k_) ∧ k_ ≠ gb463 ∧ k_ ≠ gb464 ∧ k_ ≠ gb465 ∧ k_ ≠ gb484 ∧ k_ ≠ gb496 ∧ k_ ≠ gb508 ∧ k_ ≠ gb520) (Kd.R_N (Kd.R_bound ho0)) (fun k_ hk_ => ⟨(.inr (Nat.le_trans (below_size (by repeat (first | (with_reducible first | exact HB.out | apply below_alloc | apply pw_below_drewN | apply below_drew1 | refine below_set ?_ GE463.out | refine below_set ?_ GE464.out | refine below_set ?_ GE465.out | refine below_set ?_ GE484.out | refine below_set ?_ GE496.out | refine below_set ?_ GE508.out | refine below_set ?_ GE520.out) | exact HB.out))) hk_.2.1)), (Kd.freshB (g := gb463) (o := .cells #[.slice A0_0 l0_0.length c0_0, .int .i64 a0_1, .slice A0_2 l0_2.length c0_2] 25 (0, 0)) (mvK_ BK463.out) k_ hk_.2.1), (Kd.freshB (g := gb464) (o := .cells #[.int .i64 a2_0, .slice A2_1 l2_1.length c2_1, .slice A2_2 l2_2.length c2_2] 42 (0, 0)) (mvK_ BK464.out) k_ hk_.2.1), (Kd.freshB (g := gb465) (o := .cells #[.int .i64 a3_0, .slice A3_1 l3_1.length c3_1, .slice A3_2 l3_2.length c3_2] 42 (0, 0)) (mvK_ BK465.out) k_ hk_.2.1), (Kd.freshB (g := gb484) (o := .cells #[.slice Ao60 t476.length co60, .int .i64 t479, .slice Ao65 t480.length co65] 25 (0, 0)) (mvK_ BK484.out) k_ hk_.2.1), (Kd.freshB (g := gb496) (o := .cells #[.slice Ao74 t488.length co74, .int .i64 t491, .slice Ao80 t492.length co80] 25 (0, 0)) (mvK_ BK496.out) k_ hk_.2.1), (Kd.freshB (g := gb508) (o := .cells #[.slice Ao89 t500.length co89, .int .i64 t503, .slice Ao96 t504.length co96] 25 (0, 0)) (mvK_ BK508.out) k_ hk_.2.1), (Kd.freshB (g := gb520) (o := .cells #[.slice Ao105 t512.length co105, .int .i64 t515, .slice Ao113 t516.length co113] 25 (0, 0)) (mvK_ BK520.out) k_ hk_.2.1)⟩)) (below_size (by repeat (first | (with_reducible first | exact HB.out | apply below_alloc | apply pw_below_drewN | apply below_drew1 | refine below_set ?_ GE463.out | refine below_set ?_ GE464.out | refine below_set ?_ GE465.out | refine below_set ?_ GE484.out | refine below_set ?_ GE496.out | refine below_set ?_ GE508.out | refine below_set ?_ GE520.out) | exact HB.out))))
             replace HO_464000 := mbV_ HO_464000.out hb
             replace HO_464002 := mbV_ HO_464002.out hb
             replace HO_465001 := mbV_ HO_465001.out hb
             replace HO_465002 := mbV_ HO_465002.out hb
             replace HO_466001 := mbV_ HO_466001.out hb
             replace HO_466002 := mbV_ HO_466002.out hb
             replace HO_485000 := mbV_ HO_485000.out hb
             replace HO_485002 := mbV_ HO_485002.out hb
             replace HO_497000 := mbV_ HO_497000.out hb
             replace HO_497002 := mbV_ HO_497002.out hb
             replace HO_509000 := mbV_ HO_509000.out hb
             replace HO_509002 := mbV_ HO_509002.out hb
             replace HO_521000 := mbV_ HO_521000.out hb
             replace HO_521002 := mbV_ HO_521002.out hb
             replace HO524 := mbN_ HO524.out hb
             replace BK463 := mvB_ BK463.out hb
             replace BK464 := mvB_ BK464.out hb
             replace BK465 := mvB_ BK465.out hb
             replace BK484 := mvB_ BK484.out hb
             replace BK496 := mvB_ BK496.out hb
             replace BK508 := mvB_ BK508.out hb
             replace BK520 := mvB_ BK520.out hb
             replace HB := Aside0.mk (below_step (by repeat (first | (with_reducible first | exact HB.out | apply below_alloc | apply pw_below_drewN | apply below_drew1 | refine below_set ?_ GE463.out | refine below_set ?_ GE464.out | refine below_set ?_ GE465.out | refine below_set ?_ GE484.out | refine below_set ?_ GE496.out | refine below_set ?_ GE508.out | refine below_set ?_ GE520.out) | exact HB.out)) hb)
             (try clear hb)
             (try clear hb2)
             (try clear hk)
             (try clear hi)
             (try clear ho0)
             obtain ⟨Ao257, co257, eo257⟩ := Kd.N_slice HO524.out
             (first | subst eo257 | (injection eo257 with f1_ f2_ f3_; have f4_ := f1_.symm; have f5_ := f3_.symm; clear f1_ f2_ f3_; subst f4_; subst f5_))
             obtain ⟨Ao258, co258, eo258⟩ := Kd.N_slice HO527.out
             (first | subst eo258 | (injection eo258 with f1_ f2_ f3_; have f4_ := f1_.symm; have f5_ := f3_.symm; clear f1_ f2_ f3_; subst f4_; subst f5_))
             refine hK.out _ _ ⟨(blk_cell BK508.out 0).trans rfl, (blk_cell BK508.out 1).trans rfl, (blk_cell BK508.out 2).trans rfl, (blk_cell BK520.out 0).trans rfl, (blk_cell BK520.out 1).trans rfl, (blk_cell BK520.out 2).trans rfl⟩ (fun hHeld => ?_)
             clear hK K
             refine norm_ (a' := ?_) ?_ ?_
             rotate_left
             ·show Act.put _ (some 130) _ = _
              simp only [Act.put, sA_, sB_, sC_, i64_w, i32_w]
              rfl
             refine one_ (i := 26) (N := some 131) L5_31 rfl rfl (one_of HT_.out (by kernel_rfl)) (by decide) (fun K hK => ?_)
             refine goes_ Try.func18 (by kernel_rfl) rfl #[.slice Ao257 t522.length co257, .slice Ao258 t525.length co258] (by rfl) rfl rfl (by (try simp only [List.map_toArray, List.map_cons, List.map_nil]); first | done | rfl | (simp only [List.length_drop, List.length_take]; rfl)) ?_
             with_reducible refine (fullerref09_Same.calls kj48 _ _ t522 _ _ t525 t528 _ ?side1 ?side2 ?side3 ?side4 A235.out).mono ?_
             (case side1 => exact mvC_ ((Kd.N_reads' HO524.out).2.2))
             (case side2 => exact (Kd.N_reads' HO524.out).2.1)
             (case side3 => exact mvC_ ((Kd.N_reads' HO527.out).2.2))
             (case side4 => exact (Kd.N_reads' HO527.out).2.1)
             rintro e w259 ⟨rfl, hb⟩
             refine ⟨_, rfl, ?_⟩
             replace HO_464000 := mbV_ HO_464000.out hb
             replace HO_464002 := mbV_ HO_464002.out hb
             replace HO_465001 := mbV_ HO_465001.out hb
             replace HO_465002 := mbV_ HO_465002.out hb
             replace HO_466001 := mbV_ HO_466001.out hb
             replace HO_466002 := mbV_ HO_466002.out hb
             replace HO_485000 := mbV_ HO_485000.out hb
             replace HO_485002 := mbV_ HO_485002.out hb
             replace HO_497000 := mbV_ HO_497000.out hb
             replace HO_497002 := mbV_ HO_497002.out hb
             replace HO_509000 := mbV_ HO_509000.out hb
             replace HO_509002 := mbV_ HO_509002.out hb
             replace HO_521000 := mbV_ HO_521000.out hb
             replace HO_521002 := mbV_ HO_521002.out hb
             replace HO524 := mbN_ HO524.out hb
             replace HO527 := mbN_ HO527.out hb
             replace BK463 := mvB_ BK463.out hb
             replace BK464 := mvB_ BK464.out hb
             replace BK465 := mvB_ BK465.out hb
             replace BK484 := mvB_ BK484.out hb
             replace BK496 := mvB_ BK496.out hb
             replace BK508 := mvB_ BK508.out hb
             replace BK520 := mvB_ BK520.out hb
             replace HB := Aside0.mk (below_step (by repeat (first | (with_reducible first | exact HB.out | apply below_alloc | apply pw_below_drewN | apply below_drew1 | refine below_set ?_ GE463.out | refine below_set ?_ GE464.out | refine below_set ?_ GE465.out | refine below_set ?_ GE484.out | refine below_set ?_ GE496.out | refine below_set ?_ GE508.out | refine below_set ?_ GE520.out) | exact HB.out)) hb)
             (try clear hb)
             (try clear hb2)
             (try clear hk)
             (try clear hi)
             refine hK.out _ _ ⟨(blk_cell BK508.out 0).trans rfl, (blk_cell BK508.out 1).trans rfl, (blk_cell BK508.out 2).trans rfl, (blk_cell BK520.out 0).trans rfl, (blk_cell BK520.out 1).trans rfl, (blk_cell BK520.out 2).trans rfl⟩ (fun hHeld => ?_)
             clear hK K
             refine norm_ (a' := ?_) ?_ ?_
             rotate_left
             ·show Act.put _ (some 131) _ = _
              simp only [Act.put, sA_, sB_, sC_, i64_w, i32_w]
              rfl
             refine pu_ 27 (some 132) L5_5 HT_ ?_
             refine pu_ 28 (some 133) L5_6 HT_ ?_
             refine pu_ 29 (some 134) L5_7 HT_ ?_
             refine pu_ 30 (some 8) L5_8 HT_ ?_
             refine done_ (done_of HT_.out (by kernel_rfl)) ?_
             try go_wp2
             go_ret
             exact ⟨by first | rfl | (simp <;> rfl) | (simp [*] <;> rfl), by repeat (first | (with_reducible first | exact HB.out | apply below_alloc | apply pw_below_drewN | apply below_drew1 | refine below_set ?_ GE463.out | refine below_set ?_ GE464.out | refine below_set ?_ GE465.out | refine below_set ?_ GE484.out | refine below_set ?_ GE496.out | refine below_set ?_ GE508.out | refine below_set ?_ GE520.out) | exact HB.out)⟩
            ·rw [if_neg c232] at H
             have c232b0 : (t503 == t515) = false := beq_eq_false_iff_ne.mpr c232
             have c232b1 : (t503 != t515) = true := bne_iff_ne.mpr c232
             obtain rfl := Option.some.inj H
             have hnb260 := NB463_464.out
             have hnc260 := NB464_463.out
             have hnb261 := NB463_465.out
             have hnc261 := NB465_463.out
             have hnb262 := NB463_484.out
             have hnc262 := NB484_463.out
             have hnb263 := NB463_496.out
             have hnc263 := NB496_463.out
             have hnb264 := NB463_508.out
             have hnc264 := NB508_463.out
             have hnb265 := NB463_520.out
             have hnc265 := NB520_463.out
             have hcz266_0 := cz0_ BK463.out
             have hcz266_1 := cz1_ BK463.out
             have hcz266_2 := cz2_ BK463.out
             have hfz266_0 := blk_frozen BK463.out 0
             have hfz266_1 := blk_frozen BK463.out 1
             have hfz266_2 := blk_frozen BK463.out 2
             have hnb267 := NB464_465.out
             have hnc267 := NB465_464.out
             have hnb268 := NB464_484.out
             have hnc268 := NB484_464.out
             have hnb269 := NB464_496.out
             have hnc269 := NB496_464.out
             have hnb270 := NB464_508.out
             have hnc270 := NB508_464.out
             have hnb271 := NB464_520.out
             have hnc271 := NB520_464.out
             have hcz272_0 := cz0_ BK464.out
             have hcz272_1 := cz1_ BK464.out
             have hcz272_2 := cz2_ BK464.out
             have hfz272_0 := blk_frozen BK464.out 0
             have hfz272_1 := blk_frozen BK464.out 1
             have hfz272_2 := blk_frozen BK464.out 2
             have hnb273 := NB465_484.out
             have hnc273 := NB484_465.out
             have hnb274 := NB465_496.out
             have hnc274 := NB496_465.out
             have hnb275 := NB465_508.out
             have hnc275 := NB508_465.out
             have hnb276 := NB465_520.out
             have hnc276 := NB520_465.out
             have hcz277_0 := cz0_ BK465.out
             have hcz277_1 := cz1_ BK465.out
             have hcz277_2 := cz2_ BK465.out
             have hfz277_0 := blk_frozen BK465.out 0
             have hfz277_1 := blk_frozen BK465.out 1
             have hfz277_2 := blk_frozen BK465.out 2
             try go_wp2
             replace HO_464000 := Aside0.mk (Kd.V_drew HO_464000.out)
             replace HO_464002 := Aside0.mk (Kd.V_drew HO_464002.out)
             replace HO_465001 := Aside0.mk (Kd.V_drew HO_465001.out)
             replace HO_465002 := Aside0.mk (Kd.V_drew HO_465002.out)
             replace HO_466001 := Aside0.mk (Kd.V_drew HO_466001.out)
             replace HO_466002 := Aside0.mk (Kd.V_drew HO_466002.out)
             replace HO_485000 := Aside0.mk (Kd.V_drew HO_485000.out)
             replace HO_485002 := Aside0.mk (Kd.V_drew HO_485002.out)
             replace HO_497000 := Aside0.mk (Kd.V_drew HO_497000.out)
             replace HO_497002 := Aside0.mk (Kd.V_drew HO_497002.out)
             replace HO_509000 := Aside0.mk (Kd.V_drew HO_509000.out)
             replace HO_509002 := Aside0.mk (Kd.V_drew HO_509002.out)
             replace HO_521000 := Aside0.mk (Kd.V_drew HO_521000.out)
             replace HO_521002 := Aside0.mk (Kd.V_drew HO_521002.out)
             replace BK463 := Aside0.mk (blk_drew BK463.out)
             replace BK464 := Aside0.mk (blk_drew BK464.out)
             replace BK465 := Aside0.mk (blk_drew BK465.out)
             replace BK484 := Aside0.mk (blk_drew BK484.out)
             replace BK496 := Aside0.mk (blk_drew BK496.out)
             replace BK508 := Aside0.mk (blk_drew BK508.out)
             replace BK520 := Aside0.mk (blk_drew BK520.out)
             replace HB := Aside0.mk (below_drew1 HB.out)
             refine start_ (n := 31) (S := fun w' => w'.cell? ⟨gb508, 0, none⟩ = some (.slice Ao89 t500.length co89) ∧ w'.cell? ⟨gb508, 1, none⟩ = some (.int .i64 t503) ∧ w'.cell? ⟨gb508, 2, none⟩ = some (.slice Ao96 t504.length co96) ∧ w'.cell? ⟨gb520, 0, none⟩ = some (.slice Ao105 t512.length co105) ∧ w'.cell? ⟨gb520, 1, none⟩ = some (.int .i64 t515) ∧ w'.cell? ⟨gb520, 2, none⟩ = some (.slice Ao113 t516.length co113)) (ds := []) L5_0 (by kernel_rfl) rfl rfl ⟨(blk_cell BK508.out 0).trans rfl, (blk_cell BK508.out 1).trans rfl, (blk_cell BK508.out 2).trans rfl, (blk_cell BK520.out 0).trans rfl, (blk_cell BK520.out 1).trans rfl, (blk_cell BK520.out 2).trans rfl⟩ (fun hHeld => ?_); refine with_tabW fullerlaw18_StoreApart.tab13 fullerlaw18_StoreApart.bits13 (fun HT_ HW_ => ?_)
             generalize wc.drew = w278 at HO_464000 HO_464002 HO_465001 HO_465002 HO_466001 HO_466002 HO_485000 HO_485002 HO_497000 HO_497002 HO_509000 HO_509002 HO_521000 HO_521002 BK463 BK464 BK465 BK484 BK496 BK508 BK520 HB hHeld ⊢
             refine pu_ 0 (some 105) L5_1 HT_ ?_
             refine pu_ 1 (some 106) L5_2 HT_ ?_
             refine pu_ 2 (some 107) L5_3 HT_ ?_
             refine pu_ 3 (some 108) L5_4 HT_ ?_
             refine pu_ 4 (some 109) L5_9 HT_ ?_
             refine pu_ 5 (some 110) L5_10 HT_ ?_
             refine pu_ 6 (some 111) L5_11 HT_ ?_
             refine pu_ 7 (some 112) L5_12 HT_ ?_
             refine pu_ 8 (some 113) L5_13 HT_ ?_
             refine pu_ 9 (some 114) L5_14 HT_ ?_
             refine pu_ 10 (some 115) L5_15 HT_ ?_
             refine pu_ 11 (some 116) L5_16 HT_ ?_
             refine pu_ 13 (some 118) L5_17 HT_ ?_
             refine ta_ 12 (some 117) L5_18 HT_ HW_ hHeld ?_ (hy := by rintro w' ⟨s0, s1, s2, s3, s4, s5⟩; go_simp; with_reducible rfl)
             refine ta_ 14 (some 119) L5_19 HT_ HW_ hHeld ?_ (hy := by rintro w' ⟨s0, s1, s2, s3, s4, s5⟩; go_simp; with_reducible rfl)
             refine pu_ 15 (some 120) L5_20 HT_ ?_
             refine pu_ 16 (some 121) L5_21 HT_ ?_
             refine pu_ 17 (some 122) L5_22 HT_ ?_
             refine skips_ (fuel := 4) (m := 13) HT_.out (fun _ _ _ _ _ h => h) [(18, 123), (19, 124), (20, 125), (21, 126), (22, 127), (23, 128), (24, 129), (25, 130), (26, 131)] L5_31 rfl (by kernel_rfl) (by kernel_rfl) (a' := ?_) ?_ ?_
             rotate_left
             ·simp only [putU, Act.put, sA_, sB_, sC_]
              rfl
             refine pu_ 27 (some 132) L5_5 HT_ ?_
             refine pu_ 28 (some 133) L5_6 HT_ ?_
             refine pu_ 29 (some 134) L5_7 HT_ ?_
             refine pu_ 30 (some 8) L5_8 HT_ ?_
             refine done_ (done_of HT_.out (by kernel_rfl)) ?_
             try go_wp2
             go_ret
             exact ⟨by first | rfl | (simp <;> rfl) | (simp [*] <;> rfl), by repeat (first | (with_reducible first | exact HB.out | apply below_alloc | apply pw_below_drewN | apply below_drew1 | refine below_set ?_ GE463.out | refine below_set ?_ GE464.out | refine below_set ?_ GE465.out | refine below_set ?_ GE484.out | refine below_set ?_ GE496.out | refine below_set ?_ GE508.out | refine below_set ?_ GE520.out) | exact HB.out)⟩
           ·rw [if_neg c231] at H
            have c231b0 : (t519 == 0) = false := beq_eq_false_iff_ne.mpr c231
            have c231b1 : (t519 != 0) = true := bne_iff_ne.mpr c231
            obtain rfl := Option.some.inj H
            have hnb279 := NB463_464.out
            have hnc279 := NB464_463.out
            have hnb280 := NB463_465.out
            have hnc280 := NB465_463.out
            have hnb281 := NB463_484.out
            have hnc281 := NB484_463.out
            have hnb282 := NB463_496.out
            have hnc282 := NB496_463.out
            have hnb283 := NB463_508.out
            have hnc283 := NB508_463.out
            have hnb284 := NB463_520.out
            have hnc284 := NB520_463.out
            have hcz285_0 := cz0_ BK463.out
            have hcz285_1 := cz1_ BK463.out
            have hcz285_2 := cz2_ BK463.out
            have hfz285_0 := blk_frozen BK463.out 0
            have hfz285_1 := blk_frozen BK463.out 1
            have hfz285_2 := blk_frozen BK463.out 2
            have hnb286 := NB464_465.out
            have hnc286 := NB465_464.out
            have hnb287 := NB464_484.out
            have hnc287 := NB484_464.out
            have hnb288 := NB464_496.out
            have hnc288 := NB496_464.out
            have hnb289 := NB464_508.out
            have hnc289 := NB508_464.out
            have hnb290 := NB464_520.out
            have hnc290 := NB520_464.out
            have hcz291_0 := cz0_ BK464.out
            have hcz291_1 := cz1_ BK464.out
            have hcz291_2 := cz2_ BK464.out
            have hfz291_0 := blk_frozen BK464.out 0
            have hfz291_1 := blk_frozen BK464.out 1
            have hfz291_2 := blk_frozen BK464.out 2
            have hnb292 := NB465_484.out
            have hnc292 := NB484_465.out
            have hnb293 := NB465_496.out
            have hnc293 := NB496_465.out
            have hnb294 := NB465_508.out
            have hnc294 := NB508_465.out
            have hnb295 := NB465_520.out
            have hnc295 := NB520_465.out
            have hcz296_0 := cz0_ BK465.out
            have hcz296_1 := cz1_ BK465.out
            have hcz296_2 := cz2_ BK465.out
            have hfz296_0 := blk_frozen BK465.out 0
            have hfz296_1 := blk_frozen BK465.out 1
            have hfz296_2 := blk_frozen BK465.out 2
            try go_wp2
            replace HO_464000 := Aside0.mk (Kd.V_drew HO_464000.out)
            replace HO_464002 := Aside0.mk (Kd.V_drew HO_464002.out)
            replace HO_465001 := Aside0.mk (Kd.V_drew HO_465001.out)
            replace HO_465002 := Aside0.mk (Kd.V_drew HO_465002.out)
            replace HO_466001 := Aside0.mk (Kd.V_drew HO_466001.out)
            replace HO_466002 := Aside0.mk (Kd.V_drew HO_466002.out)
            replace HO_485000 := Aside0.mk (Kd.V_drew HO_485000.out)
            replace HO_485002 := Aside0.mk (Kd.V_drew HO_485002.out)
            replace HO_497000 := Aside0.mk (Kd.V_drew HO_497000.out)
            replace HO_497002 := Aside0.mk (Kd.V_drew HO_497002.out)
            replace HO_509000 := Aside0.mk (Kd.V_drew HO_509000.out)
            replace HO_509002 := Aside0.mk (Kd.V_drew HO_509002.out)
            replace HO_521000 := Aside0.mk (Kd.V_drew HO_521000.out)
            replace HO_521002 := Aside0.mk (Kd.V_drew HO_521002.out)
            replace BK463 := Aside0.mk (blk_drew BK463.out)
            replace BK464 := Aside0.mk (blk_drew BK464.out)
            replace BK465 := Aside0.mk (blk_drew BK465.out)
            replace BK484 := Aside0.mk (blk_drew BK484.out)
            replace BK496 := Aside0.mk (blk_drew BK496.out)
            replace BK508 := Aside0.mk (blk_drew BK508.out)
            replace BK520 := Aside0.mk (blk_drew BK520.out)
            replace HB := Aside0.mk (below_drew1 HB.out)
            refine start_ (n := 31) (S := fun w' => True) (ds := []) L5_0 (by kernel_rfl) rfl rfl trivial (fun hHeld => ?_); refine with_tabW fullerlaw18_StoreApart.tab13 fullerlaw18_StoreApart.bits13 (fun HT_ HW_ => ?_)
            generalize wc.drew = w297 at HO_464000 HO_464002 HO_465001 HO_465002 HO_466001 HO_466002 HO_485000 HO_485002 HO_497000 HO_497002 HO_509000 HO_509002 HO_521000 HO_521002 BK463 BK464 BK465 BK484 BK496 BK508 BK520 HB hHeld ⊢
            refine pu_ 0 (some 105) L5_1 HT_ ?_
            refine pu_ 1 (some 106) L5_2 HT_ ?_
            refine pu_ 2 (some 107) L5_3 HT_ ?_
            refine pu_ 3 (some 108) L5_4 HT_ ?_
            refine pu_ 4 (some 109) L5_9 HT_ ?_
            refine pu_ 5 (some 110) L5_10 HT_ ?_
            refine pu_ 6 (some 111) L5_11 HT_ ?_
            refine pu_ 7 (some 112) L5_12 HT_ ?_
            refine pu_ 8 (some 113) L5_13 HT_ ?_
            refine pu_ 9 (some 114) L5_14 HT_ ?_
            refine pu_ 10 (some 115) L5_15 HT_ ?_
            refine skips_ (fuel := 15) (m := 20) HT_.out (fun _ _ _ _ _ h => h) [(11, 116), (12, 117), (13, 118), (14, 119), (15, 120)] L5_20 rfl (by kernel_rfl) (by kernel_rfl) (a' := ?_) ?_ ?_
            rotate_left
            ·simp only [putU, Act.put, sA_, sB_, sC_]
             rfl
            refine pu_ 16 (some 121) L5_21 HT_ ?_
            refine pu_ 17 (some 122) L5_22 HT_ ?_
            refine skips_ (fuel := 4) (m := 13) HT_.out (fun _ _ _ _ _ h => h) [(18, 123), (19, 124), (20, 125), (21, 126), (22, 127), (23, 128), (24, 129), (25, 130), (26, 131)] L5_31 rfl (by kernel_rfl) (by kernel_rfl) (a' := ?_) ?_ ?_
            rotate_left
            ·simp only [putU, Act.put, sA_, sB_, sC_]
             rfl
            refine pu_ 27 (some 132) L5_5 HT_ ?_
            refine pu_ 28 (some 133) L5_6 HT_ ?_
            refine pu_ 29 (some 134) L5_7 HT_ ?_
            refine pu_ 30 (some 8) L5_8 HT_ ?_
            refine done_ (done_of HT_.out (by kernel_rfl)) ?_
            try go_wp2
            go_ret
            exact ⟨by first | rfl | (simp <;> rfl) | (simp [*] <;> rfl), by repeat (first | (with_reducible first | exact HB.out | apply below_alloc | apply pw_below_drewN | apply below_drew1 | refine below_set ?_ GE463.out | refine below_set ?_ GE464.out | refine below_set ?_ GE465.out | refine below_set ?_ GE484.out | refine below_set ?_ GE496.out | refine below_set ?_ GE508.out | refine below_set ?_ GE520.out) | exact HB.out)⟩
          ·rw [if_neg c230] at H
           have c230b0 : (t507 == 0) = false := beq_eq_false_iff_ne.mpr c230
           have c230b1 : (t507 != 0) = true := bne_iff_ne.mpr c230
           obtain rfl := Option.some.inj H
           have hnb298 := NB463_464.out
           have hnc298 := NB464_463.out
           have hnb299 := NB463_465.out
           have hnc299 := NB465_463.out
           have hnb300 := NB463_484.out
           have hnc300 := NB484_463.out
           have hnb301 := NB463_496.out
           have hnc301 := NB496_463.out
           have hnb302 := NB463_508.out
           have hnc302 := NB508_463.out
           have hnb303 := NB463_520.out
           have hnc303 := NB520_463.out
           have hcz304_0 := cz0_ BK463.out
           have hcz304_1 := cz1_ BK463.out
           have hcz304_2 := cz2_ BK463.out
           have hfz304_0 := blk_frozen BK463.out 0
           have hfz304_1 := blk_frozen BK463.out 1
           have hfz304_2 := blk_frozen BK463.out 2
           have hnb305 := NB464_465.out
           have hnc305 := NB465_464.out
           have hnb306 := NB464_484.out
           have hnc306 := NB484_464.out
           have hnb307 := NB464_496.out
           have hnc307 := NB496_464.out
           have hnb308 := NB464_508.out
           have hnc308 := NB508_464.out
           have hnb309 := NB464_520.out
           have hnc309 := NB520_464.out
           have hcz310_0 := cz0_ BK464.out
           have hcz310_1 := cz1_ BK464.out
           have hcz310_2 := cz2_ BK464.out
           have hfz310_0 := blk_frozen BK464.out 0
           have hfz310_1 := blk_frozen BK464.out 1
           have hfz310_2 := blk_frozen BK464.out 2
           have hnb311 := NB465_484.out
           have hnc311 := NB484_465.out
           have hnb312 := NB465_496.out
           have hnc312 := NB496_465.out
           have hnb313 := NB465_508.out
           have hnc313 := NB508_465.out
           have hnb314 := NB465_520.out
           have hnc314 := NB520_465.out
           have hcz315_0 := cz0_ BK465.out
           have hcz315_1 := cz1_ BK465.out
           have hcz315_2 := cz2_ BK465.out
           have hfz315_0 := blk_frozen BK465.out 0
           have hfz315_1 := blk_frozen BK465.out 1
           have hfz315_2 := blk_frozen BK465.out 2
           try go_wp2
           replace HO_464000 := Aside0.mk (Kd.V_drew HO_464000.out)
           replace HO_464002 := Aside0.mk (Kd.V_drew HO_464002.out)
           replace HO_465001 := Aside0.mk (Kd.V_drew HO_465001.out)
           replace HO_465002 := Aside0.mk (Kd.V_drew HO_465002.out)
           replace HO_466001 := Aside0.mk (Kd.V_drew HO_466001.out)
           replace HO_466002 := Aside0.mk (Kd.V_drew HO_466002.out)
           replace HO_485000 := Aside0.mk (Kd.V_drew HO_485000.out)
           replace HO_485002 := Aside0.mk (Kd.V_drew HO_485002.out)
           replace HO_497000 := Aside0.mk (Kd.V_drew HO_497000.out)
           replace HO_497002 := Aside0.mk (Kd.V_drew HO_497002.out)
           replace HO_509000 := Aside0.mk (Kd.V_drew HO_509000.out)
           replace HO_509002 := Aside0.mk (Kd.V_drew HO_509002.out)
           replace HO_521000 := Aside0.mk (Kd.V_drew HO_521000.out)
           replace HO_521002 := Aside0.mk (Kd.V_drew HO_521002.out)
           replace BK463 := Aside0.mk (blk_drew BK463.out)
           replace BK464 := Aside0.mk (blk_drew BK464.out)
           replace BK465 := Aside0.mk (blk_drew BK465.out)
           replace BK484 := Aside0.mk (blk_drew BK484.out)
           replace BK496 := Aside0.mk (blk_drew BK496.out)
           replace BK508 := Aside0.mk (blk_drew BK508.out)
           replace BK520 := Aside0.mk (blk_drew BK520.out)
           replace HB := Aside0.mk (below_drew1 HB.out)
           refine start_ (n := 31) (S := fun w' => True) (ds := []) L5_0 (by kernel_rfl) rfl rfl trivial (fun hHeld => ?_); refine with_tabW fullerlaw18_StoreApart.tab13 fullerlaw18_StoreApart.bits13 (fun HT_ HW_ => ?_)
           generalize wc.drew = w316 at HO_464000 HO_464002 HO_465001 HO_465002 HO_466001 HO_466002 HO_485000 HO_485002 HO_497000 HO_497002 HO_509000 HO_509002 HO_521000 HO_521002 BK463 BK464 BK465 BK484 BK496 BK508 BK520 HB hHeld ⊢
           refine pu_ 0 (some 105) L5_1 HT_ ?_
           refine pu_ 1 (some 106) L5_2 HT_ ?_
           refine pu_ 2 (some 107) L5_3 HT_ ?_
           refine pu_ 3 (some 108) L5_4 HT_ ?_
           refine pu_ 4 (some 109) L5_9 HT_ ?_
           refine pu_ 5 (some 110) L5_10 HT_ ?_
           refine pu_ 6 (some 111) L5_11 HT_ ?_
           refine skips_ (fuel := 22) (m := 24) HT_.out (fun _ _ _ _ _ h => h) [(7, 112), (8, 113)] L5_13 rfl (by kernel_rfl) (by kernel_rfl) (a' := ?_) ?_ ?_
           rotate_left
           ·simp only [putU, Act.put, sA_, sB_, sC_]
            rfl
           refine pu_ 9 (some 114) L5_14 HT_ ?_
           refine pu_ 10 (some 115) L5_15 HT_ ?_
           refine skips_ (fuel := 15) (m := 20) HT_.out (fun _ _ _ _ _ h => h) [(11, 116), (12, 117), (13, 118), (14, 119), (15, 120)] L5_20 rfl (by kernel_rfl) (by kernel_rfl) (a' := ?_) ?_ ?_
           rotate_left
           ·simp only [putU, Act.put, sA_, sB_, sC_]
            rfl
           refine pu_ 16 (some 121) L5_21 HT_ ?_
           refine pu_ 17 (some 122) L5_22 HT_ ?_
           refine skips_ (fuel := 4) (m := 13) HT_.out (fun _ _ _ _ _ h => h) [(18, 123), (19, 124), (20, 125), (21, 126), (22, 127), (23, 128), (24, 129), (25, 130), (26, 131)] L5_31 rfl (by kernel_rfl) (by kernel_rfl) (a' := ?_) ?_ ?_
           rotate_left
           ·simp only [putU, Act.put, sA_, sB_, sC_]
            rfl
           refine pu_ 27 (some 132) L5_5 HT_ ?_
           refine pu_ 28 (some 133) L5_6 HT_ ?_
           refine pu_ 29 (some 134) L5_7 HT_ ?_
           refine pu_ 30 (some 8) L5_8 HT_ ?_
           refine done_ (done_of HT_.out (by kernel_rfl)) ?_
           try go_wp2
           go_ret
           exact ⟨by first | rfl | (simp <;> rfl) | (simp [*] <;> rfl), by repeat (first | (with_reducible first | exact HB.out | apply below_alloc | apply pw_below_drewN | apply below_drew1 | refine below_set ?_ GE463.out | refine below_set ?_ GE464.out | refine below_set ?_ GE465.out | refine below_set ?_ GE484.out | refine below_set ?_ GE496.out | refine below_set ?_ GE508.out | refine below_set ?_ GE520.out) | exact HB.out)⟩
        ·replace c209 := Bool.eq_false_iff.mpr c209
         subst c209
         have H1 : (some false) = some r := by rw [if_neg (show ¬ (false = true) by decide)] at H; exact H
         clear H
         have H := H1
         clear H1
         obtain rfl := Option.some.inj H
         have hnb317 := NB463_464.out
         have hnc317 := NB464_463.out
         have hnb318 := NB463_465.out
         have hnc318 := NB465_463.out
         have hnb319 := NB463_484.out
         have hnc319 := NB484_463.out
         have hnb320 := NB463_496.out
         have hnc320 := NB496_463.out
         have hnb321 := NB463_508.out
         have hnc321 := NB508_463.out
         have hnb322 := NB463_520.out
         have hnc322 := NB520_463.out
         have hcz323_0 := cz0_ BK463.out
         have hcz323_1 := cz1_ BK463.out
         have hcz323_2 := cz2_ BK463.out
         have hfz323_0 := blk_frozen BK463.out 0
         have hfz323_1 := blk_frozen BK463.out 1
         have hfz323_2 := blk_frozen BK463.out 2
         have hnb324 := NB464_465.out
         have hnc324 := NB465_464.out
         have hnb325 := NB464_484.out
         have hnc325 := NB484_464.out
         have hnb326 := NB464_496.out
         have hnc326 := NB496_464.out
         have hnb327 := NB464_508.out
         have hnc327 := NB508_464.out
         have hnb328 := NB464_520.out
         have hnc328 := NB520_464.out
         have hcz329_0 := cz0_ BK464.out
         have hcz329_1 := cz1_ BK464.out
         have hcz329_2 := cz2_ BK464.out
         have hfz329_0 := blk_frozen BK464.out 0
         have hfz329_1 := blk_frozen BK464.out 1
         have hfz329_2 := blk_frozen BK464.out 2
         have hnb330 := NB465_484.out
         have hnc330 := NB484_465.out
         have hnb331 := NB465_496.out
         have hnc331 := NB496_465.out
         have hnb332 := NB465_508.out
         have hnc332 := NB508_465.out
         have hnb333 := NB465_520.out
         have hnc333 := NB520_465.out
         have hcz334_0 := cz0_ BK465.out
         have hcz334_1 := cz1_ BK465.out
         have hcz334_2 := cz2_ BK465.out
         have hfz334_0 := blk_frozen BK465.out 0
         have hfz334_1 := blk_frozen BK465.out 1
         have hfz334_2 := blk_frozen BK465.out 2
         try go_wp2
         replace HO_464000 := Aside0.mk (Kd.V_drew HO_464000.out)
         replace HO_464002 := Aside0.mk (Kd.V_drew HO_464002.out)
         replace HO_465001 := Aside0.mk (Kd.V_drew HO_465001.out)
         replace HO_465002 := Aside0.mk (Kd.V_drew HO_465002.out)
         replace HO_466001 := Aside0.mk (Kd.V_drew HO_466001.out)
         replace HO_466002 := Aside0.mk (Kd.V_drew HO_466002.out)
         replace HO_485000 := Aside0.mk (Kd.V_drew HO_485000.out)
         replace HO_485002 := Aside0.mk (Kd.V_drew HO_485002.out)
         replace HO_497000 := Aside0.mk (Kd.V_drew HO_497000.out)
         replace HO_497002 := Aside0.mk (Kd.V_drew HO_497002.out)
         replace HO_509000 := Aside0.mk (Kd.V_drew HO_509000.out)
         replace HO_509002 := Aside0.mk (Kd.V_drew HO_509002.out)
         replace HO_521000 := Aside0.mk (Kd.V_drew HO_521000.out)
         replace HO_521002 := Aside0.mk (Kd.V_drew HO_521002.out)
         replace BK463 := Aside0.mk (blk_drew BK463.out)
         replace BK464 := Aside0.mk (blk_drew BK464.out)
         replace BK465 := Aside0.mk (blk_drew BK465.out)
         replace BK484 := Aside0.mk (blk_drew BK484.out)
         replace BK496 := Aside0.mk (blk_drew BK496.out)
         replace BK508 := Aside0.mk (blk_drew BK508.out)
         replace BK520 := Aside0.mk (blk_drew BK520.out)
         replace HB := Aside0.mk (below_drew1 HB.out)
         refine start_ (n := 31) (S := fun w' => True) (ds := []) L5_0 (by kernel_rfl) rfl rfl trivial (fun hHeld => ?_); refine with_tabW fullerlaw18_StoreApart.tab13 fullerlaw18_StoreApart.bits13 (fun HT_ HW_ => ?_)
         generalize wc.drew = w335 at HO_464000 HO_464002 HO_465001 HO_465002 HO_466001 HO_466002 HO_485000 HO_485002 HO_497000 HO_497002 HO_509000 HO_509002 HO_521000 HO_521002 BK463 BK464 BK465 BK484 BK496 BK508 BK520 HB hHeld ⊢
         refine pu_ 0 (some 105) L5_1 HT_ ?_
         refine pu_ 1 (some 106) L5_2 HT_ ?_
         refine skips_ (fuel := 2) (m := 29) HT_.out (fun _ _ _ _ _ h => h) [(2, 107), (3, 108), (4, 109), (5, 110), (6, 111), (7, 112), (8, 113), (9, 114), (10, 115), (11, 116), (12, 117), (13, 118), (14, 119), (15, 120), (16, 121), (17, 122), (18, 123), (19, 124), (20, 125), (21, 126), (22, 127), (23, 128), (24, 129), (25, 130), (26, 131), (27, 132), (28, 133)] L5_6 rfl (by kernel_rfl) (by kernel_rfl) (a' := ?_) ?_ ?_
         rotate_left
         ·simp only [putU, Act.put, sA_, sB_, sC_]
          rfl
         refine pu_ 29 (some 134) L5_7 HT_ ?_
         refine pu_ 30 (some 8) L5_8 HT_ ?_
         refine done_ (done_of HT_.out (by kernel_rfl)) ?_
         try go_wp2
         go_ret
         exact ⟨by first | rfl | (simp <;> rfl) | (simp [*] <;> rfl), by repeat (first | (with_reducible first | exact HB.out | apply below_alloc | apply pw_below_drewN | apply below_drew1 | refine below_set ?_ GE463.out | refine below_set ?_ GE464.out | refine below_set ?_ GE465.out | refine below_set ?_ GE484.out | refine below_set ?_ GE496.out | refine below_set ?_ GE508.out | refine below_set ?_ GE520.out) | exact HB.out)⟩
def fullerlaw18_StoreApart.Pure : Prop := ∀ (l0_0 : List (List (S74))) (a0_1 : Int) (l0_2 : List Int) (a1 : Int) (a2_0 : Int) (l2_1 : List Int) (l2_2 : List Int) (a3_0 : Int) (l3_1 : List Int) (l3_2 : List Int), (l0_0.length * 24 ≤ 140737488351232 ∧ ∀ x_ ∈ l0_0, x_.length * 56 ≤ 140737488351232 ∧ ∀ y_ ∈ x_, OK74 y_) → ((Lit.int .i64 a0_1).wf = true) → (l0_2.length * 8 ≤ 140737488351232 ∧ ∀ x_ ∈ l0_2, (Lit.int .i64 x_).wf = true) → ((Lit.int .i64 a1).wf = true) → ((Lit.int .i64 a2_0).wf = true) → (l2_1.length * 8 ≤ 140737488351232 ∧ ∀ x_ ∈ l2_1, (Lit.int .i64 x_).wf = true) → (l2_2.length * 8 ≤ 140737488351232 ∧ ∀ x_ ∈ l2_2, (Lit.int .i64 x_).wf = true) → ((Lit.int .i64 a3_0).wf = true) → (l3_1.length * 8 ≤ 140737488351232 ∧ ∀ x_ ∈ l3_1, (Lit.int .i64 x_).wf = true) → (l3_2.length * 8 ≤ 140737488351232 ∧ ∀ x_ ∈ l3_2, (Lit.int .i64 x_).wf = true) → ∃ k, fullerlaw18_StoreApart.f k l0_0 a0_1 l0_2 a1 a2_0 l2_1 l2_2 a3_0 l3_1 l3_2 = some true
theorem fullerlaw18_StoreApart.walk (P : fullerlaw18_StoreApart.Pure) (P0_0_ : Nat → Prop) (A0_0 : Option Addr) (c0_0 : Nat) (l0_0 : List (List (S74))) (a0_1 : Int) (P0_2_ : Nat → Prop) (A0_2 : Option Addr) (c0_2 : Nat) (l0_2 : List Int) (a1 : Int) (a2_0 : Int) (P2_1_ : Nat → Prop) (A2_1 : Option Addr) (c2_1 : Nat) (l2_1 : List Int) (P2_2_ : Nat → Prop) (A2_2 : Option Addr) (c2_2 : Nat) (l2_2 : List Int) (a3_0 : Int) (P3_1_ : Nat → Prop) (A3_1 : Option Addr) (c3_1 : Nat) (l3_1 : List Int) (P3_2_ : Nat → Prop) (A3_2 : Option Addr) (c3_2 : Nat) (l3_2 : List Int) (w : World) (hr0_0 : Kd.C (Kd.slice 74 k74) w A0_0 l0_0.length l0_0) (hc0_0 : l0_0.length ≤ c0_0) (hr0_2 : Kd.C (Kd.int .i64) w A0_2 l0_2.length l0_2) (hc0_2 : l0_2.length ≤ c0_2) (hr2_1 : Kd.C (Kd.int .i64) w A2_1 l2_1.length l2_1) (hc2_1 : l2_1.length ≤ c2_1) (hr2_2 : Kd.C (Kd.int .i64) w A2_2 l2_2.length l2_2) (hc2_2 : l2_2.length ≤ c2_2) (hr3_1 : Kd.C (Kd.int .i64) w A3_1 l3_1.length l3_1) (hc3_1 : l3_1.length ≤ c3_1) (hr3_2 : Kd.C (Kd.int .i64) w A3_2 l3_2.length l3_2) (hc3_2 : l3_2.length ≤ c3_2) (hg0_0 : l0_0.length * 24 ≤ 140737488351232 ∧ ∀ x_ ∈ l0_0, x_.length * 56 ≤ 140737488351232 ∧ ∀ y_ ∈ x_, OK74 y_) (hg0_1 : (Lit.int .i64 a0_1).wf = true) (hg0_2 : l0_2.length * 8 ≤ 140737488351232 ∧ ∀ x_ ∈ l0_2, (Lit.int .i64 x_).wf = true) (hg1 : (Lit.int .i64 a1).wf = true) (hg2_0 : (Lit.int .i64 a2_0).wf = true) (hg2_1 : l2_1.length * 8 ≤ 140737488351232 ∧ ∀ x_ ∈ l2_1, (Lit.int .i64 x_).wf = true) (hg2_2 : l2_2.length * 8 ≤ 140737488351232 ∧ ∀ x_ ∈ l2_2, (Lit.int .i64 x_).wf = true) (hg3_0 : (Lit.int .i64 a3_0).wf = true) (hg3_1 : l3_1.length * 8 ≤ 140737488351232 ∧ ∀ x_ ∈ l3_1, (Lit.int .i64 x_).wf = true) (hg3_2 : l3_2.length * 8 ≤ 140737488351232 ∧ ∀ x_ ∈ l3_2, (Lit.int .i64 x_).wf = true) :
  Calls Try.prog 5 #[.agg #[.slice A0_0 l0_0.length c0_0, .int .i64 a0_1, .slice A0_2 l0_2.length c0_2], .int .i64 a1, .agg #[.int .i64 a2_0, .slice A2_1 l2_1.length c2_1, .slice A2_2 l2_2.length c2_2], .agg #[.int .i64 a3_0, .slice A3_1 l3_1.length c3_1, .slice A3_2 l3_2.length c3_2]] w fun e w' => e = .returned (.bool true) ∧ Below w.heap.size w w' := by
 obtain ⟨k, h⟩ := P l0_0 a0_1 l0_2 a1 a2_0 l2_1 l2_2 a3_0 l3_1 l3_2 hg0_0 hg0_1 hg0_2 hg1 hg2_0 hg2_1 hg2_2 hg3_0 hg3_1 hg3_2
 refine (fullerlaw18_StoreApart.calls k (fun k_ => k_ < w.heap.size) _ _ l0_0 a0_1 (fun k_ => k_ < w.heap.size) _ _ l0_2 a1 a2_0 (fun k_ => k_ < w.heap.size) _ _ l2_1 (fun k_ => k_ < w.heap.size) _ _ l2_2 a3_0 (fun k_ => k_ < w.heap.size) _ _ l3_1 (fun k_ => k_ < w.heap.size) _ _ l3_2 true w (Kd.V_mk hc0_0 (Kd.C_F (Kd.heap_slice 74 k74_heap) hr0_0)) (Kd.V_mk hc0_2 (Kd.C_F (Kd.heap_int .i64) hr0_2)) (Kd.V_mk hc2_1 (Kd.C_F (Kd.heap_int .i64) hr2_1)) (Kd.V_mk hc2_2 (Kd.C_F (Kd.heap_int .i64) hr2_2)) (Kd.V_mk hc3_1 (Kd.C_F (Kd.heap_int .i64) hr3_1)) (Kd.V_mk hc3_2 (Kd.C_F (Kd.heap_int .i64) hr3_2)) h).mono ?_
 rintro e w' ⟨rfl, hd⟩
 exact ⟨rfl, hd⟩
end Go.Proofs.Ytmolbbebglfhmaa.A
