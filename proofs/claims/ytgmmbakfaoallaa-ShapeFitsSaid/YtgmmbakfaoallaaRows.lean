/-
  No cell of these rows narrows 'for every input' (looked for: loops, veiled, ifaces, maps, wideKeys, modest, calm, conditions, laid).
  DERIVED. THE GIVEN ROWS OF THIS SEAT. 7 by the template 'for every input the law returns true; each argument reads behind the call as it read before'; 0 by the template 'total and deterministic' (their statements: YtgmmbakfaoallaaTotals.lean).
  GIVEN WITH THE SEED: the statements are not yours to turn. If you find one false, say at which input.
  Laid BY PROGRAM, IN A SANDBOX (cutbox-rows.mjs): the forced cells as the released guide's own fill.sh prints them over the translation 1be7ec772c174c09… (all of the seat's roots in one cut). By AI agents, Wed Nov 11 2026. No macro, syntax, notation, axiom, sorry.
-/
import Derived.Test.YtgmmbakfaoallaaChecked
import GoSem.Claim
import GoSem.ClaimJoined
import GoSem.ClaimMapViews
import Derived.JoinedTies
import Derived.KernelRfl
namespace Go.Proofs.Ytgmmbakfaoallaa
/- THE CELL 'sum', in the pinned program and in every row, IS THE sha256 OF THE DUMP (.gsa) THAT YtgmmbakfaoallaaProg.lean LOADS. Nothing in Lean hashes anything: it is a label: what it is worth is what the hold of that sum in a sandbox is worth. -/
noncomputable def Try.pinned : Pinned := { name := "ytgmmbakfaoallaa", sum := "1be7ec772c174c099ae2b866256dc7aed3e80a86aac83790827321c3c5f672f5", checked := Try.checked }
namespace Rows
def none {H : Type} : Left H := { results := [], args := [] }

/-- 'fullerlaw02.ShapeTells': WHATEVER THE INPUT: true; the input reads as it did. -/
def shapeTellsSpec : ChangeSpec := { name := "shapeTells", fn := fun _ => fun
  | [d1, d2, d3] => { results := [.lit (.bool true)], args := [d1, d2, d3] }
  | _ => none }
def shapeTellsRow : OpenClaim := { program := "ytgmmbakfaoallaa", sum := "1be7ec772c174c099ae2b866256dc7aed3e80a86aac83790827321c3c5f672f5", func := "fuller/fullerlaw02.ShapeTells", spec := "shapeTells", apart := false }
def ShapeTellsSaid : Prop := shapeTellsRow.holds Try.pinned (OpenSpec.ofChange shapeTellsSpec)

/-- ITS FALSE NEIGHBOUR: 'it returns false'. Refute it at one input. -/
def shapeTellsWrong : ChangeSpec := { name := "shapeTells", fn := fun _ => fun
  | [d1, d2, d3] => { results := [.lit (.bool false)], args := [d1, d2, d3] }
  | _ => none }
def ShapeTellsWrongFalsely : Prop := shapeTellsRow.holds Try.pinned (OpenSpec.ofChange shapeTellsWrong)

/-- 'fullerlaw02.ShapePlaces': WHATEVER THE INPUT: true; the input reads as it did. -/
def shapePlacesSpec : ChangeSpec := { name := "shapePlaces", fn := fun _ => fun
  | [d1, d2, d3] => { results := [.lit (.bool true)], args := [d1, d2, d3] }
  | _ => none }
def shapePlacesRow : OpenClaim := { program := "ytgmmbakfaoallaa", sum := "1be7ec772c174c099ae2b866256dc7aed3e80a86aac83790827321c3c5f672f5", func := "fuller/fullerlaw02.ShapePlaces", spec := "shapePlaces", apart := false }
def ShapePlacesSaid : Prop := shapePlacesRow.holds Try.pinned (OpenSpec.ofChange shapePlacesSpec)

/-- ITS FALSE NEIGHBOUR: 'it returns false'. Refute it at one input. -/
def shapePlacesWrong : ChangeSpec := { name := "shapePlaces", fn := fun _ => fun
  | [d1, d2, d3] => { results := [.lit (.bool false)], args := [d1, d2, d3] }
  | _ => none }
def ShapePlacesWrongFalsely : Prop := shapePlacesRow.holds Try.pinned (OpenSpec.ofChange shapePlacesWrong)

/-- 'fullerlaw02.ShapeJoins': WHATEVER THE INPUT: true; the input reads as it did. -/
def shapeJoinsSpec : ChangeSpec := { name := "shapeJoins", fn := fun _ => fun
  | [d1, d2] => { results := [.lit (.bool true)], args := [d1, d2] }
  | _ => none }
def shapeJoinsRow : OpenClaim := { program := "ytgmmbakfaoallaa", sum := "1be7ec772c174c099ae2b866256dc7aed3e80a86aac83790827321c3c5f672f5", func := "fuller/fullerlaw02.ShapeJoins", spec := "shapeJoins", apart := false }
def ShapeJoinsSaid : Prop := shapeJoinsRow.holds Try.pinned (OpenSpec.ofChange shapeJoinsSpec)

/-- ITS FALSE NEIGHBOUR: 'it returns false'. Refute it at one input. -/
def shapeJoinsWrong : ChangeSpec := { name := "shapeJoins", fn := fun _ => fun
  | [d1, d2] => { results := [.lit (.bool false)], args := [d1, d2] }
  | _ => none }
def ShapeJoinsWrongFalsely : Prop := shapeJoinsRow.holds Try.pinned (OpenSpec.ofChange shapeJoinsWrong)

/-- 'fullerlaw02.ShapeThree': WHATEVER THE INPUT: true; the input reads as it did. -/
def shapeThreeSpec : ChangeSpec := { name := "shapeThree", fn := fun _ => fun
  | [d1, d2, d3] => { results := [.lit (.bool true)], args := [d1, d2, d3] }
  | _ => none }
def shapeThreeRow : OpenClaim := { program := "ytgmmbakfaoallaa", sum := "1be7ec772c174c099ae2b866256dc7aed3e80a86aac83790827321c3c5f672f5", func := "fuller/fullerlaw02.ShapeThree", spec := "shapeThree", apart := false }
def ShapeThreeSaid : Prop := shapeThreeRow.holds Try.pinned (OpenSpec.ofChange shapeThreeSpec)

/-- ITS FALSE NEIGHBOUR: 'it returns false'. Refute it at one input. -/
def shapeThreeWrong : ChangeSpec := { name := "shapeThree", fn := fun _ => fun
  | [d1, d2, d3] => { results := [.lit (.bool false)], args := [d1, d2, d3] }
  | _ => none }
def ShapeThreeWrongFalsely : Prop := shapeThreeRow.holds Try.pinned (OpenSpec.ofChange shapeThreeWrong)

/-- 'fullerlaw02.ShapeSizes': WHATEVER THE INPUT: true; the input reads as it did. -/
def shapeSizesSpec : ChangeSpec := { name := "shapeSizes", fn := fun _ => fun
  | [d1, d2] => { results := [.lit (.bool true)], args := [d1, d2] }
  | _ => none }
def shapeSizesRow : OpenClaim := { program := "ytgmmbakfaoallaa", sum := "1be7ec772c174c099ae2b866256dc7aed3e80a86aac83790827321c3c5f672f5", func := "fuller/fullerlaw02.ShapeSizes", spec := "shapeSizes", apart := false }
def ShapeSizesSaid : Prop := shapeSizesRow.holds Try.pinned (OpenSpec.ofChange shapeSizesSpec)

/-- ITS FALSE NEIGHBOUR: 'it returns false'. Refute it at one input. -/
def shapeSizesWrong : ChangeSpec := { name := "shapeSizes", fn := fun _ => fun
  | [d1, d2] => { results := [.lit (.bool false)], args := [d1, d2] }
  | _ => none }
def ShapeSizesWrongFalsely : Prop := shapeSizesRow.holds Try.pinned (OpenSpec.ofChange shapeSizesWrong)

/-- 'fullerlaw02.ShapeWide': WHATEVER THE INPUT: true; the input reads as it did. -/
def shapeWideSpec : ChangeSpec := { name := "shapeWide", fn := fun _ => fun
  | [d1, d2] => { results := [.lit (.bool true)], args := [d1, d2] }
  | _ => none }
def shapeWideRow : OpenClaim := { program := "ytgmmbakfaoallaa", sum := "1be7ec772c174c099ae2b866256dc7aed3e80a86aac83790827321c3c5f672f5", func := "fuller/fullerlaw02.ShapeWide", spec := "shapeWide", apart := false }
def ShapeWideSaid : Prop := shapeWideRow.holds Try.pinned (OpenSpec.ofChange shapeWideSpec)

/-- ITS FALSE NEIGHBOUR: 'it returns false'. Refute it at one input. -/
def shapeWideWrong : ChangeSpec := { name := "shapeWide", fn := fun _ => fun
  | [d1, d2] => { results := [.lit (.bool false)], args := [d1, d2] }
  | _ => none }
def ShapeWideWrongFalsely : Prop := shapeWideRow.holds Try.pinned (OpenSpec.ofChange shapeWideWrong)

/-- 'fullerlaw02.ShapeFits': WHATEVER THE INPUT: true; the input reads as it did. -/
def shapeFitsSpec : ChangeSpec := { name := "shapeFits", fn := fun _ => fun
  | [d1, d2, d3] => { results := [.lit (.bool true)], args := [d1, d2, d3] }
  | _ => none }
def shapeFitsRow : OpenClaim := { program := "ytgmmbakfaoallaa", sum := "1be7ec772c174c099ae2b866256dc7aed3e80a86aac83790827321c3c5f672f5", func := "fuller/fullerlaw02.ShapeFits", spec := "shapeFits", apart := false }
def ShapeFitsSaid : Prop := shapeFitsRow.holds Try.pinned (OpenSpec.ofChange shapeFitsSpec)

/-- ITS FALSE NEIGHBOUR: 'it returns false'. Refute it at one input. -/
def shapeFitsWrong : ChangeSpec := { name := "shapeFits", fn := fun _ => fun
  | [d1, d2, d3] => { results := [.lit (.bool false)], args := [d1, d2, d3] }
  | _ => none }
def ShapeFitsWrongFalsely : Prop := shapeFitsRow.holds Try.pinned (OpenSpec.ofChange shapeFitsWrong)

/- THE SECOND FORM. 'bulk': how many values and letters a reading holds, each counted each time it is reached (what is shared counts as often as it is met; a slice's spare places count too). A statement '..UptoSaid' is the law's where the arguments, and the package variables that the reading takes, are together of bulk at most 1048576: NARROWER than '..Said'. Prove '..Said' where nothing that the law and all that it calls make is longer than what came in: it says more and counts as full. Else prove '..UptoSaid'. A law counts once. -/
mutual
def uptoBulk {H : Type} : DataW H → Nat
  | .lit (.string bytes) => bytes.length + 1
  | .lit _ => 1
  | .nil => 1
  | .ptr d => uptoBulk d + 1
  | .slice elems spare => uptoBulkAll elems + uptoBulkAll spare + 1
  | .agg parts => uptoBulkAll parts + 1
  | .iface _ d => uptoBulk d + 1
  | .map entries => uptoBulkEntries entries + 1
  | .held _ => 1
def uptoBulkAll {H : Type} : List (DataW H) → Nat
  | [] => 0
  | d :: r => uptoBulk d + uptoBulkAll r
def uptoBulkEntries {H : Type} : List (Lit × DataW H) → Nat
  | [] => 0
  | x :: r => uptoBulkEntry x + uptoBulkEntries r
def uptoBulkEntry {H : Type} : Lit × DataW H → Nat
  | (.string bytes, d) => bytes.length + uptoBulk d + 1
  | (_, d) => uptoBulk d + 1
 end
def uptoSmall : (H : Type) → List (DataW H) → Bool := fun _ ds => decide (uptoBulkAll ds ≤ 1048576)
def OpenSpec.upto (s : _root_.Go.ChangeSpec) : _root_.Go.OpenSpec := { _root_.Go.OpenSpec.ofChange s with cond := some uptoSmall }

/-- 'fullerlaw02.ShapeTells', WHERE WHAT IT READS IS OF BULK AT MOST 1048576: true; the input reads as it did. -/
def shapeTellsUptoRow : OpenClaim := { program := "ytgmmbakfaoallaa", sum := "1be7ec772c174c099ae2b866256dc7aed3e80a86aac83790827321c3c5f672f5", func := "fuller/fullerlaw02.ShapeTells", spec := "shapeTells", apart := false, narrowed := true }
def ShapeTellsUptoSaid : Prop := shapeTellsUptoRow.holds Try.pinned (OpenSpec.upto shapeTellsSpec)

/-- 'fullerlaw02.ShapePlaces', WHERE WHAT IT READS IS OF BULK AT MOST 1048576: true; the input reads as it did. -/
def shapePlacesUptoRow : OpenClaim := { program := "ytgmmbakfaoallaa", sum := "1be7ec772c174c099ae2b866256dc7aed3e80a86aac83790827321c3c5f672f5", func := "fuller/fullerlaw02.ShapePlaces", spec := "shapePlaces", apart := false, narrowed := true }
def ShapePlacesUptoSaid : Prop := shapePlacesUptoRow.holds Try.pinned (OpenSpec.upto shapePlacesSpec)

/-- 'fullerlaw02.ShapeJoins', WHERE WHAT IT READS IS OF BULK AT MOST 1048576: true; the input reads as it did. -/
def shapeJoinsUptoRow : OpenClaim := { program := "ytgmmbakfaoallaa", sum := "1be7ec772c174c099ae2b866256dc7aed3e80a86aac83790827321c3c5f672f5", func := "fuller/fullerlaw02.ShapeJoins", spec := "shapeJoins", apart := false, narrowed := true }
def ShapeJoinsUptoSaid : Prop := shapeJoinsUptoRow.holds Try.pinned (OpenSpec.upto shapeJoinsSpec)

/-- 'fullerlaw02.ShapeThree', WHERE WHAT IT READS IS OF BULK AT MOST 1048576: true; the input reads as it did. -/
def shapeThreeUptoRow : OpenClaim := { program := "ytgmmbakfaoallaa", sum := "1be7ec772c174c099ae2b866256dc7aed3e80a86aac83790827321c3c5f672f5", func := "fuller/fullerlaw02.ShapeThree", spec := "shapeThree", apart := false, narrowed := true }
def ShapeThreeUptoSaid : Prop := shapeThreeUptoRow.holds Try.pinned (OpenSpec.upto shapeThreeSpec)

/-- 'fullerlaw02.ShapeSizes', WHERE WHAT IT READS IS OF BULK AT MOST 1048576: true; the input reads as it did. -/
def shapeSizesUptoRow : OpenClaim := { program := "ytgmmbakfaoallaa", sum := "1be7ec772c174c099ae2b866256dc7aed3e80a86aac83790827321c3c5f672f5", func := "fuller/fullerlaw02.ShapeSizes", spec := "shapeSizes", apart := false, narrowed := true }
def ShapeSizesUptoSaid : Prop := shapeSizesUptoRow.holds Try.pinned (OpenSpec.upto shapeSizesSpec)

/-- 'fullerlaw02.ShapeWide', WHERE WHAT IT READS IS OF BULK AT MOST 1048576: true; the input reads as it did. -/
def shapeWideUptoRow : OpenClaim := { program := "ytgmmbakfaoallaa", sum := "1be7ec772c174c099ae2b866256dc7aed3e80a86aac83790827321c3c5f672f5", func := "fuller/fullerlaw02.ShapeWide", spec := "shapeWide", apart := false, narrowed := true }
def ShapeWideUptoSaid : Prop := shapeWideUptoRow.holds Try.pinned (OpenSpec.upto shapeWideSpec)

/-- 'fullerlaw02.ShapeFits', WHERE WHAT IT READS IS OF BULK AT MOST 1048576: true; the input reads as it did. -/
def shapeFitsUptoRow : OpenClaim := { program := "ytgmmbakfaoallaa", sum := "1be7ec772c174c099ae2b866256dc7aed3e80a86aac83790827321c3c5f672f5", func := "fuller/fullerlaw02.ShapeFits", spec := "shapeFits", apart := false, narrowed := true }
def ShapeFitsUptoSaid : Prop := shapeFitsUptoRow.holds Try.pinned (OpenSpec.upto shapeFitsSpec)

end Rows
end Go.Proofs.Ytgmmbakfaoallaa
