/-
  No cell of these rows narrows 'for every input' (looked for: loops, veiled, ifaces, maps, wideKeys, modest, calm, conditions, laid).
  DERIVED. THE GIVEN ROWS OF THIS SEAT. 5 by the template 'for every input the law returns true; each argument reads behind the call as it read before'; 0 by the template 'total and deterministic' (their statements: YtalmgghhpgfgoaaTotals.lean).
  GIVEN WITH THE SEED: the statements are not yours to turn. If you find one false, say at which input.
  Laid BY PROGRAM, IN A SANDBOX (cutbox-rows.mjs): the forced cells as the released guide's own fill.sh prints them over the translation 9a2d77d55a8e3244… (all of the seat's roots in one cut). By AI agents, Wed Nov 11 2026. No macro, syntax, notation, axiom, sorry.
-/
import Derived.Test.YtalmgghhpgfgoaaChecked
import GoSem.Claim
import GoSem.ClaimJoined
import GoSem.ClaimMapViews
import Derived.JoinedTies
import Derived.KernelRfl
namespace Go.Proofs.Ytalmgghhpgfgoaa
/- THE CELL 'sum', in the pinned program and in every row, IS THE sha256 OF THE DUMP (.gsa) THAT YtalmgghhpgfgoaaProg.lean LOADS. Nothing in Lean hashes anything: it is a label: what it is worth is what the hold of that sum in a sandbox is worth. -/
noncomputable def Try.pinned : Pinned := { name := "ytalmgghhpgfgoaa", sum := "9a2d77d55a8e32447226af7866329101001a587b845693c8e5d1d76b365e7641", checked := Try.checked }
namespace Rows
def none {H : Type} : Left H := { results := [], args := [] }

/-- 'fullerlaw11.InferTells': WHATEVER THE INPUT: true; the input reads as it did. -/
def inferTellsSpec : ChangeSpec := { name := "inferTells", fn := fun _ => fun
  | [d1, d2, d3] => { results := [.lit (.bool true)], args := [d1, d2, d3] }
  | _ => none }
def inferTellsRow : OpenClaim := { program := "ytalmgghhpgfgoaa", sum := "9a2d77d55a8e32447226af7866329101001a587b845693c8e5d1d76b365e7641", func := "fuller/fullerlaw11.InferTells", spec := "inferTells", unfollowed := true, recurses := true, apart := false }
def InferTellsSaid : Prop := inferTellsRow.holds Try.pinned (OpenSpec.ofChange inferTellsSpec)

/-- ITS FALSE NEIGHBOUR: 'it returns false'. Refute it at one input. -/
def inferTellsWrong : ChangeSpec := { name := "inferTells", fn := fun _ => fun
  | [d1, d2, d3] => { results := [.lit (.bool false)], args := [d1, d2, d3] }
  | _ => none }
def InferTellsWrongFalsely : Prop := inferTellsRow.holds Try.pinned (OpenSpec.ofChange inferTellsWrong)

/-- 'fullerlaw11.InferCuts': WHATEVER THE INPUT: true; the input reads as it did. -/
def inferCutsSpec : ChangeSpec := { name := "inferCuts", fn := fun _ => fun
  | [d1, d2] => { results := [.lit (.bool true)], args := [d1, d2] }
  | _ => none }
def inferCutsRow : OpenClaim := { program := "ytalmgghhpgfgoaa", sum := "9a2d77d55a8e32447226af7866329101001a587b845693c8e5d1d76b365e7641", func := "fuller/fullerlaw11.InferCuts", spec := "inferCuts", unfollowed := true, recurses := true, apart := false }
def InferCutsSaid : Prop := inferCutsRow.holds Try.pinned (OpenSpec.ofChange inferCutsSpec)

/-- ITS FALSE NEIGHBOUR: 'it returns false'. Refute it at one input. -/
def inferCutsWrong : ChangeSpec := { name := "inferCuts", fn := fun _ => fun
  | [d1, d2] => { results := [.lit (.bool false)], args := [d1, d2] }
  | _ => none }
def InferCutsWrongFalsely : Prop := inferCutsRow.holds Try.pinned (OpenSpec.ofChange inferCutsWrong)

/-- 'fullerlaw11.InferTurns': WHATEVER THE INPUT: true; the input reads as it did. -/
def inferTurnsSpec : ChangeSpec := { name := "inferTurns", fn := fun _ => fun
  | [d1, d2, d3] => { results := [.lit (.bool true)], args := [d1, d2, d3] }
  | _ => none }
def inferTurnsRow : OpenClaim := { program := "ytalmgghhpgfgoaa", sum := "9a2d77d55a8e32447226af7866329101001a587b845693c8e5d1d76b365e7641", func := "fuller/fullerlaw11.InferTurns", spec := "inferTurns", unfollowed := true, recurses := true, apart := false }
def InferTurnsSaid : Prop := inferTurnsRow.holds Try.pinned (OpenSpec.ofChange inferTurnsSpec)

/-- ITS FALSE NEIGHBOUR: 'it returns false'. Refute it at one input. -/
def inferTurnsWrong : ChangeSpec := { name := "inferTurns", fn := fun _ => fun
  | [d1, d2, d3] => { results := [.lit (.bool false)], args := [d1, d2, d3] }
  | _ => none }
def InferTurnsWrongFalsely : Prop := inferTurnsRow.holds Try.pinned (OpenSpec.ofChange inferTurnsWrong)

/-- 'fullerlaw11.InferSizes': WHATEVER THE INPUT: true; the input reads as it did. -/
def inferSizesSpec : ChangeSpec := { name := "inferSizes", fn := fun _ => fun
  | [d1, d2, d3, d4] => { results := [.lit (.bool true)], args := [d1, d2, d3, d4] }
  | _ => none }
def inferSizesRow : OpenClaim := { program := "ytalmgghhpgfgoaa", sum := "9a2d77d55a8e32447226af7866329101001a587b845693c8e5d1d76b365e7641", func := "fuller/fullerlaw11.InferSizes", spec := "inferSizes", unfollowed := true, recurses := true, apart := false }
def InferSizesSaid : Prop := inferSizesRow.holds Try.pinned (OpenSpec.ofChange inferSizesSpec)

/-- ITS FALSE NEIGHBOUR: 'it returns false'. Refute it at one input. -/
def inferSizesWrong : ChangeSpec := { name := "inferSizes", fn := fun _ => fun
  | [d1, d2, d3, d4] => { results := [.lit (.bool false)], args := [d1, d2, d3, d4] }
  | _ => none }
def InferSizesWrongFalsely : Prop := inferSizesRow.holds Try.pinned (OpenSpec.ofChange inferSizesWrong)

/-- 'fullerlaw11.InferSame': WHATEVER THE INPUT: true; the input reads as it did. -/
def inferSameSpec : ChangeSpec := { name := "inferSame", fn := fun _ => fun
  | [d1, d2, d3] => { results := [.lit (.bool true)], args := [d1, d2, d3] }
  | _ => none }
def inferSameRow : OpenClaim := { program := "ytalmgghhpgfgoaa", sum := "9a2d77d55a8e32447226af7866329101001a587b845693c8e5d1d76b365e7641", func := "fuller/fullerlaw11.InferSame", spec := "inferSame", unfollowed := true, recurses := true, apart := false }
def InferSameSaid : Prop := inferSameRow.holds Try.pinned (OpenSpec.ofChange inferSameSpec)

/-- ITS FALSE NEIGHBOUR: 'it returns false'. Refute it at one input. -/
def inferSameWrong : ChangeSpec := { name := "inferSame", fn := fun _ => fun
  | [d1, d2, d3] => { results := [.lit (.bool false)], args := [d1, d2, d3] }
  | _ => none }
def InferSameWrongFalsely : Prop := inferSameRow.holds Try.pinned (OpenSpec.ofChange inferSameWrong)

/- THE SECOND FORM. 'bulk': how many values and letters a reading holds, each counted each time it is reached (what is shared counts as often as it is met; a slice's spare places count too). A statement '..UptoSaid' is the law's where the arguments, and the package variables that the reading takes, are together of bulk at most 1048576: NARROWER than '..Said'. Prove '..Said' where nothing that the law and all that it calls make is longer than what came in: it says more and counts as full. Else prove '..UptoSaid'. A law counts once. -/
mutual
def uptoBulk {H : Type} : DataW H → Nat
  | .lit (.string bytes) => bytes.length + 1
  | .lit _ => 1
  | .nil => 1
  | .ptr d => uptoBulk d + 1
  | .slice elems spare => uptoBulkAll elems + uptoBulkAll spare + 1
  | .agg parts => uptoBulkAll parts + 1
  | .iface _ d => uptoBulk d + 1
  | .map entries => uptoBulkEntries entries + 1
  | .held _ => 1
def uptoBulkAll {H : Type} : List (DataW H) → Nat
  | [] => 0
  | d :: r => uptoBulk d + uptoBulkAll r
def uptoBulkEntries {H : Type} : List (Lit × DataW H) → Nat
  | [] => 0
  | x :: r => uptoBulkEntry x + uptoBulkEntries r
def uptoBulkEntry {H : Type} : Lit × DataW H → Nat
  | (.string bytes, d) => bytes.length + uptoBulk d + 1
  | (_, d) => uptoBulk d + 1
 end
def uptoSmall : (H : Type) → List (DataW H) → Bool := fun _ ds => decide (uptoBulkAll ds ≤ 1048576)
def OpenSpec.upto (s : _root_.Go.ChangeSpec) : _root_.Go.OpenSpec := { _root_.Go.OpenSpec.ofChange s with cond := some uptoSmall }

/-- 'fullerlaw11.InferTells', WHERE WHAT IT READS IS OF BULK AT MOST 1048576: true; the input reads as it did. -/
def inferTellsUptoRow : OpenClaim := { program := "ytalmgghhpgfgoaa", sum := "9a2d77d55a8e32447226af7866329101001a587b845693c8e5d1d76b365e7641", func := "fuller/fullerlaw11.InferTells", spec := "inferTells", unfollowed := true, recurses := true, apart := false, narrowed := true }
def InferTellsUptoSaid : Prop := inferTellsUptoRow.holds Try.pinned (OpenSpec.upto inferTellsSpec)

/-- 'fullerlaw11.InferCuts', WHERE WHAT IT READS IS OF BULK AT MOST 1048576: true; the input reads as it did. -/
def inferCutsUptoRow : OpenClaim := { program := "ytalmgghhpgfgoaa", sum := "9a2d77d55a8e32447226af7866329101001a587b845693c8e5d1d76b365e7641", func := "fuller/fullerlaw11.InferCuts", spec := "inferCuts", unfollowed := true, recurses := true, apart := false, narrowed := true }
def InferCutsUptoSaid : Prop := inferCutsUptoRow.holds Try.pinned (OpenSpec.upto inferCutsSpec)

/-- 'fullerlaw11.InferTurns', WHERE WHAT IT READS IS OF BULK AT MOST 1048576: true; the input reads as it did. -/
def inferTurnsUptoRow : OpenClaim := { program := "ytalmgghhpgfgoaa", sum := "9a2d77d55a8e32447226af7866329101001a587b845693c8e5d1d76b365e7641", func := "fuller/fullerlaw11.InferTurns", spec := "inferTurns", unfollowed := true, recurses := true, apart := false, narrowed := true }
def InferTurnsUptoSaid : Prop := inferTurnsUptoRow.holds Try.pinned (OpenSpec.upto inferTurnsSpec)

/-- 'fullerlaw11.InferSizes', WHERE WHAT IT READS IS OF BULK AT MOST 1048576: true; the input reads as it did. -/
def inferSizesUptoRow : OpenClaim := { program := "ytalmgghhpgfgoaa", sum := "9a2d77d55a8e32447226af7866329101001a587b845693c8e5d1d76b365e7641", func := "fuller/fullerlaw11.InferSizes", spec := "inferSizes", unfollowed := true, recurses := true, apart := false, narrowed := true }
def InferSizesUptoSaid : Prop := inferSizesUptoRow.holds Try.pinned (OpenSpec.upto inferSizesSpec)

/-- 'fullerlaw11.InferSame', WHERE WHAT IT READS IS OF BULK AT MOST 1048576: true; the input reads as it did. -/
def inferSameUptoRow : OpenClaim := { program := "ytalmgghhpgfgoaa", sum := "9a2d77d55a8e32447226af7866329101001a587b845693c8e5d1d76b365e7641", func := "fuller/fullerlaw11.InferSame", spec := "inferSame", unfollowed := true, recurses := true, apart := false, narrowed := true }
def InferSameUptoSaid : Prop := inferSameUptoRow.holds Try.pinned (OpenSpec.upto inferSameSpec)

end Rows
end Go.Proofs.Ytalmgghhpgfgoaa
