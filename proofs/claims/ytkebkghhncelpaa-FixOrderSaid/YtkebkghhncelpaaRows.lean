/-
  No cell of these rows narrows 'for every input' (looked for: loops, veiled, ifaces, maps, wideKeys, modest, calm, conditions, laid).
  DERIVED. THE GIVEN ROWS OF THIS SEAT. 7 by the template 'for every input the law returns true; each argument reads behind the call as it read before'; 0 by the template 'total and deterministic' (their statements: YtkebkghhncelpaaTotals.lean).
  GIVEN WITH THE SEED: the statements are not yours to turn. If you find one false, say at which input.
  Laid BY PROGRAM, IN A SANDBOX (cutbox-rows.mjs): the forced cells as the released guide's own fill.sh prints them over the translation 4a6ad108aa6727d5… (all of the seat's roots in one cut). By AI agents, Wed Nov 11 2026. No macro, syntax, notation, axiom, sorry.
-/
import Derived.Test.YtkebkghhncelpaaChecked
import GoSem.Claim
import GoSem.ClaimJoined
import GoSem.ClaimMapViews
import Derived.JoinedTies
import Derived.KernelRfl
namespace Go.Proofs.Ytkebkghhncelpaa
/- THE CELL 'sum', in the pinned program and in every row, IS THE sha256 OF THE DUMP (.gsa) THAT YtkebkghhncelpaaProg.lean LOADS. Nothing in Lean hashes anything: it is a label: what it is worth is what the hold of that sum in a sandbox is worth. -/
noncomputable def Try.pinned : Pinned := { name := "ytkebkghhncelpaa", sum := "4a6ad108aa6727d55aa08ef6b0f5f44289724bbc5cae4b5efb8fa674fc23dca0", checked := Try.checked }
namespace Rows
def none {H : Type} : Left H := { results := [], args := [] }

/-- 'fullerlaw01.FixFloors': WHATEVER THE INPUT: true; the input reads as it did. -/
def fixFloorsSpec : ChangeSpec := { name := "fixFloors", fn := fun _ => fun
  | [d1, d2, d3] => { results := [.lit (.bool true)], args := [d1, d2, d3] }
  | _ => none }
def fixFloorsRow : OpenClaim := { program := "ytkebkghhncelpaa", sum := "4a6ad108aa6727d55aa08ef6b0f5f44289724bbc5cae4b5efb8fa674fc23dca0", func := "fuller/fullerlaw01.FixFloors", spec := "fixFloors", inPlace := ["math/bits.Add64", "math/bits.Sub64"], unfollowed := true, recurses := true, named := ["math/bits.divideError", "math/bits.overflowError"], apart := false }
def FixFloorsSaid : Prop := fixFloorsRow.holds Try.pinned (OpenSpec.ofChange fixFloorsSpec)

/-- ITS FALSE NEIGHBOUR: 'it returns false'. Refute it at one input. -/
def fixFloorsWrong : ChangeSpec := { name := "fixFloors", fn := fun _ => fun
  | [d1, d2, d3] => { results := [.lit (.bool false)], args := [d1, d2, d3] }
  | _ => none }
def FixFloorsWrongFalsely : Prop := fixFloorsRow.holds Try.pinned (OpenSpec.ofChange fixFloorsWrong)

/-- 'fullerlaw01.FixRoots': WHATEVER THE INPUT: true; the input reads as it did. -/
def fixRootsSpec : ChangeSpec := { name := "fixRoots", fn := fun _ => fun
  | [d1, d2] => { results := [.lit (.bool true)], args := [d1, d2] }
  | _ => none }
def fixRootsRow : OpenClaim := { program := "ytkebkghhncelpaa", sum := "4a6ad108aa6727d55aa08ef6b0f5f44289724bbc5cae4b5efb8fa674fc23dca0", func := "fuller/fullerlaw01.FixRoots", spec := "fixRoots", inPlace := ["math/bits.Add64", "math/bits.Sub64"], unfollowed := true, recurses := true, named := ["math/bits.divideError", "math/bits.overflowError"], apart := false }
def FixRootsSaid : Prop := fixRootsRow.holds Try.pinned (OpenSpec.ofChange fixRootsSpec)

/-- ITS FALSE NEIGHBOUR: 'it returns false'. Refute it at one input. -/
def fixRootsWrong : ChangeSpec := { name := "fixRoots", fn := fun _ => fun
  | [d1, d2] => { results := [.lit (.bool false)], args := [d1, d2] }
  | _ => none }
def FixRootsWrongFalsely : Prop := fixRootsRow.holds Try.pinned (OpenSpec.ofChange fixRootsWrong)

/-- 'fullerlaw01.FixOrder': WHATEVER THE INPUT: true; the input reads as it did. -/
def fixOrderSpec : ChangeSpec := { name := "fixOrder", fn := fun _ => fun
  | [d1, d2, d3] => { results := [.lit (.bool true)], args := [d1, d2, d3] }
  | _ => none }
def fixOrderRow : OpenClaim := { program := "ytkebkghhncelpaa", sum := "4a6ad108aa6727d55aa08ef6b0f5f44289724bbc5cae4b5efb8fa674fc23dca0", func := "fuller/fullerlaw01.FixOrder", spec := "fixOrder", inPlace := ["math/bits.Add64", "math/bits.Sub64"], unfollowed := true, recurses := true, named := ["math/bits.divideError", "math/bits.overflowError"], apart := false }
def FixOrderSaid : Prop := fixOrderRow.holds Try.pinned (OpenSpec.ofChange fixOrderSpec)

/-- ITS FALSE NEIGHBOUR: 'it returns false'. Refute it at one input. -/
def fixOrderWrong : ChangeSpec := { name := "fixOrder", fn := fun _ => fun
  | [d1, d2, d3] => { results := [.lit (.bool false)], args := [d1, d2, d3] }
  | _ => none }
def FixOrderWrongFalsely : Prop := fixOrderRow.holds Try.pinned (OpenSpec.ofChange fixOrderWrong)

/-- 'fullerlaw01.FixSquares': WHATEVER THE INPUT: true; the input reads as it did. -/
def fixSquaresSpec : ChangeSpec := { name := "fixSquares", fn := fun _ => fun
  | [d1, d2] => { results := [.lit (.bool true)], args := [d1, d2] }
  | _ => none }
def fixSquaresRow : OpenClaim := { program := "ytkebkghhncelpaa", sum := "4a6ad108aa6727d55aa08ef6b0f5f44289724bbc5cae4b5efb8fa674fc23dca0", func := "fuller/fullerlaw01.FixSquares", spec := "fixSquares", inPlace := ["math/bits.Add64", "math/bits.Sub64"], unfollowed := true, recurses := true, named := ["math/bits.divideError", "math/bits.overflowError"], apart := false }
def FixSquaresSaid : Prop := fixSquaresRow.holds Try.pinned (OpenSpec.ofChange fixSquaresSpec)

/-- ITS FALSE NEIGHBOUR: 'it returns false'. Refute it at one input. -/
def fixSquaresWrong : ChangeSpec := { name := "fixSquares", fn := fun _ => fun
  | [d1, d2] => { results := [.lit (.bool false)], args := [d1, d2] }
  | _ => none }
def FixSquaresWrongFalsely : Prop := fixSquaresRow.holds Try.pinned (OpenSpec.ofChange fixSquaresWrong)

/-- 'fullerlaw01.FixSigns': WHATEVER THE INPUT: true; the input reads as it did. -/
def fixSignsSpec : ChangeSpec := { name := "fixSigns", fn := fun _ => fun
  | [d] => { results := [.lit (.bool true)], args := [d] }
  | _ => none }
def fixSignsRow : OpenClaim := { program := "ytkebkghhncelpaa", sum := "4a6ad108aa6727d55aa08ef6b0f5f44289724bbc5cae4b5efb8fa674fc23dca0", func := "fuller/fullerlaw01.FixSigns", spec := "fixSigns", inPlace := ["math/bits.Add64", "math/bits.Sub64"], unfollowed := true, recurses := true, named := ["math/bits.divideError", "math/bits.overflowError"], apart := false }
def FixSignsSaid : Prop := fixSignsRow.holds Try.pinned (OpenSpec.ofChange fixSignsSpec)

/-- ITS FALSE NEIGHBOUR: 'it returns false'. Refute it at one input. -/
def fixSignsWrong : ChangeSpec := { name := "fixSigns", fn := fun _ => fun
  | [d] => { results := [.lit (.bool false)], args := [d] }
  | _ => none }
def FixSignsWrongFalsely : Prop := fixSignsRow.holds Try.pinned (OpenSpec.ofChange fixSignsWrong)

/-- 'fullerlaw01.FixBack': WHATEVER THE INPUT: true; the input reads as it did. -/
def fixBackSpec : ChangeSpec := { name := "fixBack", fn := fun _ => fun
  | [d1, d2] => { results := [.lit (.bool true)], args := [d1, d2] }
  | _ => none }
def fixBackRow : OpenClaim := { program := "ytkebkghhncelpaa", sum := "4a6ad108aa6727d55aa08ef6b0f5f44289724bbc5cae4b5efb8fa674fc23dca0", func := "fuller/fullerlaw01.FixBack", spec := "fixBack", inPlace := ["math/bits.Add64", "math/bits.Sub64"], unfollowed := true, recurses := true, named := ["math/bits.divideError", "math/bits.overflowError"], apart := false }
def FixBackSaid : Prop := fixBackRow.holds Try.pinned (OpenSpec.ofChange fixBackSpec)

/-- ITS FALSE NEIGHBOUR: 'it returns false'. Refute it at one input. -/
def fixBackWrong : ChangeSpec := { name := "fixBack", fn := fun _ => fun
  | [d1, d2] => { results := [.lit (.bool false)], args := [d1, d2] }
  | _ => none }
def FixBackWrongFalsely : Prop := fixBackRow.holds Try.pinned (OpenSpec.ofChange fixBackWrong)

/-- 'fullerlaw01.FixTells': WHATEVER THE INPUT: true; the input reads as it did. -/
def fixTellsSpec : ChangeSpec := { name := "fixTells", fn := fun _ => fun
  | [d1, d2] => { results := [.lit (.bool true)], args := [d1, d2] }
  | _ => none }
def fixTellsRow : OpenClaim := { program := "ytkebkghhncelpaa", sum := "4a6ad108aa6727d55aa08ef6b0f5f44289724bbc5cae4b5efb8fa674fc23dca0", func := "fuller/fullerlaw01.FixTells", spec := "fixTells", inPlace := ["math/bits.Add64", "math/bits.Sub64"], unfollowed := true, recurses := true, named := ["math/bits.divideError", "math/bits.overflowError"], apart := false }
def FixTellsSaid : Prop := fixTellsRow.holds Try.pinned (OpenSpec.ofChange fixTellsSpec)

/-- ITS FALSE NEIGHBOUR: 'it returns false'. Refute it at one input. -/
def fixTellsWrong : ChangeSpec := { name := "fixTells", fn := fun _ => fun
  | [d1, d2] => { results := [.lit (.bool false)], args := [d1, d2] }
  | _ => none }
def FixTellsWrongFalsely : Prop := fixTellsRow.holds Try.pinned (OpenSpec.ofChange fixTellsWrong)

/- THE SECOND FORM. 'bulk': how many values and letters a reading holds, each counted each time it is reached (what is shared counts as often as it is met; a slice's spare places count too). A statement '..UptoSaid' is the law's where the arguments, and the package variables that the reading takes, are together of bulk at most 1048576: NARROWER than '..Said'. Prove '..Said' where nothing that the law and all that it calls make is longer than what came in: it says more and counts as full. Else prove '..UptoSaid'. A law counts once. -/
mutual
def uptoBulk {H : Type} : DataW H → Nat
  | .lit (.string bytes) => bytes.length + 1
  | .lit _ => 1
  | .nil => 1
  | .ptr d => uptoBulk d + 1
  | .slice elems spare => uptoBulkAll elems + uptoBulkAll spare + 1
  | .agg parts => uptoBulkAll parts + 1
  | .iface _ d => uptoBulk d + 1
  | .map entries => uptoBulkEntries entries + 1
  | .held _ => 1
def uptoBulkAll {H : Type} : List (DataW H) → Nat
  | [] => 0
  | d :: r => uptoBulk d + uptoBulkAll r
def uptoBulkEntries {H : Type} : List (Lit × DataW H) → Nat
  | [] => 0
  | x :: r => uptoBulkEntry x + uptoBulkEntries r
def uptoBulkEntry {H : Type} : Lit × DataW H → Nat
  | (.string bytes, d) => bytes.length + uptoBulk d + 1
  | (_, d) => uptoBulk d + 1
 end
def uptoSmall : (H : Type) → List (DataW H) → Bool := fun _ ds => decide (uptoBulkAll ds ≤ 1048576)
def OpenSpec.upto (s : _root_.Go.ChangeSpec) : _root_.Go.OpenSpec := { _root_.Go.OpenSpec.ofChange s with cond := some uptoSmall }

/-- 'fullerlaw01.FixFloors', WHERE WHAT IT READS IS OF BULK AT MOST 1048576: true; the input reads as it did. -/
def fixFloorsUptoRow : OpenClaim := { program := "ytkebkghhncelpaa", sum := "4a6ad108aa6727d55aa08ef6b0f5f44289724bbc5cae4b5efb8fa674fc23dca0", func := "fuller/fullerlaw01.FixFloors", spec := "fixFloors", inPlace := ["math/bits.Add64", "math/bits.Sub64"], unfollowed := true, recurses := true, named := ["math/bits.divideError", "math/bits.overflowError"], apart := false, narrowed := true }
def FixFloorsUptoSaid : Prop := fixFloorsUptoRow.holds Try.pinned (OpenSpec.upto fixFloorsSpec)

/-- 'fullerlaw01.FixRoots', WHERE WHAT IT READS IS OF BULK AT MOST 1048576: true; the input reads as it did. -/
def fixRootsUptoRow : OpenClaim := { program := "ytkebkghhncelpaa", sum := "4a6ad108aa6727d55aa08ef6b0f5f44289724bbc5cae4b5efb8fa674fc23dca0", func := "fuller/fullerlaw01.FixRoots", spec := "fixRoots", inPlace := ["math/bits.Add64", "math/bits.Sub64"], unfollowed := true, recurses := true, named := ["math/bits.divideError", "math/bits.overflowError"], apart := false, narrowed := true }
def FixRootsUptoSaid : Prop := fixRootsUptoRow.holds Try.pinned (OpenSpec.upto fixRootsSpec)

/-- 'fullerlaw01.FixOrder', WHERE WHAT IT READS IS OF BULK AT MOST 1048576: true; the input reads as it did. -/
def fixOrderUptoRow : OpenClaim := { program := "ytkebkghhncelpaa", sum := "4a6ad108aa6727d55aa08ef6b0f5f44289724bbc5cae4b5efb8fa674fc23dca0", func := "fuller/fullerlaw01.FixOrder", spec := "fixOrder", inPlace := ["math/bits.Add64", "math/bits.Sub64"], unfollowed := true, recurses := true, named := ["math/bits.divideError", "math/bits.overflowError"], apart := false, narrowed := true }
def FixOrderUptoSaid : Prop := fixOrderUptoRow.holds Try.pinned (OpenSpec.upto fixOrderSpec)

/-- 'fullerlaw01.FixSquares', WHERE WHAT IT READS IS OF BULK AT MOST 1048576: true; the input reads as it did. -/
def fixSquaresUptoRow : OpenClaim := { program := "ytkebkghhncelpaa", sum := "4a6ad108aa6727d55aa08ef6b0f5f44289724bbc5cae4b5efb8fa674fc23dca0", func := "fuller/fullerlaw01.FixSquares", spec := "fixSquares", inPlace := ["math/bits.Add64", "math/bits.Sub64"], unfollowed := true, recurses := true, named := ["math/bits.divideError", "math/bits.overflowError"], apart := false, narrowed := true }
def FixSquaresUptoSaid : Prop := fixSquaresUptoRow.holds Try.pinned (OpenSpec.upto fixSquaresSpec)

/-- 'fullerlaw01.FixSigns', WHERE WHAT IT READS IS OF BULK AT MOST 1048576: true; the input reads as it did. -/
def fixSignsUptoRow : OpenClaim := { program := "ytkebkghhncelpaa", sum := "4a6ad108aa6727d55aa08ef6b0f5f44289724bbc5cae4b5efb8fa674fc23dca0", func := "fuller/fullerlaw01.FixSigns", spec := "fixSigns", inPlace := ["math/bits.Add64", "math/bits.Sub64"], unfollowed := true, recurses := true, named := ["math/bits.divideError", "math/bits.overflowError"], apart := false, narrowed := true }
def FixSignsUptoSaid : Prop := fixSignsUptoRow.holds Try.pinned (OpenSpec.upto fixSignsSpec)

/-- 'fullerlaw01.FixBack', WHERE WHAT IT READS IS OF BULK AT MOST 1048576: true; the input reads as it did. -/
def fixBackUptoRow : OpenClaim := { program := "ytkebkghhncelpaa", sum := "4a6ad108aa6727d55aa08ef6b0f5f44289724bbc5cae4b5efb8fa674fc23dca0", func := "fuller/fullerlaw01.FixBack", spec := "fixBack", inPlace := ["math/bits.Add64", "math/bits.Sub64"], unfollowed := true, recurses := true, named := ["math/bits.divideError", "math/bits.overflowError"], apart := false, narrowed := true }
def FixBackUptoSaid : Prop := fixBackUptoRow.holds Try.pinned (OpenSpec.upto fixBackSpec)

/-- 'fullerlaw01.FixTells', WHERE WHAT IT READS IS OF BULK AT MOST 1048576: true; the input reads as it did. -/
def fixTellsUptoRow : OpenClaim := { program := "ytkebkghhncelpaa", sum := "4a6ad108aa6727d55aa08ef6b0f5f44289724bbc5cae4b5efb8fa674fc23dca0", func := "fuller/fullerlaw01.FixTells", spec := "fixTells", inPlace := ["math/bits.Add64", "math/bits.Sub64"], unfollowed := true, recurses := true, named := ["math/bits.divideError", "math/bits.overflowError"], apart := false, narrowed := true }
def FixTellsUptoSaid : Prop := fixTellsUptoRow.holds Try.pinned (OpenSpec.upto fixTellsSpec)

end Rows
end Go.Proofs.Ytkebkghhncelpaa
