/-
  No cell of these rows narrows 'for every input' (looked for: loops, veiled, ifaces, maps, wideKeys, modest, calm, conditions, laid).
  DERIVED. THE GIVEN ROWS OF THIS SEAT. 6 by the template 'for every input the law returns true; each argument reads behind the call as it read before'; 0 by the template 'total and deterministic' (their statements: YtoiaegbhnpddlaaTotals.lean).
  GIVEN WITH THE SEED: the statements are not yours to turn. If you find one false, say at which input.
  Laid BY PROGRAM, IN A SANDBOX (cutbox-rows.mjs): the forced cells as the released guide's own fill.sh prints them over the translation 0f94f291a053ea0e… (all of the seat's roots in one cut). By AI agents, Wed Nov 11 2026. No macro, syntax, notation, axiom, sorry.
-/
import Derived.Test.YtoiaegbhnpddlaaChecked
import GoSem.Claim
import GoSem.ClaimJoined
import GoSem.ClaimMapViews
import Derived.JoinedTies
import Derived.KernelRfl
namespace Go.Proofs.Ytoiaegbhnpddlaa
/- THE CELL 'sum', in the pinned program and in every row, IS THE sha256 OF THE DUMP (.gsa) THAT YtoiaegbhnpddlaaProg.lean LOADS. Nothing in Lean hashes anything: it is a label: what it is worth is what the hold of that sum in a sandbox is worth. -/
noncomputable def Try.pinned : Pinned := { name := "ytoiaegbhnpddlaa", sum := "0f94f291a053ea0ec8b1186d46c031ecffe028845395ef178e377eb10e135f6e", checked := Try.checked }
namespace Rows
def none {H : Type} : Left H := { results := [], args := [] }

/-- 'fullerlaw03.TensorTells': WHATEVER THE INPUT: true; the input reads as it did. -/
def tensorTellsSpec : ChangeSpec := { name := "tensorTells", fn := fun _ => fun
  | [d1, d2, d3, d4] => { results := [.lit (.bool true)], args := [d1, d2, d3, d4] }
  | _ => none }
def tensorTellsRow : OpenClaim := { program := "ytoiaegbhnpddlaa", sum := "0f94f291a053ea0ec8b1186d46c031ecffe028845395ef178e377eb10e135f6e", func := "fuller/fullerlaw03.TensorTells", spec := "tensorTells", unfollowed := true, recurses := true, apart := false }
def TensorTellsSaid : Prop := tensorTellsRow.holds Try.pinned (OpenSpec.ofChange tensorTellsSpec)

/-- ITS FALSE NEIGHBOUR: 'it returns false'. Refute it at one input. -/
def tensorTellsWrong : ChangeSpec := { name := "tensorTells", fn := fun _ => fun
  | [d1, d2, d3, d4] => { results := [.lit (.bool false)], args := [d1, d2, d3, d4] }
  | _ => none }
def TensorTellsWrongFalsely : Prop := tensorTellsRow.holds Try.pinned (OpenSpec.ofChange tensorTellsWrong)

/-- 'fullerlaw03.TensorWrites': WHATEVER THE INPUT: true; the input reads as it did. -/
def tensorWritesSpec : ChangeSpec := { name := "tensorWrites", fn := fun _ => fun
  | [d1, d2, d3, d4] => { results := [.lit (.bool true)], args := [d1, d2, d3, d4] }
  | _ => none }
def tensorWritesRow : OpenClaim := { program := "ytoiaegbhnpddlaa", sum := "0f94f291a053ea0ec8b1186d46c031ecffe028845395ef178e377eb10e135f6e", func := "fuller/fullerlaw03.TensorWrites", spec := "tensorWrites", unfollowed := true, recurses := true, apart := false }
def TensorWritesSaid : Prop := tensorWritesRow.holds Try.pinned (OpenSpec.ofChange tensorWritesSpec)

/-- ITS FALSE NEIGHBOUR: 'it returns false'. Refute it at one input. -/
def tensorWritesWrong : ChangeSpec := { name := "tensorWrites", fn := fun _ => fun
  | [d1, d2, d3, d4] => { results := [.lit (.bool false)], args := [d1, d2, d3, d4] }
  | _ => none }
def TensorWritesWrongFalsely : Prop := tensorWritesRow.holds Try.pinned (OpenSpec.ofChange tensorWritesWrong)

/-- 'fullerlaw03.TensorSpreads': WHATEVER THE INPUT: true; the input reads as it did. -/
def tensorSpreadsSpec : ChangeSpec := { name := "tensorSpreads", fn := fun _ => fun
  | [d1, d2, d3] => { results := [.lit (.bool true)], args := [d1, d2, d3] }
  | _ => none }
def tensorSpreadsRow : OpenClaim := { program := "ytoiaegbhnpddlaa", sum := "0f94f291a053ea0ec8b1186d46c031ecffe028845395ef178e377eb10e135f6e", func := "fuller/fullerlaw03.TensorSpreads", spec := "tensorSpreads", unfollowed := true, recurses := true, apart := false }
def TensorSpreadsSaid : Prop := tensorSpreadsRow.holds Try.pinned (OpenSpec.ofChange tensorSpreadsSpec)

/-- ITS FALSE NEIGHBOUR: 'it returns false'. Refute it at one input. -/
def tensorSpreadsWrong : ChangeSpec := { name := "tensorSpreads", fn := fun _ => fun
  | [d1, d2, d3] => { results := [.lit (.bool false)], args := [d1, d2, d3] }
  | _ => none }
def TensorSpreadsWrongFalsely : Prop := tensorSpreadsRow.holds Try.pinned (OpenSpec.ofChange tensorSpreadsWrong)

/-- 'fullerlaw03.TensorFull': WHATEVER THE INPUT: true; the input reads as it did. -/
def tensorFullSpec : ChangeSpec := { name := "tensorFull", fn := fun _ => fun
  | [d1, d2, d3] => { results := [.lit (.bool true)], args := [d1, d2, d3] }
  | _ => none }
def tensorFullRow : OpenClaim := { program := "ytoiaegbhnpddlaa", sum := "0f94f291a053ea0ec8b1186d46c031ecffe028845395ef178e377eb10e135f6e", func := "fuller/fullerlaw03.TensorFull", spec := "tensorFull", unfollowed := true, recurses := true, apart := false }
def TensorFullSaid : Prop := tensorFullRow.holds Try.pinned (OpenSpec.ofChange tensorFullSpec)

/-- ITS FALSE NEIGHBOUR: 'it returns false'. Refute it at one input. -/
def tensorFullWrong : ChangeSpec := { name := "tensorFull", fn := fun _ => fun
  | [d1, d2, d3] => { results := [.lit (.bool false)], args := [d1, d2, d3] }
  | _ => none }
def TensorFullWrongFalsely : Prop := tensorFullRow.holds Try.pinned (OpenSpec.ofChange tensorFullWrong)

/-- 'fullerlaw03.TensorParts': WHATEVER THE INPUT: true; the input reads as it did. -/
def tensorPartsSpec : ChangeSpec := { name := "tensorParts", fn := fun _ => fun
  | [d1, d2, d3] => { results := [.lit (.bool true)], args := [d1, d2, d3] }
  | _ => none }
def tensorPartsRow : OpenClaim := { program := "ytoiaegbhnpddlaa", sum := "0f94f291a053ea0ec8b1186d46c031ecffe028845395ef178e377eb10e135f6e", func := "fuller/fullerlaw03.TensorParts", spec := "tensorParts", unfollowed := true, recurses := true, apart := false }
def TensorPartsSaid : Prop := tensorPartsRow.holds Try.pinned (OpenSpec.ofChange tensorPartsSpec)

/-- ITS FALSE NEIGHBOUR: 'it returns false'. Refute it at one input. -/
def tensorPartsWrong : ChangeSpec := { name := "tensorParts", fn := fun _ => fun
  | [d1, d2, d3] => { results := [.lit (.bool false)], args := [d1, d2, d3] }
  | _ => none }
def TensorPartsWrongFalsely : Prop := tensorPartsRow.holds Try.pinned (OpenSpec.ofChange tensorPartsWrong)

/-- 'fullerlaw03.TensorIndex': WHATEVER THE INPUT: true; the input reads as it did. -/
def tensorIndexSpec : ChangeSpec := { name := "tensorIndex", fn := fun _ => fun
  | [d1, d2, d3] => { results := [.lit (.bool true)], args := [d1, d2, d3] }
  | _ => none }
def tensorIndexRow : OpenClaim := { program := "ytoiaegbhnpddlaa", sum := "0f94f291a053ea0ec8b1186d46c031ecffe028845395ef178e377eb10e135f6e", func := "fuller/fullerlaw03.TensorIndex", spec := "tensorIndex", unfollowed := true, recurses := true, apart := false }
def TensorIndexSaid : Prop := tensorIndexRow.holds Try.pinned (OpenSpec.ofChange tensorIndexSpec)

/-- ITS FALSE NEIGHBOUR: 'it returns false'. Refute it at one input. -/
def tensorIndexWrong : ChangeSpec := { name := "tensorIndex", fn := fun _ => fun
  | [d1, d2, d3] => { results := [.lit (.bool false)], args := [d1, d2, d3] }
  | _ => none }
def TensorIndexWrongFalsely : Prop := tensorIndexRow.holds Try.pinned (OpenSpec.ofChange tensorIndexWrong)

/- THE SECOND FORM. 'bulk': how many values and letters a reading holds, each counted each time it is reached (what is shared counts as often as it is met; a slice's spare places count too). A statement '..UptoSaid' is the law's where the arguments, and the package variables that the reading takes, are together of bulk at most 1048576: NARROWER than '..Said'. Prove '..Said' where nothing that the law and all that it calls make is longer than what came in: it says more and counts as full. Else prove '..UptoSaid'. A law counts once. -/
mutual
def uptoBulk {H : Type} : DataW H → Nat
  | .lit (.string bytes) => bytes.length + 1
  | .lit _ => 1
  | .nil => 1
  | .ptr d => uptoBulk d + 1
  | .slice elems spare => uptoBulkAll elems + uptoBulkAll spare + 1
  | .agg parts => uptoBulkAll parts + 1
  | .iface _ d => uptoBulk d + 1
  | .map entries => uptoBulkEntries entries + 1
  | .held _ => 1
def uptoBulkAll {H : Type} : List (DataW H) → Nat
  | [] => 0
  | d :: r => uptoBulk d + uptoBulkAll r
def uptoBulkEntries {H : Type} : List (Lit × DataW H) → Nat
  | [] => 0
  | x :: r => uptoBulkEntry x + uptoBulkEntries r
def uptoBulkEntry {H : Type} : Lit × DataW H → Nat
  | (.string bytes, d) => bytes.length + uptoBulk d + 1
  | (_, d) => uptoBulk d + 1
 end
def uptoSmall : (H : Type) → List (DataW H) → Bool := fun _ ds => decide (uptoBulkAll ds ≤ 1048576)
def OpenSpec.upto (s : _root_.Go.ChangeSpec) : _root_.Go.OpenSpec := { _root_.Go.OpenSpec.ofChange s with cond := some uptoSmall }

/-- 'fullerlaw03.TensorTells', WHERE WHAT IT READS IS OF BULK AT MOST 1048576: true; the input reads as it did. -/
def tensorTellsUptoRow : OpenClaim := { program := "ytoiaegbhnpddlaa", sum := "0f94f291a053ea0ec8b1186d46c031ecffe028845395ef178e377eb10e135f6e", func := "fuller/fullerlaw03.TensorTells", spec := "tensorTells", unfollowed := true, recurses := true, apart := false, narrowed := true }
def TensorTellsUptoSaid : Prop := tensorTellsUptoRow.holds Try.pinned (OpenSpec.upto tensorTellsSpec)

/-- 'fullerlaw03.TensorWrites', WHERE WHAT IT READS IS OF BULK AT MOST 1048576: true; the input reads as it did. -/
def tensorWritesUptoRow : OpenClaim := { program := "ytoiaegbhnpddlaa", sum := "0f94f291a053ea0ec8b1186d46c031ecffe028845395ef178e377eb10e135f6e", func := "fuller/fullerlaw03.TensorWrites", spec := "tensorWrites", unfollowed := true, recurses := true, apart := false, narrowed := true }
def TensorWritesUptoSaid : Prop := tensorWritesUptoRow.holds Try.pinned (OpenSpec.upto tensorWritesSpec)

/-- 'fullerlaw03.TensorSpreads', WHERE WHAT IT READS IS OF BULK AT MOST 1048576: true; the input reads as it did. -/
def tensorSpreadsUptoRow : OpenClaim := { program := "ytoiaegbhnpddlaa", sum := "0f94f291a053ea0ec8b1186d46c031ecffe028845395ef178e377eb10e135f6e", func := "fuller/fullerlaw03.TensorSpreads", spec := "tensorSpreads", unfollowed := true, recurses := true, apart := false, narrowed := true }
def TensorSpreadsUptoSaid : Prop := tensorSpreadsUptoRow.holds Try.pinned (OpenSpec.upto tensorSpreadsSpec)

/-- 'fullerlaw03.TensorFull', WHERE WHAT IT READS IS OF BULK AT MOST 1048576: true; the input reads as it did. -/
def tensorFullUptoRow : OpenClaim := { program := "ytoiaegbhnpddlaa", sum := "0f94f291a053ea0ec8b1186d46c031ecffe028845395ef178e377eb10e135f6e", func := "fuller/fullerlaw03.TensorFull", spec := "tensorFull", unfollowed := true, recurses := true, apart := false, narrowed := true }
def TensorFullUptoSaid : Prop := tensorFullUptoRow.holds Try.pinned (OpenSpec.upto tensorFullSpec)

/-- 'fullerlaw03.TensorParts', WHERE WHAT IT READS IS OF BULK AT MOST 1048576: true; the input reads as it did. -/
def tensorPartsUptoRow : OpenClaim := { program := "ytoiaegbhnpddlaa", sum := "0f94f291a053ea0ec8b1186d46c031ecffe028845395ef178e377eb10e135f6e", func := "fuller/fullerlaw03.TensorParts", spec := "tensorParts", unfollowed := true, recurses := true, apart := false, narrowed := true }
def TensorPartsUptoSaid : Prop := tensorPartsUptoRow.holds Try.pinned (OpenSpec.upto tensorPartsSpec)

/-- 'fullerlaw03.TensorIndex', WHERE WHAT IT READS IS OF BULK AT MOST 1048576: true; the input reads as it did. -/
def tensorIndexUptoRow : OpenClaim := { program := "ytoiaegbhnpddlaa", sum := "0f94f291a053ea0ec8b1186d46c031ecffe028845395ef178e377eb10e135f6e", func := "fuller/fullerlaw03.TensorIndex", spec := "tensorIndex", unfollowed := true, recurses := true, apart := false, narrowed := true }
def TensorIndexUptoSaid : Prop := tensorIndexUptoRow.holds Try.pinned (OpenSpec.upto tensorIndexSpec)

end Rows
end Go.Proofs.Ytoiaegbhnpddlaa
