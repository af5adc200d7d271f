/-
  No cell of these rows narrows 'for every input' (looked for: loops, veiled, ifaces, maps, wideKeys, modest, calm, conditions, laid).
  DERIVED. THE GIVEN ROWS OF THIS SEAT. 5 by the template 'for every input the law returns true; each argument reads behind the call as it read before'; 0 by the template 'total and deterministic' (their statements: YtdjlpbekoggmiaaTotals.lean).
  GIVEN WITH THE SEED: the statements are not yours to turn. If you find one false, say at which input.
  Laid BY PROGRAM, IN A SANDBOX (cutbox-rows.mjs): the forced cells as the released guide's own fill.sh prints them over the translation fab3c10af3a306c6… (all of the seat's roots in one cut). By AI agents, Wed Nov 11 2026. No macro, syntax, notation, axiom, sorry.
-/
import Derived.Test.YtdjlpbekoggmiaaChecked
import GoSem.Claim
import GoSem.ClaimJoined
import GoSem.ClaimMapViews
import Derived.JoinedTies
import Derived.KernelRfl
namespace Go.Proofs.Ytdjlpbekoggmiaa
/- THE CELL 'sum', in the pinned program and in every row, IS THE sha256 OF THE DUMP (.gsa) THAT YtdjlpbekoggmiaaProg.lean LOADS. Nothing in Lean hashes anything: it is a label: what it is worth is what the hold of that sum in a sandbox is worth. -/
noncomputable def Try.pinned : Pinned := { name := "ytdjlpbekoggmiaa", sum := "fab3c10af3a306c6c86ec19a8c111c90477d71ccc60908ea8ef5a373ffb1a20c", checked := Try.checked }
namespace Rows
def none {H : Type} : Left H := { results := [], args := [] }

/-- 'fullerlaw17.ChainTells': WHATEVER THE INPUT: true; the input reads as it did. -/
def chainTellsSpec : ChangeSpec := { name := "chainTells", fn := fun _ => fun
  | [d1, d2, d3] => { results := [.lit (.bool true)], args := [d1, d2, d3] }
  | _ => none }
def chainTellsRow : OpenClaim := { program := "ytdjlpbekoggmiaa", sum := "fab3c10af3a306c6c86ec19a8c111c90477d71ccc60908ea8ef5a373ffb1a20c", func := "fuller/fullerlaw17.ChainTells", spec := "chainTells", unfollowed := true, recurses := true, apart := false }
def ChainTellsSaid : Prop := chainTellsRow.holds Try.pinned (OpenSpec.ofChange chainTellsSpec)

/-- ITS FALSE NEIGHBOUR: 'it returns false'. Refute it at one input. -/
def chainTellsWrong : ChangeSpec := { name := "chainTells", fn := fun _ => fun
  | [d1, d2, d3] => { results := [.lit (.bool false)], args := [d1, d2, d3] }
  | _ => none }
def ChainTellsWrongFalsely : Prop := chainTellsRow.holds Try.pinned (OpenSpec.ofChange chainTellsWrong)

/-- 'fullerlaw17.ChainPuts': WHATEVER THE INPUT: true; the input reads as it did. -/
def chainPutsSpec : ChangeSpec := { name := "chainPuts", fn := fun _ => fun
  | [d1, d2, d3, d4] => { results := [.lit (.bool true)], args := [d1, d2, d3, d4] }
  | _ => none }
def chainPutsRow : OpenClaim := { program := "ytdjlpbekoggmiaa", sum := "fab3c10af3a306c6c86ec19a8c111c90477d71ccc60908ea8ef5a373ffb1a20c", func := "fuller/fullerlaw17.ChainPuts", spec := "chainPuts", unfollowed := true, recurses := true, apart := false }
def ChainPutsSaid : Prop := chainPutsRow.holds Try.pinned (OpenSpec.ofChange chainPutsSpec)

/-- ITS FALSE NEIGHBOUR: 'it returns false'. Refute it at one input. -/
def chainPutsWrong : ChangeSpec := { name := "chainPuts", fn := fun _ => fun
  | [d1, d2, d3, d4] => { results := [.lit (.bool false)], args := [d1, d2, d3, d4] }
  | _ => none }
def ChainPutsWrongFalsely : Prop := chainPutsRow.holds Try.pinned (OpenSpec.ofChange chainPutsWrong)

/-- 'fullerlaw17.ChainTrims': WHATEVER THE INPUT: true; the input reads as it did. -/
def chainTrimsSpec : ChangeSpec := { name := "chainTrims", fn := fun _ => fun
  | [d1, d2, d3] => { results := [.lit (.bool true)], args := [d1, d2, d3] }
  | _ => none }
def chainTrimsRow : OpenClaim := { program := "ytdjlpbekoggmiaa", sum := "fab3c10af3a306c6c86ec19a8c111c90477d71ccc60908ea8ef5a373ffb1a20c", func := "fuller/fullerlaw17.ChainTrims", spec := "chainTrims", unfollowed := true, recurses := true, apart := false }
def ChainTrimsSaid : Prop := chainTrimsRow.holds Try.pinned (OpenSpec.ofChange chainTrimsSpec)

/-- ITS FALSE NEIGHBOUR: 'it returns false'. Refute it at one input. -/
def chainTrimsWrong : ChangeSpec := { name := "chainTrims", fn := fun _ => fun
  | [d1, d2, d3] => { results := [.lit (.bool false)], args := [d1, d2, d3] }
  | _ => none }
def ChainTrimsWrongFalsely : Prop := chainTrimsRow.holds Try.pinned (OpenSpec.ofChange chainTrimsWrong)

/-- 'fullerlaw17.ChainCuts': WHATEVER THE INPUT: true; the input reads as it did. -/
def chainCutsSpec : ChangeSpec := { name := "chainCuts", fn := fun _ => fun
  | [d1, d2, d3] => { results := [.lit (.bool true)], args := [d1, d2, d3] }
  | _ => none }
def chainCutsRow : OpenClaim := { program := "ytdjlpbekoggmiaa", sum := "fab3c10af3a306c6c86ec19a8c111c90477d71ccc60908ea8ef5a373ffb1a20c", func := "fuller/fullerlaw17.ChainCuts", spec := "chainCuts", unfollowed := true, recurses := true, apart := false }
def ChainCutsSaid : Prop := chainCutsRow.holds Try.pinned (OpenSpec.ofChange chainCutsSpec)

/-- ITS FALSE NEIGHBOUR: 'it returns false'. Refute it at one input. -/
def chainCutsWrong : ChangeSpec := { name := "chainCuts", fn := fun _ => fun
  | [d1, d2, d3] => { results := [.lit (.bool false)], args := [d1, d2, d3] }
  | _ => none }
def ChainCutsWrongFalsely : Prop := chainCutsRow.holds Try.pinned (OpenSpec.ofChange chainCutsWrong)

/-- 'fullerlaw17.ChainMany': WHATEVER THE INPUT: true; the input reads as it did. -/
def chainManySpec : ChangeSpec := { name := "chainMany", fn := fun _ => fun
  | [d1, d2] => { results := [.lit (.bool true)], args := [d1, d2] }
  | _ => none }
def chainManyRow : OpenClaim := { program := "ytdjlpbekoggmiaa", sum := "fab3c10af3a306c6c86ec19a8c111c90477d71ccc60908ea8ef5a373ffb1a20c", func := "fuller/fullerlaw17.ChainMany", spec := "chainMany", unfollowed := true, recurses := true, apart := false }
def ChainManySaid : Prop := chainManyRow.holds Try.pinned (OpenSpec.ofChange chainManySpec)

/-- ITS FALSE NEIGHBOUR: 'it returns false'. Refute it at one input. -/
def chainManyWrong : ChangeSpec := { name := "chainMany", fn := fun _ => fun
  | [d1, d2] => { results := [.lit (.bool false)], args := [d1, d2] }
  | _ => none }
def ChainManyWrongFalsely : Prop := chainManyRow.holds Try.pinned (OpenSpec.ofChange chainManyWrong)

/- THE SECOND FORM. 'bulk': how many values and letters a reading holds, each counted each time it is reached (what is shared counts as often as it is met; a slice's spare places count too). A statement '..UptoSaid' is the law's where the arguments, and the package variables that the reading takes, are together of bulk at most 1048576: NARROWER than '..Said'. Prove '..Said' where nothing that the law and all that it calls make is longer than what came in: it says more and counts as full. Else prove '..UptoSaid'. A law counts once. -/
mutual
def uptoBulk {H : Type} : DataW H → Nat
  | .lit (.string bytes) => bytes.length + 1
  | .lit _ => 1
  | .nil => 1
  | .ptr d => uptoBulk d + 1
  | .slice elems spare => uptoBulkAll elems + uptoBulkAll spare + 1
  | .agg parts => uptoBulkAll parts + 1
  | .iface _ d => uptoBulk d + 1
  | .map entries => uptoBulkEntries entries + 1
  | .held _ => 1
def uptoBulkAll {H : Type} : List (DataW H) → Nat
  | [] => 0
  | d :: r => uptoBulk d + uptoBulkAll r
def uptoBulkEntries {H : Type} : List (Lit × DataW H) → Nat
  | [] => 0
  | x :: r => uptoBulkEntry x + uptoBulkEntries r
def uptoBulkEntry {H : Type} : Lit × DataW H → Nat
  | (.string bytes, d) => bytes.length + uptoBulk d + 1
  | (_, d) => uptoBulk d + 1
 end
def uptoSmall : (H : Type) → List (DataW H) → Bool := fun _ ds => decide (uptoBulkAll ds ≤ 1048576)
def OpenSpec.upto (s : _root_.Go.ChangeSpec) : _root_.Go.OpenSpec := { _root_.Go.OpenSpec.ofChange s with cond := some uptoSmall }

/-- 'fullerlaw17.ChainTells', WHERE WHAT IT READS IS OF BULK AT MOST 1048576: true; the input reads as it did. -/
def chainTellsUptoRow : OpenClaim := { program := "ytdjlpbekoggmiaa", sum := "fab3c10af3a306c6c86ec19a8c111c90477d71ccc60908ea8ef5a373ffb1a20c", func := "fuller/fullerlaw17.ChainTells", spec := "chainTells", unfollowed := true, recurses := true, apart := false, narrowed := true }
def ChainTellsUptoSaid : Prop := chainTellsUptoRow.holds Try.pinned (OpenSpec.upto chainTellsSpec)

/-- 'fullerlaw17.ChainPuts', WHERE WHAT IT READS IS OF BULK AT MOST 1048576: true; the input reads as it did. -/
def chainPutsUptoRow : OpenClaim := { program := "ytdjlpbekoggmiaa", sum := "fab3c10af3a306c6c86ec19a8c111c90477d71ccc60908ea8ef5a373ffb1a20c", func := "fuller/fullerlaw17.ChainPuts", spec := "chainPuts", unfollowed := true, recurses := true, apart := false, narrowed := true }
def ChainPutsUptoSaid : Prop := chainPutsUptoRow.holds Try.pinned (OpenSpec.upto chainPutsSpec)

/-- 'fullerlaw17.ChainTrims', WHERE WHAT IT READS IS OF BULK AT MOST 1048576: true; the input reads as it did. -/
def chainTrimsUptoRow : OpenClaim := { program := "ytdjlpbekoggmiaa", sum := "fab3c10af3a306c6c86ec19a8c111c90477d71ccc60908ea8ef5a373ffb1a20c", func := "fuller/fullerlaw17.ChainTrims", spec := "chainTrims", unfollowed := true, recurses := true, apart := false, narrowed := true }
def ChainTrimsUptoSaid : Prop := chainTrimsUptoRow.holds Try.pinned (OpenSpec.upto chainTrimsSpec)

/-- 'fullerlaw17.ChainCuts', WHERE WHAT IT READS IS OF BULK AT MOST 1048576: true; the input reads as it did. -/
def chainCutsUptoRow : OpenClaim := { program := "ytdjlpbekoggmiaa", sum := "fab3c10af3a306c6c86ec19a8c111c90477d71ccc60908ea8ef5a373ffb1a20c", func := "fuller/fullerlaw17.ChainCuts", spec := "chainCuts", unfollowed := true, recurses := true, apart := false, narrowed := true }
def ChainCutsUptoSaid : Prop := chainCutsUptoRow.holds Try.pinned (OpenSpec.upto chainCutsSpec)

/-- 'fullerlaw17.ChainMany', WHERE WHAT IT READS IS OF BULK AT MOST 1048576: true; the input reads as it did. -/
def chainManyUptoRow : OpenClaim := { program := "ytdjlpbekoggmiaa", sum := "fab3c10af3a306c6c86ec19a8c111c90477d71ccc60908ea8ef5a373ffb1a20c", func := "fuller/fullerlaw17.ChainMany", spec := "chainMany", unfollowed := true, recurses := true, apart := false, narrowed := true }
def ChainManyUptoSaid : Prop := chainManyUptoRow.holds Try.pinned (OpenSpec.upto chainManySpec)

end Rows
end Go.Proofs.Ytdjlpbekoggmiaa
