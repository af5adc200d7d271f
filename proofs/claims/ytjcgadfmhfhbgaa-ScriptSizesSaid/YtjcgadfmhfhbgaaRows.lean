/-
  No cell of these rows narrows 'for every input' (looked for: loops, veiled, ifaces, maps, wideKeys, modest, calm, conditions, laid).
  DERIVED. THE GIVEN ROWS OF THIS SEAT. 5 by the template 'for every input the law returns true; each argument reads behind the call as it read before'; 0 by the template 'total and deterministic' (their statements: YtjcgadfmhfhbgaaTotals.lean).
  GIVEN WITH THE SEED: the statements are not yours to turn. If you find one false, say at which input.
  Laid BY PROGRAM, IN A SANDBOX (cutbox-rows.mjs): the forced cells as the released guide's own fill.sh prints them over the translation 00d81159931ec41d… (all of the seat's roots in one cut). By AI agents, Wed Nov 11 2026. No macro, syntax, notation, axiom, sorry.
-/
import Derived.Test.YtjcgadfmhfhbgaaChecked
import GoSem.Claim
import GoSem.ClaimJoined
import GoSem.ClaimMapViews
import Derived.JoinedTies
import Derived.KernelRfl
namespace Go.Proofs.Ytjcgadfmhfhbgaa
/- THE CELL 'sum', in the pinned program and in every row, IS THE sha256 OF THE DUMP (.gsa) THAT YtjcgadfmhfhbgaaProg.lean LOADS. Nothing in Lean hashes anything: it is a label: what it is worth is what the hold of that sum in a sandbox is worth. -/
noncomputable def Try.pinned : Pinned := { name := "ytjcgadfmhfhbgaa", sum := "00d81159931ec41d88dac806cb051801679590fba28afb4f8ba00b394c8880d3", checked := Try.checked }
namespace Rows
def none {H : Type} : Left H := { results := [], args := [] }

/-- 'fullerlaw23.ScriptTells': WHATEVER THE INPUT: true; the input reads as it did. -/
def scriptTellsSpec : ChangeSpec := { name := "scriptTells", fn := fun _ => fun
  | [d1, d2, d3] => { results := [.lit (.bool true)], args := [d1, d2, d3] }
  | _ => none }
def scriptTellsRow : OpenClaim := { program := "ytjcgadfmhfhbgaa", sum := "00d81159931ec41d88dac806cb051801679590fba28afb4f8ba00b394c8880d3", func := "fuller/fullerlaw23.ScriptTells", spec := "scriptTells", unfollowed := true, recurses := true, apart := false }
def ScriptTellsSaid : Prop := scriptTellsRow.holds Try.pinned (OpenSpec.ofChange scriptTellsSpec)

/-- ITS FALSE NEIGHBOUR: 'it returns false'. Refute it at one input. -/
def scriptTellsWrong : ChangeSpec := { name := "scriptTells", fn := fun _ => fun
  | [d1, d2, d3] => { results := [.lit (.bool false)], args := [d1, d2, d3] }
  | _ => none }
def ScriptTellsWrongFalsely : Prop := scriptTellsRow.holds Try.pinned (OpenSpec.ofChange scriptTellsWrong)

/-- 'fullerlaw23.ScriptBack': WHATEVER THE INPUT: true; the input reads as it did. -/
def scriptBackSpec : ChangeSpec := { name := "scriptBack", fn := fun _ => fun
  | [d1, d2] => { results := [.lit (.bool true)], args := [d1, d2] }
  | _ => none }
def scriptBackRow : OpenClaim := { program := "ytjcgadfmhfhbgaa", sum := "00d81159931ec41d88dac806cb051801679590fba28afb4f8ba00b394c8880d3", func := "fuller/fullerlaw23.ScriptBack", spec := "scriptBack", unfollowed := true, recurses := true, apart := false }
def ScriptBackSaid : Prop := scriptBackRow.holds Try.pinned (OpenSpec.ofChange scriptBackSpec)

/-- ITS FALSE NEIGHBOUR: 'it returns false'. Refute it at one input. -/
def scriptBackWrong : ChangeSpec := { name := "scriptBack", fn := fun _ => fun
  | [d1, d2] => { results := [.lit (.bool false)], args := [d1, d2] }
  | _ => none }
def ScriptBackWrongFalsely : Prop := scriptBackRow.holds Try.pinned (OpenSpec.ofChange scriptBackWrong)

/-- 'fullerlaw23.ScriptJoins': WHATEVER THE INPUT: true; the input reads as it did. -/
def scriptJoinsSpec : ChangeSpec := { name := "scriptJoins", fn := fun _ => fun
  | [d1, d2, d3] => { results := [.lit (.bool true)], args := [d1, d2, d3] }
  | _ => none }
def scriptJoinsRow : OpenClaim := { program := "ytjcgadfmhfhbgaa", sum := "00d81159931ec41d88dac806cb051801679590fba28afb4f8ba00b394c8880d3", func := "fuller/fullerlaw23.ScriptJoins", spec := "scriptJoins", unfollowed := true, recurses := true, apart := false }
def ScriptJoinsSaid : Prop := scriptJoinsRow.holds Try.pinned (OpenSpec.ofChange scriptJoinsSpec)

/-- ITS FALSE NEIGHBOUR: 'it returns false'. Refute it at one input. -/
def scriptJoinsWrong : ChangeSpec := { name := "scriptJoins", fn := fun _ => fun
  | [d1, d2, d3] => { results := [.lit (.bool false)], args := [d1, d2, d3] }
  | _ => none }
def ScriptJoinsWrongFalsely : Prop := scriptJoinsRow.holds Try.pinned (OpenSpec.ofChange scriptJoinsWrong)

/-- 'fullerlaw23.ScriptSizes': WHATEVER THE INPUT: true; the input reads as it did. -/
def scriptSizesSpec : ChangeSpec := { name := "scriptSizes", fn := fun _ => fun
  | [d] => { results := [.lit (.bool true)], args := [d] }
  | _ => none }
def scriptSizesRow : OpenClaim := { program := "ytjcgadfmhfhbgaa", sum := "00d81159931ec41d88dac806cb051801679590fba28afb4f8ba00b394c8880d3", func := "fuller/fullerlaw23.ScriptSizes", spec := "scriptSizes", unfollowed := true, recurses := true, apart := false }
def ScriptSizesSaid : Prop := scriptSizesRow.holds Try.pinned (OpenSpec.ofChange scriptSizesSpec)

/-- ITS FALSE NEIGHBOUR: 'it returns false'. Refute it at one input. -/
def scriptSizesWrong : ChangeSpec := { name := "scriptSizes", fn := fun _ => fun
  | [d] => { results := [.lit (.bool false)], args := [d] }
  | _ => none }
def ScriptSizesWrongFalsely : Prop := scriptSizesRow.holds Try.pinned (OpenSpec.ofChange scriptSizesWrong)

/-- 'fullerlaw23.ScriptApart': WHATEVER THE INPUT: true; the input reads as it did. -/
def scriptApartSpec : ChangeSpec := { name := "scriptApart", fn := fun _ => fun
  | [d1, d2] => { results := [.lit (.bool true)], args := [d1, d2] }
  | _ => none }
def scriptApartRow : OpenClaim := { program := "ytjcgadfmhfhbgaa", sum := "00d81159931ec41d88dac806cb051801679590fba28afb4f8ba00b394c8880d3", func := "fuller/fullerlaw23.ScriptApart", spec := "scriptApart", unfollowed := true, recurses := true, apart := false }
def ScriptApartSaid : Prop := scriptApartRow.holds Try.pinned (OpenSpec.ofChange scriptApartSpec)

/-- ITS FALSE NEIGHBOUR: 'it returns false'. Refute it at one input. -/
def scriptApartWrong : ChangeSpec := { name := "scriptApart", fn := fun _ => fun
  | [d1, d2] => { results := [.lit (.bool false)], args := [d1, d2] }
  | _ => none }
def ScriptApartWrongFalsely : Prop := scriptApartRow.holds Try.pinned (OpenSpec.ofChange scriptApartWrong)

/- THE SECOND FORM. 'bulk': how many values and letters a reading holds, each counted each time it is reached (what is shared counts as often as it is met; a slice's spare places count too). A statement '..UptoSaid' is the law's where the arguments, and the package variables that the reading takes, are together of bulk at most 1048576: NARROWER than '..Said'. Prove '..Said' where nothing that the law and all that it calls make is longer than what came in: it says more and counts as full. Else prove '..UptoSaid'. A law counts once. -/
mutual
def uptoBulk {H : Type} : DataW H → Nat
  | .lit (.string bytes) => bytes.length + 1
  | .lit _ => 1
  | .nil => 1
  | .ptr d => uptoBulk d + 1
  | .slice elems spare => uptoBulkAll elems + uptoBulkAll spare + 1
  | .agg parts => uptoBulkAll parts + 1
  | .iface _ d => uptoBulk d + 1
  | .map entries => uptoBulkEntries entries + 1
  | .held _ => 1
def uptoBulkAll {H : Type} : List (DataW H) → Nat
  | [] => 0
  | d :: r => uptoBulk d + uptoBulkAll r
def uptoBulkEntries {H : Type} : List (Lit × DataW H) → Nat
  | [] => 0
  | x :: r => uptoBulkEntry x + uptoBulkEntries r
def uptoBulkEntry {H : Type} : Lit × DataW H → Nat
  | (.string bytes, d) => bytes.length + uptoBulk d + 1
  | (_, d) => uptoBulk d + 1
 end
def uptoSmall : (H : Type) → List (DataW H) → Bool := fun _ ds => decide (uptoBulkAll ds ≤ 1048576)
def OpenSpec.upto (s : _root_.Go.ChangeSpec) : _root_.Go.OpenSpec := { _root_.Go.OpenSpec.ofChange s with cond := some uptoSmall }

/-- 'fullerlaw23.ScriptTells', WHERE WHAT IT READS IS OF BULK AT MOST 1048576: true; the input reads as it did. -/
def scriptTellsUptoRow : OpenClaim := { program := "ytjcgadfmhfhbgaa", sum := "00d81159931ec41d88dac806cb051801679590fba28afb4f8ba00b394c8880d3", func := "fuller/fullerlaw23.ScriptTells", spec := "scriptTells", unfollowed := true, recurses := true, apart := false, narrowed := true }
def ScriptTellsUptoSaid : Prop := scriptTellsUptoRow.holds Try.pinned (OpenSpec.upto scriptTellsSpec)

/-- 'fullerlaw23.ScriptBack', WHERE WHAT IT READS IS OF BULK AT MOST 1048576: true; the input reads as it did. -/
def scriptBackUptoRow : OpenClaim := { program := "ytjcgadfmhfhbgaa", sum := "00d81159931ec41d88dac806cb051801679590fba28afb4f8ba00b394c8880d3", func := "fuller/fullerlaw23.ScriptBack", spec := "scriptBack", unfollowed := true, recurses := true, apart := false, narrowed := true }
def ScriptBackUptoSaid : Prop := scriptBackUptoRow.holds Try.pinned (OpenSpec.upto scriptBackSpec)

/-- 'fullerlaw23.ScriptJoins', WHERE WHAT IT READS IS OF BULK AT MOST 1048576: true; the input reads as it did. -/
def scriptJoinsUptoRow : OpenClaim := { program := "ytjcgadfmhfhbgaa", sum := "00d81159931ec41d88dac806cb051801679590fba28afb4f8ba00b394c8880d3", func := "fuller/fullerlaw23.ScriptJoins", spec := "scriptJoins", unfollowed := true, recurses := true, apart := false, narrowed := true }
def ScriptJoinsUptoSaid : Prop := scriptJoinsUptoRow.holds Try.pinned (OpenSpec.upto scriptJoinsSpec)

/-- 'fullerlaw23.ScriptSizes', WHERE WHAT IT READS IS OF BULK AT MOST 1048576: true; the input reads as it did. -/
def scriptSizesUptoRow : OpenClaim := { program := "ytjcgadfmhfhbgaa", sum := "00d81159931ec41d88dac806cb051801679590fba28afb4f8ba00b394c8880d3", func := "fuller/fullerlaw23.ScriptSizes", spec := "scriptSizes", unfollowed := true, recurses := true, apart := false, narrowed := true }
def ScriptSizesUptoSaid : Prop := scriptSizesUptoRow.holds Try.pinned (OpenSpec.upto scriptSizesSpec)

/-- 'fullerlaw23.ScriptApart', WHERE WHAT IT READS IS OF BULK AT MOST 1048576: true; the input reads as it did. -/
def scriptApartUptoRow : OpenClaim := { program := "ytjcgadfmhfhbgaa", sum := "00d81159931ec41d88dac806cb051801679590fba28afb4f8ba00b394c8880d3", func := "fuller/fullerlaw23.ScriptApart", spec := "scriptApart", unfollowed := true, recurses := true, apart := false, narrowed := true }
def ScriptApartUptoSaid : Prop := scriptApartUptoRow.holds Try.pinned (OpenSpec.upto scriptApartSpec)

end Rows
end Go.Proofs.Ytjcgadfmhfhbgaa
