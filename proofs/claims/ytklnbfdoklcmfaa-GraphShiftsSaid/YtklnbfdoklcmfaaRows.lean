/-
  No cell of these rows narrows 'for every input' (looked for: loops, veiled, ifaces, maps, wideKeys, modest, calm, conditions, laid).
  DERIVED. THE GIVEN ROWS OF THIS SEAT. 6 by the template 'for every input the law returns true; each argument reads behind the call as it read before'; 0 by the template 'total and deterministic' (their statements: YtklnbfdoklcmfaaTotals.lean).
  GIVEN WITH THE SEED: the statements are not yours to turn. If you find one false, say at which input.
  Laid BY PROGRAM, IN A SANDBOX (cutbox-rows.mjs): the forced cells as the released guide's own fill.sh prints them over the translation f5a97cc35f0ac368… (all of the seat's roots in one cut). By AI agents, Wed Nov 11 2026. No macro, syntax, notation, axiom, sorry.
-/
import Derived.Test.YtklnbfdoklcmfaaChecked
import GoSem.Claim
import GoSem.ClaimJoined
import GoSem.ClaimMapViews
import Derived.JoinedTies
import Derived.KernelRfl
namespace Go.Proofs.Ytklnbfdoklcmfaa
/- THE CELL 'sum', in the pinned program and in every row, IS THE sha256 OF THE DUMP (.gsa) THAT YtklnbfdoklcmfaaProg.lean LOADS. Nothing in Lean hashes anything: it is a label: what it is worth is what the hold of that sum in a sandbox is worth. -/
noncomputable def Try.pinned : Pinned := { name := "ytklnbfdoklcmfaa", sum := "f5a97cc35f0ac36867ce90285238464ae1ea95dfaab06985ea6de32eb05e140f", checked := Try.checked }
namespace Rows
def none {H : Type} : Left H := { results := [], args := [] }

/-- 'fullerlaw10.GraphTells': WHATEVER THE INPUT: true; the input reads as it did. -/
def graphTellsSpec : ChangeSpec := { name := "graphTells", fn := fun _ => fun
  | [d1, d2] => { results := [.lit (.bool true)], args := [d1, d2] }
  | _ => none }
def graphTellsRow : OpenClaim := { program := "ytklnbfdoklcmfaa", sum := "f5a97cc35f0ac36867ce90285238464ae1ea95dfaab06985ea6de32eb05e140f", func := "fuller/fullerlaw10.GraphTells", spec := "graphTells", unfollowed := true, recurses := true, apart := false }
def GraphTellsSaid : Prop := graphTellsRow.holds Try.pinned (OpenSpec.ofChange graphTellsSpec)

/-- ITS FALSE NEIGHBOUR: 'it returns false'. Refute it at one input. -/
def graphTellsWrong : ChangeSpec := { name := "graphTells", fn := fun _ => fun
  | [d1, d2] => { results := [.lit (.bool false)], args := [d1, d2] }
  | _ => none }
def GraphTellsWrongFalsely : Prop := graphTellsRow.holds Try.pinned (OpenSpec.ofChange graphTellsWrong)

/-- 'fullerlaw10.GraphCuts': WHATEVER THE INPUT: true; the input reads as it did. -/
def graphCutsSpec : ChangeSpec := { name := "graphCuts", fn := fun _ => fun
  | [d1, d2, d3] => { results := [.lit (.bool true)], args := [d1, d2, d3] }
  | _ => none }
def graphCutsRow : OpenClaim := { program := "ytklnbfdoklcmfaa", sum := "f5a97cc35f0ac36867ce90285238464ae1ea95dfaab06985ea6de32eb05e140f", func := "fuller/fullerlaw10.GraphCuts", spec := "graphCuts", unfollowed := true, recurses := true, apart := false }
def GraphCutsSaid : Prop := graphCutsRow.holds Try.pinned (OpenSpec.ofChange graphCutsSpec)

/-- ITS FALSE NEIGHBOUR: 'it returns false'. Refute it at one input. -/
def graphCutsWrong : ChangeSpec := { name := "graphCuts", fn := fun _ => fun
  | [d1, d2, d3] => { results := [.lit (.bool false)], args := [d1, d2, d3] }
  | _ => none }
def GraphCutsWrongFalsely : Prop := graphCutsRow.holds Try.pinned (OpenSpec.ofChange graphCutsWrong)

/-- 'fullerlaw10.GraphLives': WHATEVER THE INPUT: true; the input reads as it did. -/
def graphLivesSpec : ChangeSpec := { name := "graphLives", fn := fun _ => fun
  | [d] => { results := [.lit (.bool true)], args := [d] }
  | _ => none }
def graphLivesRow : OpenClaim := { program := "ytklnbfdoklcmfaa", sum := "f5a97cc35f0ac36867ce90285238464ae1ea95dfaab06985ea6de32eb05e140f", func := "fuller/fullerlaw10.GraphLives", spec := "graphLives", unfollowed := true, recurses := true, apart := false }
def GraphLivesSaid : Prop := graphLivesRow.holds Try.pinned (OpenSpec.ofChange graphLivesSpec)

/-- ITS FALSE NEIGHBOUR: 'it returns false'. Refute it at one input. -/
def graphLivesWrong : ChangeSpec := { name := "graphLives", fn := fun _ => fun
  | [d] => { results := [.lit (.bool false)], args := [d] }
  | _ => none }
def GraphLivesWrongFalsely : Prop := graphLivesRow.holds Try.pinned (OpenSpec.ofChange graphLivesWrong)

/-- 'fullerlaw10.GraphNames': WHATEVER THE INPUT: true; the input reads as it did. -/
def graphNamesSpec : ChangeSpec := { name := "graphNames", fn := fun _ => fun
  | [d] => { results := [.lit (.bool true)], args := [d] }
  | _ => none }
def graphNamesRow : OpenClaim := { program := "ytklnbfdoklcmfaa", sum := "f5a97cc35f0ac36867ce90285238464ae1ea95dfaab06985ea6de32eb05e140f", func := "fuller/fullerlaw10.GraphNames", spec := "graphNames", unfollowed := true, recurses := true, apart := false }
def GraphNamesSaid : Prop := graphNamesRow.holds Try.pinned (OpenSpec.ofChange graphNamesSpec)

/-- ITS FALSE NEIGHBOUR: 'it returns false'. Refute it at one input. -/
def graphNamesWrong : ChangeSpec := { name := "graphNames", fn := fun _ => fun
  | [d] => { results := [.lit (.bool false)], args := [d] }
  | _ => none }
def GraphNamesWrongFalsely : Prop := graphNamesRow.holds Try.pinned (OpenSpec.ofChange graphNamesWrong)

/-- 'fullerlaw10.GraphShifts': WHATEVER THE INPUT: true; the input reads as it did. -/
def graphShiftsSpec : ChangeSpec := { name := "graphShifts", fn := fun _ => fun
  | [d1, d2] => { results := [.lit (.bool true)], args := [d1, d2] }
  | _ => none }
def graphShiftsRow : OpenClaim := { program := "ytklnbfdoklcmfaa", sum := "f5a97cc35f0ac36867ce90285238464ae1ea95dfaab06985ea6de32eb05e140f", func := "fuller/fullerlaw10.GraphShifts", spec := "graphShifts", unfollowed := true, recurses := true, apart := false }
def GraphShiftsSaid : Prop := graphShiftsRow.holds Try.pinned (OpenSpec.ofChange graphShiftsSpec)

/-- ITS FALSE NEIGHBOUR: 'it returns false'. Refute it at one input. -/
def graphShiftsWrong : ChangeSpec := { name := "graphShifts", fn := fun _ => fun
  | [d1, d2] => { results := [.lit (.bool false)], args := [d1, d2] }
  | _ => none }
def GraphShiftsWrongFalsely : Prop := graphShiftsRow.holds Try.pinned (OpenSpec.ofChange graphShiftsWrong)

/-- 'fullerlaw10.GraphMore': WHATEVER THE INPUT: true; the input reads as it did. -/
def graphMoreSpec : ChangeSpec := { name := "graphMore", fn := fun _ => fun
  | [d] => { results := [.lit (.bool true)], args := [d] }
  | _ => none }
def graphMoreRow : OpenClaim := { program := "ytklnbfdoklcmfaa", sum := "f5a97cc35f0ac36867ce90285238464ae1ea95dfaab06985ea6de32eb05e140f", func := "fuller/fullerlaw10.GraphMore", spec := "graphMore", unfollowed := true, recurses := true, apart := false }
def GraphMoreSaid : Prop := graphMoreRow.holds Try.pinned (OpenSpec.ofChange graphMoreSpec)

/-- ITS FALSE NEIGHBOUR: 'it returns false'. Refute it at one input. -/
def graphMoreWrong : ChangeSpec := { name := "graphMore", fn := fun _ => fun
  | [d] => { results := [.lit (.bool false)], args := [d] }
  | _ => none }
def GraphMoreWrongFalsely : Prop := graphMoreRow.holds Try.pinned (OpenSpec.ofChange graphMoreWrong)

/- THE SECOND FORM. 'bulk': how many values and letters a reading holds, each counted each time it is reached (what is shared counts as often as it is met; a slice's spare places count too). A statement '..UptoSaid' is the law's where the arguments, and the package variables that the reading takes, are together of bulk at most 1048576: NARROWER than '..Said'. Prove '..Said' where nothing that the law and all that it calls make is longer than what came in: it says more and counts as full. Else prove '..UptoSaid'. A law counts once. -/
mutual
def uptoBulk {H : Type} : DataW H → Nat
  | .lit (.string bytes) => bytes.length + 1
  | .lit _ => 1
  | .nil => 1
  | .ptr d => uptoBulk d + 1
  | .slice elems spare => uptoBulkAll elems + uptoBulkAll spare + 1
  | .agg parts => uptoBulkAll parts + 1
  | .iface _ d => uptoBulk d + 1
  | .map entries => uptoBulkEntries entries + 1
  | .held _ => 1
def uptoBulkAll {H : Type} : List (DataW H) → Nat
  | [] => 0
  | d :: r => uptoBulk d + uptoBulkAll r
def uptoBulkEntries {H : Type} : List (Lit × DataW H) → Nat
  | [] => 0
  | x :: r => uptoBulkEntry x + uptoBulkEntries r
def uptoBulkEntry {H : Type} : Lit × DataW H → Nat
  | (.string bytes, d) => bytes.length + uptoBulk d + 1
  | (_, d) => uptoBulk d + 1
 end
def uptoSmall : (H : Type) → List (DataW H) → Bool := fun _ ds => decide (uptoBulkAll ds ≤ 1048576)
def OpenSpec.upto (s : _root_.Go.ChangeSpec) : _root_.Go.OpenSpec := { _root_.Go.OpenSpec.ofChange s with cond := some uptoSmall }

/-- 'fullerlaw10.GraphTells', WHERE WHAT IT READS IS OF BULK AT MOST 1048576: true; the input reads as it did. -/
def graphTellsUptoRow : OpenClaim := { program := "ytklnbfdoklcmfaa", sum := "f5a97cc35f0ac36867ce90285238464ae1ea95dfaab06985ea6de32eb05e140f", func := "fuller/fullerlaw10.GraphTells", spec := "graphTells", unfollowed := true, recurses := true, apart := false, narrowed := true }
def GraphTellsUptoSaid : Prop := graphTellsUptoRow.holds Try.pinned (OpenSpec.upto graphTellsSpec)

/-- 'fullerlaw10.GraphCuts', WHERE WHAT IT READS IS OF BULK AT MOST 1048576: true; the input reads as it did. -/
def graphCutsUptoRow : OpenClaim := { program := "ytklnbfdoklcmfaa", sum := "f5a97cc35f0ac36867ce90285238464ae1ea95dfaab06985ea6de32eb05e140f", func := "fuller/fullerlaw10.GraphCuts", spec := "graphCuts", unfollowed := true, recurses := true, apart := false, narrowed := true }
def GraphCutsUptoSaid : Prop := graphCutsUptoRow.holds Try.pinned (OpenSpec.upto graphCutsSpec)

/-- 'fullerlaw10.GraphLives', WHERE WHAT IT READS IS OF BULK AT MOST 1048576: true; the input reads as it did. -/
def graphLivesUptoRow : OpenClaim := { program := "ytklnbfdoklcmfaa", sum := "f5a97cc35f0ac36867ce90285238464ae1ea95dfaab06985ea6de32eb05e140f", func := "fuller/fullerlaw10.GraphLives", spec := "graphLives", unfollowed := true, recurses := true, apart := false, narrowed := true }
def GraphLivesUptoSaid : Prop := graphLivesUptoRow.holds Try.pinned (OpenSpec.upto graphLivesSpec)

/-- 'fullerlaw10.GraphNames', WHERE WHAT IT READS IS OF BULK AT MOST 1048576: true; the input reads as it did. -/
def graphNamesUptoRow : OpenClaim := { program := "ytklnbfdoklcmfaa", sum := "f5a97cc35f0ac36867ce90285238464ae1ea95dfaab06985ea6de32eb05e140f", func := "fuller/fullerlaw10.GraphNames", spec := "graphNames", unfollowed := true, recurses := true, apart := false, narrowed := true }
def GraphNamesUptoSaid : Prop := graphNamesUptoRow.holds Try.pinned (OpenSpec.upto graphNamesSpec)

/-- 'fullerlaw10.GraphShifts', WHERE WHAT IT READS IS OF BULK AT MOST 1048576: true; the input reads as it did. -/
def graphShiftsUptoRow : OpenClaim := { program := "ytklnbfdoklcmfaa", sum := "f5a97cc35f0ac36867ce90285238464ae1ea95dfaab06985ea6de32eb05e140f", func := "fuller/fullerlaw10.GraphShifts", spec := "graphShifts", unfollowed := true, recurses := true, apart := false, narrowed := true }
def GraphShiftsUptoSaid : Prop := graphShiftsUptoRow.holds Try.pinned (OpenSpec.upto graphShiftsSpec)

/-- 'fullerlaw10.GraphMore', WHERE WHAT IT READS IS OF BULK AT MOST 1048576: true; the input reads as it did. -/
def graphMoreUptoRow : OpenClaim := { program := "ytklnbfdoklcmfaa", sum := "f5a97cc35f0ac36867ce90285238464ae1ea95dfaab06985ea6de32eb05e140f", func := "fuller/fullerlaw10.GraphMore", spec := "graphMore", unfollowed := true, recurses := true, apart := false, narrowed := true }
def GraphMoreUptoSaid : Prop := graphMoreUptoRow.holds Try.pinned (OpenSpec.upto graphMoreSpec)

end Rows
end Go.Proofs.Ytklnbfdoklcmfaa
