/-
  No cell of these rows narrows 'for every input' (looked for: loops, veiled, ifaces, maps, wideKeys, modest, calm, conditions, laid).
  DERIVED. THE GIVEN ROWS OF THIS SEAT. 12 by the template 'for every input the law returns true; each argument reads behind the call as it read before'; 0 by the template 'total and deterministic' (their statements: YthbkncklliiooaaTotals.lean).
  GIVEN WITH THE SEED: the statements are not yours to turn. If you find one false, say at which input.
  Laid BY PROGRAM, IN A SANDBOX (cutbox-rows.mjs): the forced cells as the released guide's own fill.sh prints them over the translation 7396ba3b60cd06b8… (all of the seat's roots in one cut). By AI agents, Wed Nov 11 2026. No macro, syntax, notation, axiom, sorry.
-/
import Derived.Test.YthbkncklliiooaaChecked
import GoSem.Claim
import GoSem.ClaimJoined
import GoSem.ClaimMapViews
import Derived.JoinedTies
import Derived.KernelRfl
namespace Go.Proofs.Ythbkncklliiooaa
/- THE CELL 'sum', in the pinned program and in every row, IS THE sha256 OF THE DUMP (.gsa) THAT YthbkncklliiooaaProg.lean LOADS. Nothing in Lean hashes anything: it is a label: what it is worth is what the hold of that sum in a sandbox is worth. -/
noncomputable def Try.pinned : Pinned := { name := "ythbkncklliiooaa", sum := "7396ba3b60cd06b8c8f5c344a430c1fa7eefddf02ad87ca287c1c4860c7d48bb", checked := Try.checked }
namespace Rows
def none {H : Type} : Left H := { results := [], args := [] }

/-- 'stepstonelaw04.PlanRight': WHATEVER THE INPUT: true; the input reads as it did. -/
def planRightSpec : ChangeSpec := { name := "planRight", fn := fun _ => fun
  | [d] => { results := [.lit (.bool true)], args := [d] }
  | _ => none }
def planRightRow : OpenClaim := { program := "ythbkncklliiooaa", sum := "7396ba3b60cd06b8c8f5c344a430c1fa7eefddf02ad87ca287c1c4860c7d48bb", func := "stepstone/stepstonelaw04.PlanRight", spec := "planRight", apart := false }
def PlanRightSaid : Prop := planRightRow.holds Try.pinned (OpenSpec.ofChange planRightSpec)

/-- ITS FALSE NEIGHBOUR: 'it returns false'. Refute it at one input. -/
def planRightWrong : ChangeSpec := { name := "planRight", fn := fun _ => fun
  | [d] => { results := [.lit (.bool false)], args := [d] }
  | _ => none }
def PlanRightWrongFalsely : Prop := planRightRow.holds Try.pinned (OpenSpec.ofChange planRightWrong)

/-- 'stepstonelaw04.PlanCells': WHATEVER THE INPUT: true; the input reads as it did. -/
def planCellsSpec : ChangeSpec := { name := "planCells", fn := fun _ => fun
  | [d1, d2, d3] => { results := [.lit (.bool true)], args := [d1, d2, d3] }
  | _ => none }
def planCellsRow : OpenClaim := { program := "ythbkncklliiooaa", sum := "7396ba3b60cd06b8c8f5c344a430c1fa7eefddf02ad87ca287c1c4860c7d48bb", func := "stepstone/stepstonelaw04.PlanCells", spec := "planCells", apart := false }
def PlanCellsSaid : Prop := planCellsRow.holds Try.pinned (OpenSpec.ofChange planCellsSpec)

/-- ITS FALSE NEIGHBOUR: 'it returns false'. Refute it at one input. -/
def planCellsWrong : ChangeSpec := { name := "planCells", fn := fun _ => fun
  | [d1, d2, d3] => { results := [.lit (.bool false)], args := [d1, d2, d3] }
  | _ => none }
def PlanCellsWrongFalsely : Prop := planCellsRow.holds Try.pinned (OpenSpec.ofChange planCellsWrong)

/-- 'stepstonelaw04.PlanWhere': WHATEVER THE INPUT: true; the input reads as it did. -/
def planWhereSpec : ChangeSpec := { name := "planWhere", fn := fun _ => fun
  | [d1, d2] => { results := [.lit (.bool true)], args := [d1, d2] }
  | _ => none }
def planWhereRow : OpenClaim := { program := "ythbkncklliiooaa", sum := "7396ba3b60cd06b8c8f5c344a430c1fa7eefddf02ad87ca287c1c4860c7d48bb", func := "stepstone/stepstonelaw04.PlanWhere", spec := "planWhere", apart := false }
def PlanWhereSaid : Prop := planWhereRow.holds Try.pinned (OpenSpec.ofChange planWhereSpec)

/-- ITS FALSE NEIGHBOUR: 'it returns false'. Refute it at one input. -/
def planWhereWrong : ChangeSpec := { name := "planWhere", fn := fun _ => fun
  | [d1, d2] => { results := [.lit (.bool false)], args := [d1, d2] }
  | _ => none }
def PlanWhereWrongFalsely : Prop := planWhereRow.holds Try.pinned (OpenSpec.ofChange planWhereWrong)

/-- 'stepstonelaw04.PlanApart': WHATEVER THE INPUT: true; the input reads as it did. -/
def planApartSpec : ChangeSpec := { name := "planApart", fn := fun _ => fun
  | [d1, d2, d3] => { results := [.lit (.bool true)], args := [d1, d2, d3] }
  | _ => none }
def planApartRow : OpenClaim := { program := "ythbkncklliiooaa", sum := "7396ba3b60cd06b8c8f5c344a430c1fa7eefddf02ad87ca287c1c4860c7d48bb", func := "stepstone/stepstonelaw04.PlanApart", spec := "planApart", apart := false }
def PlanApartSaid : Prop := planApartRow.holds Try.pinned (OpenSpec.ofChange planApartSpec)

/-- ITS FALSE NEIGHBOUR: 'it returns false'. Refute it at one input. -/
def planApartWrong : ChangeSpec := { name := "planApart", fn := fun _ => fun
  | [d1, d2, d3] => { results := [.lit (.bool false)], args := [d1, d2, d3] }
  | _ => none }
def PlanApartWrongFalsely : Prop := planApartRow.holds Try.pinned (OpenSpec.ofChange planApartWrong)

/-- 'stepstonelaw04.PlanWhole': WHATEVER THE INPUT: true; the input reads as it did. -/
def planWholeSpec : ChangeSpec := { name := "planWhole", fn := fun _ => fun
  | [d] => { results := [.lit (.bool true)], args := [d] }
  | _ => none }
def planWholeRow : OpenClaim := { program := "ythbkncklliiooaa", sum := "7396ba3b60cd06b8c8f5c344a430c1fa7eefddf02ad87ca287c1c4860c7d48bb", func := "stepstone/stepstonelaw04.PlanWhole", spec := "planWhole", apart := false }
def PlanWholeSaid : Prop := planWholeRow.holds Try.pinned (OpenSpec.ofChange planWholeSpec)

/-- ITS FALSE NEIGHBOUR: 'it returns false'. Refute it at one input. -/
def planWholeWrong : ChangeSpec := { name := "planWhole", fn := fun _ => fun
  | [d] => { results := [.lit (.bool false)], args := [d] }
  | _ => none }
def PlanWholeWrongFalsely : Prop := planWholeRow.holds Try.pinned (OpenSpec.ofChange planWholeWrong)

/-- 'stepstonelaw04.PlanMore': WHATEVER THE INPUT: true; the input reads as it did. -/
def planMoreSpec : ChangeSpec := { name := "planMore", fn := fun _ => fun
  | [d1, d2, d3] => { results := [.lit (.bool true)], args := [d1, d2, d3] }
  | _ => none }
def planMoreRow : OpenClaim := { program := "ythbkncklliiooaa", sum := "7396ba3b60cd06b8c8f5c344a430c1fa7eefddf02ad87ca287c1c4860c7d48bb", func := "stepstone/stepstonelaw04.PlanMore", spec := "planMore", apart := false }
def PlanMoreSaid : Prop := planMoreRow.holds Try.pinned (OpenSpec.ofChange planMoreSpec)

/-- ITS FALSE NEIGHBOUR: 'it returns false'. Refute it at one input. -/
def planMoreWrong : ChangeSpec := { name := "planMore", fn := fun _ => fun
  | [d1, d2, d3] => { results := [.lit (.bool false)], args := [d1, d2, d3] }
  | _ => none }
def PlanMoreWrongFalsely : Prop := planMoreRow.holds Try.pinned (OpenSpec.ofChange planMoreWrong)

/-- 'stepstonelaw12.HelpTwo': WHATEVER THE INPUT: true; the input reads as it did. -/
def helpTwoSpec : ChangeSpec := { name := "helpTwo", fn := fun _ => fun
  | [d1, d2, d3] => { results := [.lit (.bool true)], args := [d1, d2, d3] }
  | _ => none }
def helpTwoRow : OpenClaim := { program := "ythbkncklliiooaa", sum := "7396ba3b60cd06b8c8f5c344a430c1fa7eefddf02ad87ca287c1c4860c7d48bb", func := "stepstone/stepstonelaw12.HelpTwo", spec := "helpTwo", unfollowed := true, recurses := true, apart := false }
def HelpTwoSaid : Prop := helpTwoRow.holds Try.pinned (OpenSpec.ofChange helpTwoSpec)

/-- ITS FALSE NEIGHBOUR: 'it returns false'. Refute it at one input. -/
def helpTwoWrong : ChangeSpec := { name := "helpTwo", fn := fun _ => fun
  | [d1, d2, d3] => { results := [.lit (.bool false)], args := [d1, d2, d3] }
  | _ => none }
def HelpTwoWrongFalsely : Prop := helpTwoRow.holds Try.pinned (OpenSpec.ofChange helpTwoWrong)

/-- 'stepstonelaw12.HelpDown': WHATEVER THE INPUT: true; the input reads as it did. -/
def helpDownSpec : ChangeSpec := { name := "helpDown", fn := fun _ => fun
  | [d1, d2, d3] => { results := [.lit (.bool true)], args := [d1, d2, d3] }
  | _ => none }
def helpDownRow : OpenClaim := { program := "ythbkncklliiooaa", sum := "7396ba3b60cd06b8c8f5c344a430c1fa7eefddf02ad87ca287c1c4860c7d48bb", func := "stepstone/stepstonelaw12.HelpDown", spec := "helpDown", unfollowed := true, recurses := true, apart := false }
def HelpDownSaid : Prop := helpDownRow.holds Try.pinned (OpenSpec.ofChange helpDownSpec)

/-- ITS FALSE NEIGHBOUR: 'it returns false'. Refute it at one input. -/
def helpDownWrong : ChangeSpec := { name := "helpDown", fn := fun _ => fun
  | [d1, d2, d3] => { results := [.lit (.bool false)], args := [d1, d2, d3] }
  | _ => none }
def HelpDownWrongFalsely : Prop := helpDownRow.holds Try.pinned (OpenSpec.ofChange helpDownWrong)

/-- 'stepstonelaw12.HelpAgain': WHATEVER THE INPUT: true; the input reads as it did. -/
def helpAgainSpec : ChangeSpec := { name := "helpAgain", fn := fun _ => fun
  | [d1, d2, d3] => { results := [.lit (.bool true)], args := [d1, d2, d3] }
  | _ => none }
def helpAgainRow : OpenClaim := { program := "ythbkncklliiooaa", sum := "7396ba3b60cd06b8c8f5c344a430c1fa7eefddf02ad87ca287c1c4860c7d48bb", func := "stepstone/stepstonelaw12.HelpAgain", spec := "helpAgain", unfollowed := true, recurses := true, apart := false }
def HelpAgainSaid : Prop := helpAgainRow.holds Try.pinned (OpenSpec.ofChange helpAgainSpec)

/-- ITS FALSE NEIGHBOUR: 'it returns false'. Refute it at one input. -/
def helpAgainWrong : ChangeSpec := { name := "helpAgain", fn := fun _ => fun
  | [d1, d2, d3] => { results := [.lit (.bool false)], args := [d1, d2, d3] }
  | _ => none }
def HelpAgainWrongFalsely : Prop := helpAgainRow.holds Try.pinned (OpenSpec.ofChange helpAgainWrong)

/-- 'stepstonelaw12.HelpLost': WHATEVER THE INPUT: true; the input reads as it did. -/
def helpLostSpec : ChangeSpec := { name := "helpLost", fn := fun _ => fun
  | [d1, d2, d3] => { results := [.lit (.bool true)], args := [d1, d2, d3] }
  | _ => none }
def helpLostRow : OpenClaim := { program := "ythbkncklliiooaa", sum := "7396ba3b60cd06b8c8f5c344a430c1fa7eefddf02ad87ca287c1c4860c7d48bb", func := "stepstone/stepstonelaw12.HelpLost", spec := "helpLost", unfollowed := true, recurses := true, apart := false }
def HelpLostSaid : Prop := helpLostRow.holds Try.pinned (OpenSpec.ofChange helpLostSpec)

/-- ITS FALSE NEIGHBOUR: 'it returns false'. Refute it at one input. -/
def helpLostWrong : ChangeSpec := { name := "helpLost", fn := fun _ => fun
  | [d1, d2, d3] => { results := [.lit (.bool false)], args := [d1, d2, d3] }
  | _ => none }
def HelpLostWrongFalsely : Prop := helpLostRow.holds Try.pinned (OpenSpec.ofChange helpLostWrong)

/-- 'stepstonelaw12.HelpSteps': WHATEVER THE INPUT: true; the input reads as it did. -/
def helpStepsSpec : ChangeSpec := { name := "helpSteps", fn := fun _ => fun
  | [d1, d2, d3] => { results := [.lit (.bool true)], args := [d1, d2, d3] }
  | _ => none }
def helpStepsRow : OpenClaim := { program := "ythbkncklliiooaa", sum := "7396ba3b60cd06b8c8f5c344a430c1fa7eefddf02ad87ca287c1c4860c7d48bb", func := "stepstone/stepstonelaw12.HelpSteps", spec := "helpSteps", unfollowed := true, recurses := true, apart := false }
def HelpStepsSaid : Prop := helpStepsRow.holds Try.pinned (OpenSpec.ofChange helpStepsSpec)

/-- ITS FALSE NEIGHBOUR: 'it returns false'. Refute it at one input. -/
def helpStepsWrong : ChangeSpec := { name := "helpSteps", fn := fun _ => fun
  | [d1, d2, d3] => { results := [.lit (.bool false)], args := [d1, d2, d3] }
  | _ => none }
def HelpStepsWrongFalsely : Prop := helpStepsRow.holds Try.pinned (OpenSpec.ofChange helpStepsWrong)

/-- 'stepstonelaw12.HelpAlone': WHATEVER THE INPUT: true; the input reads as it did. -/
def helpAloneSpec : ChangeSpec := { name := "helpAlone", fn := fun _ => fun
  | [d1, d2, d3] => { results := [.lit (.bool true)], args := [d1, d2, d3] }
  | _ => none }
def helpAloneRow : OpenClaim := { program := "ythbkncklliiooaa", sum := "7396ba3b60cd06b8c8f5c344a430c1fa7eefddf02ad87ca287c1c4860c7d48bb", func := "stepstone/stepstonelaw12.HelpAlone", spec := "helpAlone", unfollowed := true, recurses := true, apart := false }
def HelpAloneSaid : Prop := helpAloneRow.holds Try.pinned (OpenSpec.ofChange helpAloneSpec)

/-- ITS FALSE NEIGHBOUR: 'it returns false'. Refute it at one input. -/
def helpAloneWrong : ChangeSpec := { name := "helpAlone", fn := fun _ => fun
  | [d1, d2, d3] => { results := [.lit (.bool false)], args := [d1, d2, d3] }
  | _ => none }
def HelpAloneWrongFalsely : Prop := helpAloneRow.holds Try.pinned (OpenSpec.ofChange helpAloneWrong)

/- THE SECOND FORM. 'bulk': how many values and letters a reading holds, each counted each time it is reached (what is shared counts as often as it is met; a slice's spare places count too). A statement '..UptoSaid' is the law's where the arguments, and the package variables that the reading takes, are together of bulk at most 1048576: NARROWER than '..Said'. Prove '..Said' where nothing that the law and all that it calls make is longer than what came in: it says more and counts as full. Else prove '..UptoSaid'. A law counts once. -/
mutual
def uptoBulk {H : Type} : DataW H → Nat
  | .lit (.string bytes) => bytes.length + 1
  | .lit _ => 1
  | .nil => 1
  | .ptr d => uptoBulk d + 1
  | .slice elems spare => uptoBulkAll elems + uptoBulkAll spare + 1
  | .agg parts => uptoBulkAll parts + 1
  | .iface _ d => uptoBulk d + 1
  | .map entries => uptoBulkEntries entries + 1
  | .held _ => 1
def uptoBulkAll {H : Type} : List (DataW H) → Nat
  | [] => 0
  | d :: r => uptoBulk d + uptoBulkAll r
def uptoBulkEntries {H : Type} : List (Lit × DataW H) → Nat
  | [] => 0
  | x :: r => uptoBulkEntry x + uptoBulkEntries r
def uptoBulkEntry {H : Type} : Lit × DataW H → Nat
  | (.string bytes, d) => bytes.length + uptoBulk d + 1
  | (_, d) => uptoBulk d + 1
 end
def uptoSmall : (H : Type) → List (DataW H) → Bool := fun _ ds => decide (uptoBulkAll ds ≤ 1048576)
def OpenSpec.upto (s : _root_.Go.ChangeSpec) : _root_.Go.OpenSpec := { _root_.Go.OpenSpec.ofChange s with cond := some uptoSmall }

/-- 'stepstonelaw04.PlanRight', WHERE WHAT IT READS IS OF BULK AT MOST 1048576: true; the input reads as it did. -/
def planRightUptoRow : OpenClaim := { program := "ythbkncklliiooaa", sum := "7396ba3b60cd06b8c8f5c344a430c1fa7eefddf02ad87ca287c1c4860c7d48bb", func := "stepstone/stepstonelaw04.PlanRight", spec := "planRight", apart := false, narrowed := true }
def PlanRightUptoSaid : Prop := planRightUptoRow.holds Try.pinned (OpenSpec.upto planRightSpec)

/-- 'stepstonelaw04.PlanCells', WHERE WHAT IT READS IS OF BULK AT MOST 1048576: true; the input reads as it did. -/
def planCellsUptoRow : OpenClaim := { program := "ythbkncklliiooaa", sum := "7396ba3b60cd06b8c8f5c344a430c1fa7eefddf02ad87ca287c1c4860c7d48bb", func := "stepstone/stepstonelaw04.PlanCells", spec := "planCells", apart := false, narrowed := true }
def PlanCellsUptoSaid : Prop := planCellsUptoRow.holds Try.pinned (OpenSpec.upto planCellsSpec)

/-- 'stepstonelaw04.PlanWhere', WHERE WHAT IT READS IS OF BULK AT MOST 1048576: true; the input reads as it did. -/
def planWhereUptoRow : OpenClaim := { program := "ythbkncklliiooaa", sum := "7396ba3b60cd06b8c8f5c344a430c1fa7eefddf02ad87ca287c1c4860c7d48bb", func := "stepstone/stepstonelaw04.PlanWhere", spec := "planWhere", apart := false, narrowed := true }
def PlanWhereUptoSaid : Prop := planWhereUptoRow.holds Try.pinned (OpenSpec.upto planWhereSpec)

/-- 'stepstonelaw04.PlanApart', WHERE WHAT IT READS IS OF BULK AT MOST 1048576: true; the input reads as it did. -/
def planApartUptoRow : OpenClaim := { program := "ythbkncklliiooaa", sum := "7396ba3b60cd06b8c8f5c344a430c1fa7eefddf02ad87ca287c1c4860c7d48bb", func := "stepstone/stepstonelaw04.PlanApart", spec := "planApart", apart := false, narrowed := true }
def PlanApartUptoSaid : Prop := planApartUptoRow.holds Try.pinned (OpenSpec.upto planApartSpec)

/-- 'stepstonelaw04.PlanWhole', WHERE WHAT IT READS IS OF BULK AT MOST 1048576: true; the input reads as it did. -/
def planWholeUptoRow : OpenClaim := { program := "ythbkncklliiooaa", sum := "7396ba3b60cd06b8c8f5c344a430c1fa7eefddf02ad87ca287c1c4860c7d48bb", func := "stepstone/stepstonelaw04.PlanWhole", spec := "planWhole", apart := false, narrowed := true }
def PlanWholeUptoSaid : Prop := planWholeUptoRow.holds Try.pinned (OpenSpec.upto planWholeSpec)

/-- 'stepstonelaw04.PlanMore', WHERE WHAT IT READS IS OF BULK AT MOST 1048576: true; the input reads as it did. -/
def planMoreUptoRow : OpenClaim := { program := "ythbkncklliiooaa", sum := "7396ba3b60cd06b8c8f5c344a430c1fa7eefddf02ad87ca287c1c4860c7d48bb", func := "stepstone/stepstonelaw04.PlanMore", spec := "planMore", apart := false, narrowed := true }
def PlanMoreUptoSaid : Prop := planMoreUptoRow.holds Try.pinned (OpenSpec.upto planMoreSpec)

/-- 'stepstonelaw12.HelpTwo', WHERE WHAT IT READS IS OF BULK AT MOST 1048576: true; the input reads as it did. -/
def helpTwoUptoRow : OpenClaim := { program := "ythbkncklliiooaa", sum := "7396ba3b60cd06b8c8f5c344a430c1fa7eefddf02ad87ca287c1c4860c7d48bb", func := "stepstone/stepstonelaw12.HelpTwo", spec := "helpTwo", unfollowed := true, recurses := true, apart := false, narrowed := true }
def HelpTwoUptoSaid : Prop := helpTwoUptoRow.holds Try.pinned (OpenSpec.upto helpTwoSpec)

/-- 'stepstonelaw12.HelpDown', WHERE WHAT IT READS IS OF BULK AT MOST 1048576: true; the input reads as it did. -/
def helpDownUptoRow : OpenClaim := { program := "ythbkncklliiooaa", sum := "7396ba3b60cd06b8c8f5c344a430c1fa7eefddf02ad87ca287c1c4860c7d48bb", func := "stepstone/stepstonelaw12.HelpDown", spec := "helpDown", unfollowed := true, recurses := true, apart := false, narrowed := true }
def HelpDownUptoSaid : Prop := helpDownUptoRow.holds Try.pinned (OpenSpec.upto helpDownSpec)

/-- 'stepstonelaw12.HelpAgain', WHERE WHAT IT READS IS OF BULK AT MOST 1048576: true; the input reads as it did. -/
def helpAgainUptoRow : OpenClaim := { program := "ythbkncklliiooaa", sum := "7396ba3b60cd06b8c8f5c344a430c1fa7eefddf02ad87ca287c1c4860c7d48bb", func := "stepstone/stepstonelaw12.HelpAgain", spec := "helpAgain", unfollowed := true, recurses := true, apart := false, narrowed := true }
def HelpAgainUptoSaid : Prop := helpAgainUptoRow.holds Try.pinned (OpenSpec.upto helpAgainSpec)

/-- 'stepstonelaw12.HelpLost', WHERE WHAT IT READS IS OF BULK AT MOST 1048576: true; the input reads as it did. -/
def helpLostUptoRow : OpenClaim := { program := "ythbkncklliiooaa", sum := "7396ba3b60cd06b8c8f5c344a430c1fa7eefddf02ad87ca287c1c4860c7d48bb", func := "stepstone/stepstonelaw12.HelpLost", spec := "helpLost", unfollowed := true, recurses := true, apart := false, narrowed := true }
def HelpLostUptoSaid : Prop := helpLostUptoRow.holds Try.pinned (OpenSpec.upto helpLostSpec)

/-- 'stepstonelaw12.HelpSteps', WHERE WHAT IT READS IS OF BULK AT MOST 1048576: true; the input reads as it did. -/
def helpStepsUptoRow : OpenClaim := { program := "ythbkncklliiooaa", sum := "7396ba3b60cd06b8c8f5c344a430c1fa7eefddf02ad87ca287c1c4860c7d48bb", func := "stepstone/stepstonelaw12.HelpSteps", spec := "helpSteps", unfollowed := true, recurses := true, apart := false, narrowed := true }
def HelpStepsUptoSaid : Prop := helpStepsUptoRow.holds Try.pinned (OpenSpec.upto helpStepsSpec)

/-- 'stepstonelaw12.HelpAlone', WHERE WHAT IT READS IS OF BULK AT MOST 1048576: true; the input reads as it did. -/
def helpAloneUptoRow : OpenClaim := { program := "ythbkncklliiooaa", sum := "7396ba3b60cd06b8c8f5c344a430c1fa7eefddf02ad87ca287c1c4860c7d48bb", func := "stepstone/stepstonelaw12.HelpAlone", spec := "helpAlone", unfollowed := true, recurses := true, apart := false, narrowed := true }
def HelpAloneUptoSaid : Prop := helpAloneUptoRow.holds Try.pinned (OpenSpec.upto helpAloneSpec)

end Rows
end Go.Proofs.Ythbkncklliiooaa
