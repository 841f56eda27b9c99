/-
  No cell of these rows narrows 'for every input' (looked for: loops, veiled, ifaces, maps, wideKeys, modest, calm, conditions, laid).
  DERIVED. THE GIVEN ROWS OF THIS SEAT. 12 by the template 'for every input the law returns true; each argument reads behind the call as it read before'; 0 by the template 'total and deterministic' (their statements: YtojlaekckkelhaaTotals.lean).
  GIVEN WITH THE SEED: the statements are not yours to turn. If you find one false, say at which input.
  Laid BY PROGRAM, IN A SANDBOX (cutbox-rows.mjs): the forced cells as the released guide's own fill.sh prints them over the translation d9463fbd4db936f8… (all of the seat's roots in one cut). By AI agents, Wed Nov 11 2026. No macro, syntax, notation, axiom, sorry.
-/
import Derived.Test.YtojlaekckkelhaaChecked
import GoSem.Claim
import GoSem.ClaimJoined
import GoSem.ClaimMapViews
import Derived.JoinedTies
import Derived.KernelRfl
namespace Go.Proofs.Ytojlaekckkelhaa
/- THE CELL 'sum', in the pinned program and in every row, IS THE sha256 OF THE DUMP (.gsa) THAT YtojlaekckkelhaaProg.lean LOADS. Nothing in Lean hashes anything: it is a label: what it is worth is what the hold of that sum in a sandbox is worth. -/
noncomputable def Try.pinned : Pinned := { name := "ytojlaekckkelhaa", sum := "d9463fbd4db936f89837a7eddf5b8b55cefe3d4e4ab0f939bf89680f252ffa4f", checked := Try.checked }
namespace Rows
def none {H : Type} : Left H := { results := [], args := [] }

/-- 'stepstonelaw01.HandlePacks': WHATEVER THE INPUT: true; the input reads as it did. -/
def handlePacksSpec : ChangeSpec := { name := "handlePacks", fn := fun _ => fun
  | [d1, d2, d3] => { results := [.lit (.bool true)], args := [d1, d2, d3] }
  | _ => none }
def handlePacksRow : OpenClaim := { program := "ytojlaekckkelhaa", sum := "d9463fbd4db936f89837a7eddf5b8b55cefe3d4e4ab0f939bf89680f252ffa4f", func := "stepstone/stepstonelaw01.HandlePacks", spec := "handlePacks", unfollowed := true, recurses := true, apart := false }
def HandlePacksSaid : Prop := handlePacksRow.holds Try.pinned (OpenSpec.ofChange handlePacksSpec)

/-- ITS FALSE NEIGHBOUR: 'it returns false'. Refute it at one input. -/
def handlePacksWrong : ChangeSpec := { name := "handlePacks", fn := fun _ => fun
  | [d1, d2, d3] => { results := [.lit (.bool false)], args := [d1, d2, d3] }
  | _ => none }
def HandlePacksWrongFalsely : Prop := handlePacksRow.holds Try.pinned (OpenSpec.ofChange handlePacksWrong)

/-- 'stepstonelaw01.HandleParts': WHATEVER THE INPUT: true; the input reads as it did. -/
def handlePartsSpec : ChangeSpec := { name := "handleParts", fn := fun _ => fun
  | [d] => { results := [.lit (.bool true)], args := [d] }
  | _ => none }
def handlePartsRow : OpenClaim := { program := "ytojlaekckkelhaa", sum := "d9463fbd4db936f89837a7eddf5b8b55cefe3d4e4ab0f939bf89680f252ffa4f", func := "stepstone/stepstonelaw01.HandleParts", spec := "handleParts", unfollowed := true, recurses := true, apart := false }
def HandlePartsSaid : Prop := handlePartsRow.holds Try.pinned (OpenSpec.ofChange handlePartsSpec)

/-- ITS FALSE NEIGHBOUR: 'it returns false'. Refute it at one input. -/
def handlePartsWrong : ChangeSpec := { name := "handleParts", fn := fun _ => fun
  | [d] => { results := [.lit (.bool false)], args := [d] }
  | _ => none }
def HandlePartsWrongFalsely : Prop := handlePartsRow.holds Try.pinned (OpenSpec.ofChange handlePartsWrong)

/-- 'stepstonelaw01.HandleBack': WHATEVER THE INPUT: true; the input reads as it did. -/
def handleBackSpec : ChangeSpec := { name := "handleBack", fn := fun _ => fun
  | [d] => { results := [.lit (.bool true)], args := [d] }
  | _ => none }
def handleBackRow : OpenClaim := { program := "ytojlaekckkelhaa", sum := "d9463fbd4db936f89837a7eddf5b8b55cefe3d4e4ab0f939bf89680f252ffa4f", func := "stepstone/stepstonelaw01.HandleBack", spec := "handleBack", unfollowed := true, recurses := true, apart := false }
def HandleBackSaid : Prop := handleBackRow.holds Try.pinned (OpenSpec.ofChange handleBackSpec)

/-- ITS FALSE NEIGHBOUR: 'it returns false'. Refute it at one input. -/
def handleBackWrong : ChangeSpec := { name := "handleBack", fn := fun _ => fun
  | [d] => { results := [.lit (.bool false)], args := [d] }
  | _ => none }
def HandleBackWrongFalsely : Prop := handleBackRow.holds Try.pinned (OpenSpec.ofChange handleBackWrong)

/-- 'stepstonelaw01.HandleMarks': WHATEVER THE INPUT: true; the input reads as it did. -/
def handleMarksSpec : ChangeSpec := { name := "handleMarks", fn := fun _ => fun
  | [d] => { results := [.lit (.bool true)], args := [d] }
  | _ => none }
def handleMarksRow : OpenClaim := { program := "ytojlaekckkelhaa", sum := "d9463fbd4db936f89837a7eddf5b8b55cefe3d4e4ab0f939bf89680f252ffa4f", func := "stepstone/stepstonelaw01.HandleMarks", spec := "handleMarks", unfollowed := true, recurses := true, apart := false }
def HandleMarksSaid : Prop := handleMarksRow.holds Try.pinned (OpenSpec.ofChange handleMarksSpec)

/-- ITS FALSE NEIGHBOUR: 'it returns false'. Refute it at one input. -/
def handleMarksWrong : ChangeSpec := { name := "handleMarks", fn := fun _ => fun
  | [d] => { results := [.lit (.bool false)], args := [d] }
  | _ => none }
def HandleMarksWrongFalsely : Prop := handleMarksRow.holds Try.pinned (OpenSpec.ofChange handleMarksWrong)

/-- 'stepstonelaw01.HandleApart': WHATEVER THE INPUT: true; the input reads as it did. -/
def handleApartSpec : ChangeSpec := { name := "handleApart", fn := fun _ => fun
  | [d1, d2, d3] => { results := [.lit (.bool true)], args := [d1, d2, d3] }
  | _ => none }
def handleApartRow : OpenClaim := { program := "ytojlaekckkelhaa", sum := "d9463fbd4db936f89837a7eddf5b8b55cefe3d4e4ab0f939bf89680f252ffa4f", func := "stepstone/stepstonelaw01.HandleApart", spec := "handleApart", unfollowed := true, recurses := true, apart := false }
def HandleApartSaid : Prop := handleApartRow.holds Try.pinned (OpenSpec.ofChange handleApartSpec)

/-- ITS FALSE NEIGHBOUR: 'it returns false'. Refute it at one input. -/
def handleApartWrong : ChangeSpec := { name := "handleApart", fn := fun _ => fun
  | [d1, d2, d3] => { results := [.lit (.bool false)], args := [d1, d2, d3] }
  | _ => none }
def HandleApartWrongFalsely : Prop := handleApartRow.holds Try.pinned (OpenSpec.ofChange handleApartWrong)

/-- 'stepstonelaw01.HandleWhole': WHATEVER THE INPUT: true; the input reads as it did. -/
def handleWholeSpec : ChangeSpec := { name := "handleWhole", fn := fun _ => fun
  | [d1, d2] => { results := [.lit (.bool true)], args := [d1, d2] }
  | _ => none }
def handleWholeRow : OpenClaim := { program := "ytojlaekckkelhaa", sum := "d9463fbd4db936f89837a7eddf5b8b55cefe3d4e4ab0f939bf89680f252ffa4f", func := "stepstone/stepstonelaw01.HandleWhole", spec := "handleWhole", unfollowed := true, recurses := true, apart := false }
def HandleWholeSaid : Prop := handleWholeRow.holds Try.pinned (OpenSpec.ofChange handleWholeSpec)

/-- ITS FALSE NEIGHBOUR: 'it returns false'. Refute it at one input. -/
def handleWholeWrong : ChangeSpec := { name := "handleWhole", fn := fun _ => fun
  | [d1, d2] => { results := [.lit (.bool false)], args := [d1, d2] }
  | _ => none }
def HandleWholeWrongFalsely : Prop := handleWholeRow.holds Try.pinned (OpenSpec.ofChange handleWholeWrong)

/-- 'stepstonelaw03.BankNew': WHATEVER THE INPUT: true; the input reads as it did. -/
def bankNewSpec : ChangeSpec := { name := "bankNew", fn := fun _ => fun
  | [d] => { results := [.lit (.bool true)], args := [d] }
  | _ => none }
def bankNewRow : OpenClaim := { program := "ytojlaekckkelhaa", sum := "d9463fbd4db936f89837a7eddf5b8b55cefe3d4e4ab0f939bf89680f252ffa4f", func := "stepstone/stepstonelaw03.BankNew", spec := "bankNew", unfollowed := true, recurses := true, apart := false }
def BankNewSaid : Prop := bankNewRow.holds Try.pinned (OpenSpec.ofChange bankNewSpec)

/-- ITS FALSE NEIGHBOUR: 'it returns false'. Refute it at one input. -/
def bankNewWrong : ChangeSpec := { name := "bankNew", fn := fun _ => fun
  | [d] => { results := [.lit (.bool false)], args := [d] }
  | _ => none }
def BankNewWrongFalsely : Prop := bankNewRow.holds Try.pinned (OpenSpec.ofChange bankNewWrong)

/-- 'stepstonelaw03.BankAll': WHATEVER THE INPUT: true; the input reads as it did. -/
def bankAllSpec : ChangeSpec := { name := "bankAll", fn := fun _ => fun
  | [d1, d2] => { results := [.lit (.bool true)], args := [d1, d2] }
  | _ => none }
def bankAllRow : OpenClaim := { program := "ytojlaekckkelhaa", sum := "d9463fbd4db936f89837a7eddf5b8b55cefe3d4e4ab0f939bf89680f252ffa4f", func := "stepstone/stepstonelaw03.BankAll", spec := "bankAll", unfollowed := true, recurses := true, apart := false }
def BankAllSaid : Prop := bankAllRow.holds Try.pinned (OpenSpec.ofChange bankAllSpec)

/-- ITS FALSE NEIGHBOUR: 'it returns false'. Refute it at one input. -/
def bankAllWrong : ChangeSpec := { name := "bankAll", fn := fun _ => fun
  | [d1, d2] => { results := [.lit (.bool false)], args := [d1, d2] }
  | _ => none }
def BankAllWrongFalsely : Prop := bankAllRow.holds Try.pinned (OpenSpec.ofChange bankAllWrong)

/-- 'stepstonelaw03.BankOthers': WHATEVER THE INPUT: true; the input reads as it did. -/
def bankOthersSpec : ChangeSpec := { name := "bankOthers", fn := fun _ => fun
  | [d1, d2] => { results := [.lit (.bool true)], args := [d1, d2] }
  | _ => none }
def bankOthersRow : OpenClaim := { program := "ytojlaekckkelhaa", sum := "d9463fbd4db936f89837a7eddf5b8b55cefe3d4e4ab0f939bf89680f252ffa4f", func := "stepstone/stepstonelaw03.BankOthers", spec := "bankOthers", unfollowed := true, recurses := true, apart := false }
def BankOthersSaid : Prop := bankOthersRow.holds Try.pinned (OpenSpec.ofChange bankOthersSpec)

/-- ITS FALSE NEIGHBOUR: 'it returns false'. Refute it at one input. -/
def bankOthersWrong : ChangeSpec := { name := "bankOthers", fn := fun _ => fun
  | [d1, d2] => { results := [.lit (.bool false)], args := [d1, d2] }
  | _ => none }
def BankOthersWrongFalsely : Prop := bankOthersRow.holds Try.pinned (OpenSpec.ofChange bankOthersWrong)

/-- 'stepstonelaw03.BankSwaps': WHATEVER THE INPUT: true; the input reads as it did. -/
def bankSwapsSpec : ChangeSpec := { name := "bankSwaps", fn := fun _ => fun
  | [d1, d2, d3] => { results := [.lit (.bool true)], args := [d1, d2, d3] }
  | _ => none }
def bankSwapsRow : OpenClaim := { program := "ytojlaekckkelhaa", sum := "d9463fbd4db936f89837a7eddf5b8b55cefe3d4e4ab0f939bf89680f252ffa4f", func := "stepstone/stepstonelaw03.BankSwaps", spec := "bankSwaps", unfollowed := true, recurses := true, apart := false }
def BankSwapsSaid : Prop := bankSwapsRow.holds Try.pinned (OpenSpec.ofChange bankSwapsSpec)

/-- ITS FALSE NEIGHBOUR: 'it returns false'. Refute it at one input. -/
def bankSwapsWrong : ChangeSpec := { name := "bankSwaps", fn := fun _ => fun
  | [d1, d2, d3] => { results := [.lit (.bool false)], args := [d1, d2, d3] }
  | _ => none }
def BankSwapsWrongFalsely : Prop := bankSwapsRow.holds Try.pinned (OpenSpec.ofChange bankSwapsWrong)

/-- 'stepstonelaw03.BankOwn': WHATEVER THE INPUT: true; the input reads as it did. -/
def bankOwnSpec : ChangeSpec := { name := "bankOwn", fn := fun _ => fun
  | [d] => { results := [.lit (.bool true)], args := [d] }
  | _ => none }
def bankOwnRow : OpenClaim := { program := "ytojlaekckkelhaa", sum := "d9463fbd4db936f89837a7eddf5b8b55cefe3d4e4ab0f939bf89680f252ffa4f", func := "stepstone/stepstonelaw03.BankOwn", spec := "bankOwn", unfollowed := true, recurses := true, apart := false }
def BankOwnSaid : Prop := bankOwnRow.holds Try.pinned (OpenSpec.ofChange bankOwnSpec)

/-- ITS FALSE NEIGHBOUR: 'it returns false'. Refute it at one input. -/
def bankOwnWrong : ChangeSpec := { name := "bankOwn", fn := fun _ => fun
  | [d] => { results := [.lit (.bool false)], args := [d] }
  | _ => none }
def BankOwnWrongFalsely : Prop := bankOwnRow.holds Try.pinned (OpenSpec.ofChange bankOwnWrong)

/-- 'stepstonelaw03.BankAdds': WHATEVER THE INPUT: true; the input reads as it did. -/
def bankAddsSpec : ChangeSpec := { name := "bankAdds", fn := fun _ => fun
  | [d1, d2, d3] => { results := [.lit (.bool true)], args := [d1, d2, d3] }
  | _ => none }
def bankAddsRow : OpenClaim := { program := "ytojlaekckkelhaa", sum := "d9463fbd4db936f89837a7eddf5b8b55cefe3d4e4ab0f939bf89680f252ffa4f", func := "stepstone/stepstonelaw03.BankAdds", spec := "bankAdds", unfollowed := true, recurses := true, apart := false }
def BankAddsSaid : Prop := bankAddsRow.holds Try.pinned (OpenSpec.ofChange bankAddsSpec)

/-- ITS FALSE NEIGHBOUR: 'it returns false'. Refute it at one input. -/
def bankAddsWrong : ChangeSpec := { name := "bankAdds", fn := fun _ => fun
  | [d1, d2, d3] => { results := [.lit (.bool false)], args := [d1, d2, d3] }
  | _ => none }
def BankAddsWrongFalsely : Prop := bankAddsRow.holds Try.pinned (OpenSpec.ofChange bankAddsWrong)

/- THE SECOND FORM. 'bulk': how many values and letters a reading holds, each counted each time it is reached (what is shared counts as often as it is met; a slice's spare places count too). A statement '..UptoSaid' is the law's where the arguments, and the package variables that the reading takes, are together of bulk at most 1048576: NARROWER than '..Said'. Prove '..Said' where nothing that the law and all that it calls make is longer than what came in: it says more and counts as full. Else prove '..UptoSaid'. A law counts once. -/
mutual
def uptoBulk {H : Type} : DataW H → Nat
  | .lit (.string bytes) => bytes.length + 1
  | .lit _ => 1
  | .nil => 1
  | .ptr d => uptoBulk d + 1
  | .slice elems spare => uptoBulkAll elems + uptoBulkAll spare + 1
  | .agg parts => uptoBulkAll parts + 1
  | .iface _ d => uptoBulk d + 1
  | .map entries => uptoBulkEntries entries + 1
  | .held _ => 1
def uptoBulkAll {H : Type} : List (DataW H) → Nat
  | [] => 0
  | d :: r => uptoBulk d + uptoBulkAll r
def uptoBulkEntries {H : Type} : List (Lit × DataW H) → Nat
  | [] => 0
  | x :: r => uptoBulkEntry x + uptoBulkEntries r
def uptoBulkEntry {H : Type} : Lit × DataW H → Nat
  | (.string bytes, d) => bytes.length + uptoBulk d + 1
  | (_, d) => uptoBulk d + 1
 end
def uptoSmall : (H : Type) → List (DataW H) → Bool := fun _ ds => decide (uptoBulkAll ds ≤ 1048576)
def OpenSpec.upto (s : _root_.Go.ChangeSpec) : _root_.Go.OpenSpec := { _root_.Go.OpenSpec.ofChange s with cond := some uptoSmall }

/-- 'stepstonelaw01.HandlePacks', WHERE WHAT IT READS IS OF BULK AT MOST 1048576: true; the input reads as it did. -/
def handlePacksUptoRow : OpenClaim := { program := "ytojlaekckkelhaa", sum := "d9463fbd4db936f89837a7eddf5b8b55cefe3d4e4ab0f939bf89680f252ffa4f", func := "stepstone/stepstonelaw01.HandlePacks", spec := "handlePacks", unfollowed := true, recurses := true, apart := false, narrowed := true }
def HandlePacksUptoSaid : Prop := handlePacksUptoRow.holds Try.pinned (OpenSpec.upto handlePacksSpec)

/-- 'stepstonelaw01.HandleParts', WHERE WHAT IT READS IS OF BULK AT MOST 1048576: true; the input reads as it did. -/
def handlePartsUptoRow : OpenClaim := { program := "ytojlaekckkelhaa", sum := "d9463fbd4db936f89837a7eddf5b8b55cefe3d4e4ab0f939bf89680f252ffa4f", func := "stepstone/stepstonelaw01.HandleParts", spec := "handleParts", unfollowed := true, recurses := true, apart := false, narrowed := true }
def HandlePartsUptoSaid : Prop := handlePartsUptoRow.holds Try.pinned (OpenSpec.upto handlePartsSpec)

/-- 'stepstonelaw01.HandleBack', WHERE WHAT IT READS IS OF BULK AT MOST 1048576: true; the input reads as it did. -/
def handleBackUptoRow : OpenClaim := { program := "ytojlaekckkelhaa", sum := "d9463fbd4db936f89837a7eddf5b8b55cefe3d4e4ab0f939bf89680f252ffa4f", func := "stepstone/stepstonelaw01.HandleBack", spec := "handleBack", unfollowed := true, recurses := true, apart := false, narrowed := true }
def HandleBackUptoSaid : Prop := handleBackUptoRow.holds Try.pinned (OpenSpec.upto handleBackSpec)

/-- 'stepstonelaw01.HandleMarks', WHERE WHAT IT READS IS OF BULK AT MOST 1048576: true; the input reads as it did. -/
def handleMarksUptoRow : OpenClaim := { program := "ytojlaekckkelhaa", sum := "d9463fbd4db936f89837a7eddf5b8b55cefe3d4e4ab0f939bf89680f252ffa4f", func := "stepstone/stepstonelaw01.HandleMarks", spec := "handleMarks", unfollowed := true, recurses := true, apart := false, narrowed := true }
def HandleMarksUptoSaid : Prop := handleMarksUptoRow.holds Try.pinned (OpenSpec.upto handleMarksSpec)

/-- 'stepstonelaw01.HandleApart', WHERE WHAT IT READS IS OF BULK AT MOST 1048576: true; the input reads as it did. -/
def handleApartUptoRow : OpenClaim := { program := "ytojlaekckkelhaa", sum := "d9463fbd4db936f89837a7eddf5b8b55cefe3d4e4ab0f939bf89680f252ffa4f", func := "stepstone/stepstonelaw01.HandleApart", spec := "handleApart", unfollowed := true, recurses := true, apart := false, narrowed := true }
def HandleApartUptoSaid : Prop := handleApartUptoRow.holds Try.pinned (OpenSpec.upto handleApartSpec)

/-- 'stepstonelaw01.HandleWhole', WHERE WHAT IT READS IS OF BULK AT MOST 1048576: true; the input reads as it did. -/
def handleWholeUptoRow : OpenClaim := { program := "ytojlaekckkelhaa", sum := "d9463fbd4db936f89837a7eddf5b8b55cefe3d4e4ab0f939bf89680f252ffa4f", func := "stepstone/stepstonelaw01.HandleWhole", spec := "handleWhole", unfollowed := true, recurses := true, apart := false, narrowed := true }
def HandleWholeUptoSaid : Prop := handleWholeUptoRow.holds Try.pinned (OpenSpec.upto handleWholeSpec)

/-- 'stepstonelaw03.BankNew', WHERE WHAT IT READS IS OF BULK AT MOST 1048576: true; the input reads as it did. -/
def bankNewUptoRow : OpenClaim := { program := "ytojlaekckkelhaa", sum := "d9463fbd4db936f89837a7eddf5b8b55cefe3d4e4ab0f939bf89680f252ffa4f", func := "stepstone/stepstonelaw03.BankNew", spec := "bankNew", unfollowed := true, recurses := true, apart := false, narrowed := true }
def BankNewUptoSaid : Prop := bankNewUptoRow.holds Try.pinned (OpenSpec.upto bankNewSpec)

/-- 'stepstonelaw03.BankAll', WHERE WHAT IT READS IS OF BULK AT MOST 1048576: true; the input reads as it did. -/
def bankAllUptoRow : OpenClaim := { program := "ytojlaekckkelhaa", sum := "d9463fbd4db936f89837a7eddf5b8b55cefe3d4e4ab0f939bf89680f252ffa4f", func := "stepstone/stepstonelaw03.BankAll", spec := "bankAll", unfollowed := true, recurses := true, apart := false, narrowed := true }
def BankAllUptoSaid : Prop := bankAllUptoRow.holds Try.pinned (OpenSpec.upto bankAllSpec)

/-- 'stepstonelaw03.BankOthers', WHERE WHAT IT READS IS OF BULK AT MOST 1048576: true; the input reads as it did. -/
def bankOthersUptoRow : OpenClaim := { program := "ytojlaekckkelhaa", sum := "d9463fbd4db936f89837a7eddf5b8b55cefe3d4e4ab0f939bf89680f252ffa4f", func := "stepstone/stepstonelaw03.BankOthers", spec := "bankOthers", unfollowed := true, recurses := true, apart := false, narrowed := true }
def BankOthersUptoSaid : Prop := bankOthersUptoRow.holds Try.pinned (OpenSpec.upto bankOthersSpec)

/-- 'stepstonelaw03.BankSwaps', WHERE WHAT IT READS IS OF BULK AT MOST 1048576: true; the input reads as it did. -/
def bankSwapsUptoRow : OpenClaim := { program := "ytojlaekckkelhaa", sum := "d9463fbd4db936f89837a7eddf5b8b55cefe3d4e4ab0f939bf89680f252ffa4f", func := "stepstone/stepstonelaw03.BankSwaps", spec := "bankSwaps", unfollowed := true, recurses := true, apart := false, narrowed := true }
def BankSwapsUptoSaid : Prop := bankSwapsUptoRow.holds Try.pinned (OpenSpec.upto bankSwapsSpec)

/-- 'stepstonelaw03.BankOwn', WHERE WHAT IT READS IS OF BULK AT MOST 1048576: true; the input reads as it did. -/
def bankOwnUptoRow : OpenClaim := { program := "ytojlaekckkelhaa", sum := "d9463fbd4db936f89837a7eddf5b8b55cefe3d4e4ab0f939bf89680f252ffa4f", func := "stepstone/stepstonelaw03.BankOwn", spec := "bankOwn", unfollowed := true, recurses := true, apart := false, narrowed := true }
def BankOwnUptoSaid : Prop := bankOwnUptoRow.holds Try.pinned (OpenSpec.upto bankOwnSpec)

/-- 'stepstonelaw03.BankAdds', WHERE WHAT IT READS IS OF BULK AT MOST 1048576: true; the input reads as it did. -/
def bankAddsUptoRow : OpenClaim := { program := "ytojlaekckkelhaa", sum := "d9463fbd4db936f89837a7eddf5b8b55cefe3d4e4ab0f939bf89680f252ffa4f", func := "stepstone/stepstonelaw03.BankAdds", spec := "bankAdds", unfollowed := true, recurses := true, apart := false, narrowed := true }
def BankAddsUptoSaid : Prop := bankAddsUptoRow.holds Try.pinned (OpenSpec.upto bankAddsSpec)

end Rows
end Go.Proofs.Ytojlaekckkelhaa
