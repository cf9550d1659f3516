/-
  No cell of these rows narrows 'for every input' (looked for: loops, veiled, ifaces, maps, wideKeys, modest, calm, conditions, laid).
  DERIVED. THE GIVEN ROWS OF THIS SEAT. 12 by the template 'for every input the law returns true; each argument reads behind the call as it read before'; 0 by the template 'total and deterministic' (their statements: YtljnfcmcjhggfaaTotals.lean).
  GIVEN WITH THE SEED: the statements are not yours to turn. If you find one false, say at which input.
  Laid BY PROGRAM, IN A SANDBOX (cutbox-rows.mjs): the forced cells as the released guide's own fill.sh prints them over the translation 3112da64ffeb8de0… (all of the seat's roots in one cut). By AI agents, Wed Nov 11 2026. No macro, syntax, notation, axiom, sorry.
-/
import Derived.Test.YtljnfcmcjhggfaaChecked
import GoSem.Claim
import GoSem.ClaimJoined
import GoSem.ClaimMapViews
import Derived.JoinedTies
import Derived.KernelRfl
namespace Go.Proofs.Ytljnfcmcjhggfaa
/- THE CELL 'sum', in the pinned program and in every row, IS THE sha256 OF THE DUMP (.gsa) THAT YtljnfcmcjhggfaaProg.lean LOADS. Nothing in Lean hashes anything: it is a label: what it is worth is what the hold of that sum in a sandbox is worth. -/
noncomputable def Try.pinned : Pinned := { name := "ytljnfcmcjhggfaa", sum := "3112da64ffeb8de073b3cf853187eee5f6cf329cbe7247af0999685d9babfc15", checked := Try.checked }
namespace Rows
def none {H : Type} : Left H := { results := [], args := [] }

/-- 'laws.FnExactPower': WHATEVER THE INPUT: true; the input reads as it did. -/
def fnExactPowerSpec : ChangeSpec := { name := "fnExactPower", fn := fun _ => fun
  | [d1, d2] => { results := [.lit (.bool true)], args := [d1, d2] }
  | _ => none }
def fnExactPowerRow : OpenClaim := { program := "ytljnfcmcjhggfaa", sum := "3112da64ffeb8de073b3cf853187eee5f6cf329cbe7247af0999685d9babfc15", func := "loop.example/g00486/laws.FnExactPower", spec := "fnExactPower", apart := false }
def FnExactPowerSaid : Prop := fnExactPowerRow.holds Try.pinned (OpenSpec.ofChange fnExactPowerSpec)

/-- ITS FALSE NEIGHBOUR: 'it returns false'. Refute it at one input. -/
def fnExactPowerWrong : ChangeSpec := { name := "fnExactPower", fn := fun _ => fun
  | [d1, d2] => { results := [.lit (.bool false)], args := [d1, d2] }
  | _ => none }
def FnExactPowerWrongFalsely : Prop := fnExactPowerRow.holds Try.pinned (OpenSpec.ofChange fnExactPowerWrong)

/-- 'laws.FnExactEventNums': WHATEVER THE INPUT: true; the input reads as it did. -/
def fnExactEventNumsSpec : ChangeSpec := { name := "fnExactEventNums", fn := fun _ => fun
  | [d] => { results := [.lit (.bool true)], args := [d] }
  | _ => none }
def fnExactEventNumsRow : OpenClaim := { program := "ytljnfcmcjhggfaa", sum := "3112da64ffeb8de073b3cf853187eee5f6cf329cbe7247af0999685d9babfc15", func := "loop.example/g00486/laws.FnExactEventNums", spec := "fnExactEventNums", apart := false }
def FnExactEventNumsSaid : Prop := fnExactEventNumsRow.holds Try.pinned (OpenSpec.ofChange fnExactEventNumsSpec)

/-- ITS FALSE NEIGHBOUR: 'it returns false'. Refute it at one input. -/
def fnExactEventNumsWrong : ChangeSpec := { name := "fnExactEventNums", fn := fun _ => fun
  | [d] => { results := [.lit (.bool false)], args := [d] }
  | _ => none }
def FnExactEventNumsWrongFalsely : Prop := fnExactEventNumsRow.holds Try.pinned (OpenSpec.ofChange fnExactEventNumsWrong)

/-- 'laws.FnExactSums': WHATEVER THE INPUT: true; the input reads as it did. -/
def fnExactSumsSpec : ChangeSpec := { name := "fnExactSums", fn := fun _ => fun
  | [d1, d2] => { results := [.lit (.bool true)], args := [d1, d2] }
  | _ => none }
def fnExactSumsRow : OpenClaim := { program := "ytljnfcmcjhggfaa", sum := "3112da64ffeb8de073b3cf853187eee5f6cf329cbe7247af0999685d9babfc15", func := "loop.example/g00486/laws.FnExactSums", spec := "fnExactSums", apart := false }
def FnExactSumsSaid : Prop := fnExactSumsRow.holds Try.pinned (OpenSpec.ofChange fnExactSumsSpec)

/-- ITS FALSE NEIGHBOUR: 'it returns false'. Refute it at one input. -/
def fnExactSumsWrong : ChangeSpec := { name := "fnExactSums", fn := fun _ => fun
  | [d1, d2] => { results := [.lit (.bool false)], args := [d1, d2] }
  | _ => none }
def FnExactSumsWrongFalsely : Prop := fnExactSumsRow.holds Try.pinned (OpenSpec.ofChange fnExactSumsWrong)

/-- 'laws.FnExactTriggerText': WHATEVER THE INPUT: true; the input reads as it did. -/
def fnExactTriggerTextSpec : ChangeSpec := { name := "fnExactTriggerText", fn := fun _ => fun
  | [d] => { results := [.lit (.bool true)], args := [d] }
  | _ => none }
def fnExactTriggerTextRow : OpenClaim := { program := "ytljnfcmcjhggfaa", sum := "3112da64ffeb8de073b3cf853187eee5f6cf329cbe7247af0999685d9babfc15", func := "loop.example/g00486/laws.FnExactTriggerText", spec := "fnExactTriggerText", recurses := true, apart := false }
def FnExactTriggerTextSaid : Prop := fnExactTriggerTextRow.holds Try.pinned (OpenSpec.ofChange fnExactTriggerTextSpec)

/-- ITS FALSE NEIGHBOUR: 'it returns false'. Refute it at one input. -/
def fnExactTriggerTextWrong : ChangeSpec := { name := "fnExactTriggerText", fn := fun _ => fun
  | [d] => { results := [.lit (.bool false)], args := [d] }
  | _ => none }
def FnExactTriggerTextWrongFalsely : Prop := fnExactTriggerTextRow.holds Try.pinned (OpenSpec.ofChange fnExactTriggerTextWrong)

/-- 'laws.FnExactPieceText': WHATEVER THE INPUT: true; the input reads as it did. -/
def fnExactPieceTextSpec : ChangeSpec := { name := "fnExactPieceText", fn := fun _ => fun
  | [d] => { results := [.lit (.bool true)], args := [d] }
  | _ => none }
def fnExactPieceTextRow : OpenClaim := { program := "ytljnfcmcjhggfaa", sum := "3112da64ffeb8de073b3cf853187eee5f6cf329cbe7247af0999685d9babfc15", func := "loop.example/g00486/laws.FnExactPieceText", spec := "fnExactPieceText", recurses := true, apart := false }
def FnExactPieceTextSaid : Prop := fnExactPieceTextRow.holds Try.pinned (OpenSpec.ofChange fnExactPieceTextSpec)

/-- ITS FALSE NEIGHBOUR: 'it returns false'. Refute it at one input. -/
def fnExactPieceTextWrong : ChangeSpec := { name := "fnExactPieceText", fn := fun _ => fun
  | [d] => { results := [.lit (.bool false)], args := [d] }
  | _ => none }
def FnExactPieceTextWrongFalsely : Prop := fnExactPieceTextRow.holds Try.pinned (OpenSpec.ofChange fnExactPieceTextWrong)

/-- 'laws.FnExactAsked': WHATEVER THE INPUT: true; the input reads as it did. -/
def fnExactAskedSpec : ChangeSpec := { name := "fnExactAsked", fn := fun _ => fun
  | [d] => { results := [.lit (.bool true)], args := [d] }
  | _ => none }
def fnExactAskedRow : OpenClaim := { program := "ytljnfcmcjhggfaa", sum := "3112da64ffeb8de073b3cf853187eee5f6cf329cbe7247af0999685d9babfc15", func := "loop.example/g00486/laws.FnExactAsked", spec := "fnExactAsked", apart := false }
def FnExactAskedSaid : Prop := fnExactAskedRow.holds Try.pinned (OpenSpec.ofChange fnExactAskedSpec)

/-- ITS FALSE NEIGHBOUR: 'it returns false'. Refute it at one input. -/
def fnExactAskedWrong : ChangeSpec := { name := "fnExactAsked", fn := fun _ => fun
  | [d] => { results := [.lit (.bool false)], args := [d] }
  | _ => none }
def FnExactAskedWrongFalsely : Prop := fnExactAskedRow.holds Try.pinned (OpenSpec.ofChange fnExactAskedWrong)

/-- 'laws.FnExactHasWay': WHATEVER THE INPUT: true; the input reads as it did. -/
def fnExactHasWaySpec : ChangeSpec := { name := "fnExactHasWay", fn := fun _ => fun
  | [d1, d2] => { results := [.lit (.bool true)], args := [d1, d2] }
  | _ => none }
def fnExactHasWayRow : OpenClaim := { program := "ytljnfcmcjhggfaa", sum := "3112da64ffeb8de073b3cf853187eee5f6cf329cbe7247af0999685d9babfc15", func := "loop.example/g00486/laws.FnExactHasWay", spec := "fnExactHasWay", unfollowed := true, recurses := true, apart := false }
def FnExactHasWaySaid : Prop := fnExactHasWayRow.holds Try.pinned (OpenSpec.ofChange fnExactHasWaySpec)

/-- ITS FALSE NEIGHBOUR: 'it returns false'. Refute it at one input. -/
def fnExactHasWayWrong : ChangeSpec := { name := "fnExactHasWay", fn := fun _ => fun
  | [d1, d2] => { results := [.lit (.bool false)], args := [d1, d2] }
  | _ => none }
def FnExactHasWayWrongFalsely : Prop := fnExactHasWayRow.holds Try.pinned (OpenSpec.ofChange fnExactHasWayWrong)

/-- 'laws.FnExactMost': WHATEVER THE INPUT: true; the input reads as it did. -/
def fnExactMostSpec : ChangeSpec := { name := "fnExactMost", fn := fun _ => fun
  | [d] => { results := [.lit (.bool true)], args := [d] }
  | _ => none }
def fnExactMostRow : OpenClaim := { program := "ytljnfcmcjhggfaa", sum := "3112da64ffeb8de073b3cf853187eee5f6cf329cbe7247af0999685d9babfc15", func := "loop.example/g00486/laws.FnExactMost", spec := "fnExactMost", apart := false }
def FnExactMostSaid : Prop := fnExactMostRow.holds Try.pinned (OpenSpec.ofChange fnExactMostSpec)

/-- ITS FALSE NEIGHBOUR: 'it returns false'. Refute it at one input. -/
def fnExactMostWrong : ChangeSpec := { name := "fnExactMost", fn := fun _ => fun
  | [d] => { results := [.lit (.bool false)], args := [d] }
  | _ => none }
def FnExactMostWrongFalsely : Prop := fnExactMostRow.holds Try.pinned (OpenSpec.ofChange fnExactMostWrong)

/-- 'laws.FnExactFewest': WHATEVER THE INPUT: true; the input reads as it did. -/
def fnExactFewestSpec : ChangeSpec := { name := "fnExactFewest", fn := fun _ => fun
  | [d] => { results := [.lit (.bool true)], args := [d] }
  | _ => none }
def fnExactFewestRow : OpenClaim := { program := "ytljnfcmcjhggfaa", sum := "3112da64ffeb8de073b3cf853187eee5f6cf329cbe7247af0999685d9babfc15", func := "loop.example/g00486/laws.FnExactFewest", spec := "fnExactFewest", apart := false }
def FnExactFewestSaid : Prop := fnExactFewestRow.holds Try.pinned (OpenSpec.ofChange fnExactFewestSpec)

/-- ITS FALSE NEIGHBOUR: 'it returns false'. Refute it at one input. -/
def fnExactFewestWrong : ChangeSpec := { name := "fnExactFewest", fn := fun _ => fun
  | [d] => { results := [.lit (.bool false)], args := [d] }
  | _ => none }
def FnExactFewestWrongFalsely : Prop := fnExactFewestRow.holds Try.pinned (OpenSpec.ofChange fnExactFewestWrong)

/-- 'laws.FnExactChangedBy': WHATEVER THE INPUT: true; the input reads as it did. -/
def fnExactChangedBySpec : ChangeSpec := { name := "fnExactChangedBy", fn := fun _ => fun
  | [d] => { results := [.lit (.bool true)], args := [d] }
  | _ => none }
def fnExactChangedByRow : OpenClaim := { program := "ytljnfcmcjhggfaa", sum := "3112da64ffeb8de073b3cf853187eee5f6cf329cbe7247af0999685d9babfc15", func := "loop.example/g00486/laws.FnExactChangedBy", spec := "fnExactChangedBy", apart := false }
def FnExactChangedBySaid : Prop := fnExactChangedByRow.holds Try.pinned (OpenSpec.ofChange fnExactChangedBySpec)

/-- ITS FALSE NEIGHBOUR: 'it returns false'. Refute it at one input. -/
def fnExactChangedByWrong : ChangeSpec := { name := "fnExactChangedBy", fn := fun _ => fun
  | [d] => { results := [.lit (.bool false)], args := [d] }
  | _ => none }
def FnExactChangedByWrongFalsely : Prop := fnExactChangedByRow.holds Try.pinned (OpenSpec.ofChange fnExactChangedByWrong)

/-- 'laws.FnExactStoppedOf': WHATEVER THE INPUT: true; the input reads as it did. -/
def fnExactStoppedOfSpec : ChangeSpec := { name := "fnExactStoppedOf", fn := fun _ => fun
  | [d] => { results := [.lit (.bool true)], args := [d] }
  | _ => none }
def fnExactStoppedOfRow : OpenClaim := { program := "ytljnfcmcjhggfaa", sum := "3112da64ffeb8de073b3cf853187eee5f6cf329cbe7247af0999685d9babfc15", func := "loop.example/g00486/laws.FnExactStoppedOf", spec := "fnExactStoppedOf", apart := false }
def FnExactStoppedOfSaid : Prop := fnExactStoppedOfRow.holds Try.pinned (OpenSpec.ofChange fnExactStoppedOfSpec)

/-- ITS FALSE NEIGHBOUR: 'it returns false'. Refute it at one input. -/
def fnExactStoppedOfWrong : ChangeSpec := { name := "fnExactStoppedOf", fn := fun _ => fun
  | [d] => { results := [.lit (.bool false)], args := [d] }
  | _ => none }
def FnExactStoppedOfWrongFalsely : Prop := fnExactStoppedOfRow.holds Try.pinned (OpenSpec.ofChange fnExactStoppedOfWrong)

/-- 'laws.FnExactChanged': WHATEVER THE INPUT: true; the input reads as it did. -/
def fnExactChangedSpec : ChangeSpec := { name := "fnExactChanged", fn := fun _ => fun
  | [d] => { results := [.lit (.bool true)], args := [d] }
  | _ => none }
def fnExactChangedRow : OpenClaim := { program := "ytljnfcmcjhggfaa", sum := "3112da64ffeb8de073b3cf853187eee5f6cf329cbe7247af0999685d9babfc15", func := "loop.example/g00486/laws.FnExactChanged", spec := "fnExactChanged", apart := false }
def FnExactChangedSaid : Prop := fnExactChangedRow.holds Try.pinned (OpenSpec.ofChange fnExactChangedSpec)

/-- ITS FALSE NEIGHBOUR: 'it returns false'. Refute it at one input. -/
def fnExactChangedWrong : ChangeSpec := { name := "fnExactChanged", fn := fun _ => fun
  | [d] => { results := [.lit (.bool false)], args := [d] }
  | _ => none }
def FnExactChangedWrongFalsely : Prop := fnExactChangedRow.holds Try.pinned (OpenSpec.ofChange fnExactChangedWrong)

/- THE SECOND FORM. 'bulk': how many values and letters a reading holds, each counted each time it is reached (what is shared counts as often as it is met; a slice's spare places count too). A statement '..UptoSaid' is the law's where the arguments, and the package variables that the reading takes, are together of bulk at most 1048576: NARROWER than '..Said'. Prove '..Said' where nothing that the law and all that it calls make is longer than what came in: it says more and counts as full. Else prove '..UptoSaid'. A law counts once. -/
mutual
def uptoBulk {H : Type} : DataW H → Nat
  | .lit (.string bytes) => bytes.length + 1
  | .lit _ => 1
  | .nil => 1
  | .ptr d => uptoBulk d + 1
  | .slice elems spare => uptoBulkAll elems + uptoBulkAll spare + 1
  | .agg parts => uptoBulkAll parts + 1
  | .iface _ d => uptoBulk d + 1
  | .map entries => uptoBulkEntries entries + 1
  | .held _ => 1
def uptoBulkAll {H : Type} : List (DataW H) → Nat
  | [] => 0
  | d :: r => uptoBulk d + uptoBulkAll r
def uptoBulkEntries {H : Type} : List (Lit × DataW H) → Nat
  | [] => 0
  | x :: r => uptoBulkEntry x + uptoBulkEntries r
def uptoBulkEntry {H : Type} : Lit × DataW H → Nat
  | (.string bytes, d) => bytes.length + uptoBulk d + 1
  | (_, d) => uptoBulk d + 1
 end
def uptoSmall : (H : Type) → List (DataW H) → Bool := fun _ ds => decide (uptoBulkAll ds ≤ 1048576)
def OpenSpec.upto (s : _root_.Go.ChangeSpec) : _root_.Go.OpenSpec := { _root_.Go.OpenSpec.ofChange s with cond := some uptoSmall }

/-- 'laws.FnExactPower', WHERE WHAT IT READS IS OF BULK AT MOST 1048576: true; the input reads as it did. -/
def fnExactPowerUptoRow : OpenClaim := { program := "ytljnfcmcjhggfaa", sum := "3112da64ffeb8de073b3cf853187eee5f6cf329cbe7247af0999685d9babfc15", func := "loop.example/g00486/laws.FnExactPower", spec := "fnExactPower", apart := false, narrowed := true }
def FnExactPowerUptoSaid : Prop := fnExactPowerUptoRow.holds Try.pinned (OpenSpec.upto fnExactPowerSpec)

/-- 'laws.FnExactEventNums', WHERE WHAT IT READS IS OF BULK AT MOST 1048576: true; the input reads as it did. -/
def fnExactEventNumsUptoRow : OpenClaim := { program := "ytljnfcmcjhggfaa", sum := "3112da64ffeb8de073b3cf853187eee5f6cf329cbe7247af0999685d9babfc15", func := "loop.example/g00486/laws.FnExactEventNums", spec := "fnExactEventNums", apart := false, narrowed := true }
def FnExactEventNumsUptoSaid : Prop := fnExactEventNumsUptoRow.holds Try.pinned (OpenSpec.upto fnExactEventNumsSpec)

/-- 'laws.FnExactSums', WHERE WHAT IT READS IS OF BULK AT MOST 1048576: true; the input reads as it did. -/
def fnExactSumsUptoRow : OpenClaim := { program := "ytljnfcmcjhggfaa", sum := "3112da64ffeb8de073b3cf853187eee5f6cf329cbe7247af0999685d9babfc15", func := "loop.example/g00486/laws.FnExactSums", spec := "fnExactSums", apart := false, narrowed := true }
def FnExactSumsUptoSaid : Prop := fnExactSumsUptoRow.holds Try.pinned (OpenSpec.upto fnExactSumsSpec)

/-- 'laws.FnExactTriggerText', WHERE WHAT IT READS IS OF BULK AT MOST 1048576: true; the input reads as it did. -/
def fnExactTriggerTextUptoRow : OpenClaim := { program := "ytljnfcmcjhggfaa", sum := "3112da64ffeb8de073b3cf853187eee5f6cf329cbe7247af0999685d9babfc15", func := "loop.example/g00486/laws.FnExactTriggerText", spec := "fnExactTriggerText", recurses := true, apart := false, narrowed := true }
def FnExactTriggerTextUptoSaid : Prop := fnExactTriggerTextUptoRow.holds Try.pinned (OpenSpec.upto fnExactTriggerTextSpec)

/-- 'laws.FnExactPieceText', WHERE WHAT IT READS IS OF BULK AT MOST 1048576: true; the input reads as it did. -/
def fnExactPieceTextUptoRow : OpenClaim := { program := "ytljnfcmcjhggfaa", sum := "3112da64ffeb8de073b3cf853187eee5f6cf329cbe7247af0999685d9babfc15", func := "loop.example/g00486/laws.FnExactPieceText", spec := "fnExactPieceText", recurses := true, apart := false, narrowed := true }
def FnExactPieceTextUptoSaid : Prop := fnExactPieceTextUptoRow.holds Try.pinned (OpenSpec.upto fnExactPieceTextSpec)

/-- 'laws.FnExactAsked', WHERE WHAT IT READS IS OF BULK AT MOST 1048576: true; the input reads as it did. -/
def fnExactAskedUptoRow : OpenClaim := { program := "ytljnfcmcjhggfaa", sum := "3112da64ffeb8de073b3cf853187eee5f6cf329cbe7247af0999685d9babfc15", func := "loop.example/g00486/laws.FnExactAsked", spec := "fnExactAsked", apart := false, narrowed := true }
def FnExactAskedUptoSaid : Prop := fnExactAskedUptoRow.holds Try.pinned (OpenSpec.upto fnExactAskedSpec)

/-- 'laws.FnExactHasWay', WHERE WHAT IT READS IS OF BULK AT MOST 1048576: true; the input reads as it did. -/
def fnExactHasWayUptoRow : OpenClaim := { program := "ytljnfcmcjhggfaa", sum := "3112da64ffeb8de073b3cf853187eee5f6cf329cbe7247af0999685d9babfc15", func := "loop.example/g00486/laws.FnExactHasWay", spec := "fnExactHasWay", unfollowed := true, recurses := true, apart := false, narrowed := true }
def FnExactHasWayUptoSaid : Prop := fnExactHasWayUptoRow.holds Try.pinned (OpenSpec.upto fnExactHasWaySpec)

/-- 'laws.FnExactMost', WHERE WHAT IT READS IS OF BULK AT MOST 1048576: true; the input reads as it did. -/
def fnExactMostUptoRow : OpenClaim := { program := "ytljnfcmcjhggfaa", sum := "3112da64ffeb8de073b3cf853187eee5f6cf329cbe7247af0999685d9babfc15", func := "loop.example/g00486/laws.FnExactMost", spec := "fnExactMost", apart := false, narrowed := true }
def FnExactMostUptoSaid : Prop := fnExactMostUptoRow.holds Try.pinned (OpenSpec.upto fnExactMostSpec)

/-- 'laws.FnExactFewest', WHERE WHAT IT READS IS OF BULK AT MOST 1048576: true; the input reads as it did. -/
def fnExactFewestUptoRow : OpenClaim := { program := "ytljnfcmcjhggfaa", sum := "3112da64ffeb8de073b3cf853187eee5f6cf329cbe7247af0999685d9babfc15", func := "loop.example/g00486/laws.FnExactFewest", spec := "fnExactFewest", apart := false, narrowed := true }
def FnExactFewestUptoSaid : Prop := fnExactFewestUptoRow.holds Try.pinned (OpenSpec.upto fnExactFewestSpec)

/-- 'laws.FnExactChangedBy', WHERE WHAT IT READS IS OF BULK AT MOST 1048576: true; the input reads as it did. -/
def fnExactChangedByUptoRow : OpenClaim := { program := "ytljnfcmcjhggfaa", sum := "3112da64ffeb8de073b3cf853187eee5f6cf329cbe7247af0999685d9babfc15", func := "loop.example/g00486/laws.FnExactChangedBy", spec := "fnExactChangedBy", apart := false, narrowed := true }
def FnExactChangedByUptoSaid : Prop := fnExactChangedByUptoRow.holds Try.pinned (OpenSpec.upto fnExactChangedBySpec)

/-- 'laws.FnExactStoppedOf', WHERE WHAT IT READS IS OF BULK AT MOST 1048576: true; the input reads as it did. -/
def fnExactStoppedOfUptoRow : OpenClaim := { program := "ytljnfcmcjhggfaa", sum := "3112da64ffeb8de073b3cf853187eee5f6cf329cbe7247af0999685d9babfc15", func := "loop.example/g00486/laws.FnExactStoppedOf", spec := "fnExactStoppedOf", apart := false, narrowed := true }
def FnExactStoppedOfUptoSaid : Prop := fnExactStoppedOfUptoRow.holds Try.pinned (OpenSpec.upto fnExactStoppedOfSpec)

/-- 'laws.FnExactChanged', WHERE WHAT IT READS IS OF BULK AT MOST 1048576: true; the input reads as it did. -/
def fnExactChangedUptoRow : OpenClaim := { program := "ytljnfcmcjhggfaa", sum := "3112da64ffeb8de073b3cf853187eee5f6cf329cbe7247af0999685d9babfc15", func := "loop.example/g00486/laws.FnExactChanged", spec := "fnExactChanged", apart := false, narrowed := true }
def FnExactChangedUptoSaid : Prop := fnExactChangedUptoRow.holds Try.pinned (OpenSpec.upto fnExactChangedSpec)

end Rows
end Go.Proofs.Ytljnfcmcjhggfaa
