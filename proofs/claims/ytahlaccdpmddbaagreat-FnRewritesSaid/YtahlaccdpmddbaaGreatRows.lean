/-
  No cell of these rows narrows 'for every input' (looked for: loops, veiled, ifaces, maps, wideKeys, modest, calm, conditions, laid).
  DERIVED. THE GIVEN ROWS OF THIS SEAT. 8 by the template 'for every input the law returns true; each argument reads behind the call as it read before'; 0 by the template 'total and deterministic' (their statements: YtahlaccdpmddbaaGreatTotals.lean).
  GIVEN WITH THE SEED: the statements are not yours to turn. If you find one false, say at which input.
  Laid BY PROGRAM, IN A SANDBOX (cutbox-rows.mjs): the forced cells as the released guide's own fill.sh prints them over the translation 3ed35200ed61cec9… (all of the seat's roots in one cut). By AI agents, Wed Nov 11 2026. No macro, syntax, notation, axiom, sorry.
-/
import Derived.Test.YtahlaccdpmddbaaGreatChecked
import GoSem.Claim
import GoSem.ClaimJoined
import GoSem.ClaimMapViews
import Derived.JoinedTies
import Derived.KernelRfl
namespace Go.Proofs.YtahlaccdpmddbaaGreat
/- THE CELL 'sum', in the pinned program and in every row, IS THE sha256 OF THE DUMP (.gsa) THAT YtahlaccdpmddbaaGreatProg.lean LOADS. Nothing in Lean hashes anything: it is a label: what it is worth is what the hold of that sum in a sandbox is worth. -/
noncomputable def Tryz.pinned : Pinned := { name := "ytahlaccdpmddbaagreat", sum := "3ed35200ed61cec99598d27e0c7deb4e76e9ba8067735eef996fc9a68453b93d", checked := Tryz.checked }
namespace Rows
def none {H : Type} : Left H := { results := [], args := [] }

/-- 'laws.FnExactFirstBad': WHATEVER THE INPUT: true; the input reads as it did. -/
def fnExactFirstBadSpec : ChangeSpec := { name := "fnExactFirstBad", fn := fun _ => fun
  | [d1, d2, d3, d4] => { results := [.lit (.bool true)], args := [d1, d2, d3, d4] }
  | _ => none }
def fnExactFirstBadRow : OpenClaim := { program := "ytahlaccdpmddbaagreat", sum := "3ed35200ed61cec99598d27e0c7deb4e76e9ba8067735eef996fc9a68453b93d", func := "loop.example/g00486/laws.FnExactFirstBad", spec := "fnExactFirstBad", unfollowed := true, recurses := true, apart := false }
def FnExactFirstBadSaid : Prop := fnExactFirstBadRow.holds Tryz.pinned (OpenSpec.ofChange fnExactFirstBadSpec)

/-- ITS FALSE NEIGHBOUR: 'it returns false'. Refute it at one input. -/
def fnExactFirstBadWrong : ChangeSpec := { name := "fnExactFirstBad", fn := fun _ => fun
  | [d1, d2, d3, d4] => { results := [.lit (.bool false)], args := [d1, d2, d3, d4] }
  | _ => none }
def FnExactFirstBadWrongFalsely : Prop := fnExactFirstBadRow.holds Tryz.pinned (OpenSpec.ofChange fnExactFirstBadWrong)

/-- 'laws.FnExactValid': WHATEVER THE INPUT: true; the input reads as it did. -/
def fnExactValidSpec : ChangeSpec := { name := "fnExactValid", fn := fun _ => fun
  | [d1, d2, d3, d4] => { results := [.lit (.bool true)], args := [d1, d2, d3, d4] }
  | _ => none }
def fnExactValidRow : OpenClaim := { program := "ytahlaccdpmddbaagreat", sum := "3ed35200ed61cec99598d27e0c7deb4e76e9ba8067735eef996fc9a68453b93d", func := "loop.example/g00486/laws.FnExactValid", spec := "fnExactValid", unfollowed := true, recurses := true, apart := false }
def FnExactValidSaid : Prop := fnExactValidRow.holds Tryz.pinned (OpenSpec.ofChange fnExactValidSpec)

/-- ITS FALSE NEIGHBOUR: 'it returns false'. Refute it at one input. -/
def fnExactValidWrong : ChangeSpec := { name := "fnExactValid", fn := fun _ => fun
  | [d1, d2, d3, d4] => { results := [.lit (.bool false)], args := [d1, d2, d3, d4] }
  | _ => none }
def FnExactValidWrongFalsely : Prop := fnExactValidRow.holds Tryz.pinned (OpenSpec.ofChange fnExactValidWrong)

/-- 'laws.FnSaid': WHATEVER THE INPUT: true; the input reads as it did. -/
def fnSaidSpec : ChangeSpec := { name := "fnSaid", fn := fun _ => fun
  | [d] => { results := [.lit (.bool true)], args := [d] }
  | _ => none }
def fnSaidRow : OpenClaim := { program := "ytahlaccdpmddbaagreat", sum := "3ed35200ed61cec99598d27e0c7deb4e76e9ba8067735eef996fc9a68453b93d", func := "loop.example/g00486/laws.FnSaid", spec := "fnSaid", inPlace := ["internal/abi.NoEscape", "internal/bytealg.MakeNoZero"], recurses := true, apart := false }
def FnSaidSaid : Prop := fnSaidRow.holds Tryz.pinned (OpenSpec.ofChange fnSaidSpec)

/-- ITS FALSE NEIGHBOUR: 'it returns false'. Refute it at one input. -/
def fnSaidWrong : ChangeSpec := { name := "fnSaid", fn := fun _ => fun
  | [d] => { results := [.lit (.bool false)], args := [d] }
  | _ => none }
def FnSaidWrongFalsely : Prop := fnSaidRow.holds Tryz.pinned (OpenSpec.ofChange fnSaidWrong)

/-- 'laws.FnInBounds': WHATEVER THE INPUT: true; the input reads as it did. -/
def fnInBoundsSpec : ChangeSpec := { name := "fnInBounds", fn := fun _ => fun
  | [d] => { results := [.lit (.bool true)], args := [d] }
  | _ => none }
def fnInBoundsRow : OpenClaim := { program := "ytahlaccdpmddbaagreat", sum := "3ed35200ed61cec99598d27e0c7deb4e76e9ba8067735eef996fc9a68453b93d", func := "loop.example/g00486/laws.FnInBounds", spec := "fnInBounds", unfollowed := true, recurses := true, apart := false }
def FnInBoundsSaid : Prop := fnInBoundsRow.holds Tryz.pinned (OpenSpec.ofChange fnInBoundsSpec)

/-- ITS FALSE NEIGHBOUR: 'it returns false'. Refute it at one input. -/
def fnInBoundsWrong : ChangeSpec := { name := "fnInBounds", fn := fun _ => fun
  | [d] => { results := [.lit (.bool false)], args := [d] }
  | _ => none }
def FnInBoundsWrongFalsely : Prop := fnInBoundsRow.holds Tryz.pinned (OpenSpec.ofChange fnInBoundsWrong)

/-- 'laws.FnRewrites': WHATEVER THE INPUT: true; the input reads as it did. -/
def fnRewritesSpec : ChangeSpec := { name := "fnRewrites", fn := fun _ => fun
  | [d] => { results := [.lit (.bool true)], args := [d] }
  | _ => none }
def fnRewritesRow : OpenClaim := { program := "ytahlaccdpmddbaagreat", sum := "3ed35200ed61cec99598d27e0c7deb4e76e9ba8067735eef996fc9a68453b93d", func := "loop.example/g00486/laws.FnRewrites", spec := "fnRewrites", unfollowed := true, recurses := true, apart := false }
def FnRewritesSaid : Prop := fnRewritesRow.holds Tryz.pinned (OpenSpec.ofChange fnRewritesSpec)

/-- ITS FALSE NEIGHBOUR: 'it returns false'. Refute it at one input. -/
def fnRewritesWrong : ChangeSpec := { name := "fnRewrites", fn := fun _ => fun
  | [d] => { results := [.lit (.bool false)], args := [d] }
  | _ => none }
def FnRewritesWrongFalsely : Prop := fnRewritesRow.holds Tryz.pinned (OpenSpec.ofChange fnRewritesWrong)

/-- 'laws.FnValids': WHATEVER THE INPUT: true; the input reads as it did. -/
def fnValidsSpec : ChangeSpec := { name := "fnValids", fn := fun _ => fun
  | [d] => { results := [.lit (.bool true)], args := [d] }
  | _ => none }
def fnValidsRow : OpenClaim := { program := "ytahlaccdpmddbaagreat", sum := "3ed35200ed61cec99598d27e0c7deb4e76e9ba8067735eef996fc9a68453b93d", func := "loop.example/g00486/laws.FnValids", spec := "fnValids", unfollowed := true, recurses := true, apart := false }
def FnValidsSaid : Prop := fnValidsRow.holds Tryz.pinned (OpenSpec.ofChange fnValidsSpec)

/-- ITS FALSE NEIGHBOUR: 'it returns false'. Refute it at one input. -/
def fnValidsWrong : ChangeSpec := { name := "fnValids", fn := fun _ => fun
  | [d] => { results := [.lit (.bool false)], args := [d] }
  | _ => none }
def FnValidsWrongFalsely : Prop := fnValidsRow.holds Tryz.pinned (OpenSpec.ofChange fnValidsWrong)

/-- 'laws.FnUsed': WHATEVER THE INPUT: true; the input reads as it did. -/
def fnUsedSpec : ChangeSpec := { name := "fnUsed", fn := fun _ => fun
  | [d] => { results := [.lit (.bool true)], args := [d] }
  | _ => none }
def fnUsedRow : OpenClaim := { program := "ytahlaccdpmddbaagreat", sum := "3ed35200ed61cec99598d27e0c7deb4e76e9ba8067735eef996fc9a68453b93d", func := "loop.example/g00486/laws.FnUsed", spec := "fnUsed", unfollowed := true, recurses := true, apart := false }
def FnUsedSaid : Prop := fnUsedRow.holds Tryz.pinned (OpenSpec.ofChange fnUsedSpec)

/-- ITS FALSE NEIGHBOUR: 'it returns false'. Refute it at one input. -/
def fnUsedWrong : ChangeSpec := { name := "fnUsed", fn := fun _ => fun
  | [d] => { results := [.lit (.bool false)], args := [d] }
  | _ => none }
def FnUsedWrongFalsely : Prop := fnUsedRow.holds Tryz.pinned (OpenSpec.ofChange fnUsedWrong)

/-- 'laws.FnSums': WHATEVER THE INPUT: true; the input reads as it did. -/
def fnSumsSpec : ChangeSpec := { name := "fnSums", fn := fun _ => fun
  | [d] => { results := [.lit (.bool true)], args := [d] }
  | _ => none }
def fnSumsRow : OpenClaim := { program := "ytahlaccdpmddbaagreat", sum := "3ed35200ed61cec99598d27e0c7deb4e76e9ba8067735eef996fc9a68453b93d", func := "loop.example/g00486/laws.FnSums", spec := "fnSums", unfollowed := true, recurses := true, apart := false }
def FnSumsSaid : Prop := fnSumsRow.holds Tryz.pinned (OpenSpec.ofChange fnSumsSpec)

/-- ITS FALSE NEIGHBOUR: 'it returns false'. Refute it at one input. -/
def fnSumsWrong : ChangeSpec := { name := "fnSums", fn := fun _ => fun
  | [d] => { results := [.lit (.bool false)], args := [d] }
  | _ => none }
def FnSumsWrongFalsely : Prop := fnSumsRow.holds Tryz.pinned (OpenSpec.ofChange fnSumsWrong)

/- THE SECOND FORM. 'bulk': how many values and letters a reading holds, each counted each time it is reached (what is shared counts as often as it is met; a slice's spare places count too). A statement '..UptoSaid' is the law's where the arguments, and the package variables that the reading takes, are together of bulk at most 1048576: NARROWER than '..Said'. Prove '..Said' where nothing that the law and all that it calls make is longer than what came in: it says more and counts as full. Else prove '..UptoSaid'. A law counts once. -/
mutual
def uptoBulk {H : Type} : DataW H → Nat
  | .lit (.string bytes) => bytes.length + 1
  | .lit _ => 1
  | .nil => 1
  | .ptr d => uptoBulk d + 1
  | .slice elems spare => uptoBulkAll elems + uptoBulkAll spare + 1
  | .agg parts => uptoBulkAll parts + 1
  | .iface _ d => uptoBulk d + 1
  | .map entries => uptoBulkEntries entries + 1
  | .held _ => 1
def uptoBulkAll {H : Type} : List (DataW H) → Nat
  | [] => 0
  | d :: r => uptoBulk d + uptoBulkAll r
def uptoBulkEntries {H : Type} : List (Lit × DataW H) → Nat
  | [] => 0
  | x :: r => uptoBulkEntry x + uptoBulkEntries r
def uptoBulkEntry {H : Type} : Lit × DataW H → Nat
  | (.string bytes, d) => bytes.length + uptoBulk d + 1
  | (_, d) => uptoBulk d + 1
 end
def uptoSmall : (H : Type) → List (DataW H) → Bool := fun _ ds => decide (uptoBulkAll ds ≤ 1048576)
def OpenSpec.upto (s : _root_.Go.ChangeSpec) : _root_.Go.OpenSpec := { _root_.Go.OpenSpec.ofChange s with cond := some uptoSmall }

/-- 'laws.FnExactFirstBad', WHERE WHAT IT READS IS OF BULK AT MOST 1048576: true; the input reads as it did. -/
def fnExactFirstBadUptoRow : OpenClaim := { program := "ytahlaccdpmddbaagreat", sum := "3ed35200ed61cec99598d27e0c7deb4e76e9ba8067735eef996fc9a68453b93d", func := "loop.example/g00486/laws.FnExactFirstBad", spec := "fnExactFirstBad", unfollowed := true, recurses := true, apart := false, narrowed := true }
def FnExactFirstBadUptoSaid : Prop := fnExactFirstBadUptoRow.holds Tryz.pinned (OpenSpec.upto fnExactFirstBadSpec)

/-- 'laws.FnExactValid', WHERE WHAT IT READS IS OF BULK AT MOST 1048576: true; the input reads as it did. -/
def fnExactValidUptoRow : OpenClaim := { program := "ytahlaccdpmddbaagreat", sum := "3ed35200ed61cec99598d27e0c7deb4e76e9ba8067735eef996fc9a68453b93d", func := "loop.example/g00486/laws.FnExactValid", spec := "fnExactValid", unfollowed := true, recurses := true, apart := false, narrowed := true }
def FnExactValidUptoSaid : Prop := fnExactValidUptoRow.holds Tryz.pinned (OpenSpec.upto fnExactValidSpec)

/-- 'laws.FnSaid', WHERE WHAT IT READS IS OF BULK AT MOST 1048576: true; the input reads as it did. -/
def fnSaidUptoRow : OpenClaim := { program := "ytahlaccdpmddbaagreat", sum := "3ed35200ed61cec99598d27e0c7deb4e76e9ba8067735eef996fc9a68453b93d", func := "loop.example/g00486/laws.FnSaid", spec := "fnSaid", inPlace := ["internal/abi.NoEscape", "internal/bytealg.MakeNoZero"], recurses := true, apart := false, narrowed := true }
def FnSaidUptoSaid : Prop := fnSaidUptoRow.holds Tryz.pinned (OpenSpec.upto fnSaidSpec)

/-- 'laws.FnInBounds', WHERE WHAT IT READS IS OF BULK AT MOST 1048576: true; the input reads as it did. -/
def fnInBoundsUptoRow : OpenClaim := { program := "ytahlaccdpmddbaagreat", sum := "3ed35200ed61cec99598d27e0c7deb4e76e9ba8067735eef996fc9a68453b93d", func := "loop.example/g00486/laws.FnInBounds", spec := "fnInBounds", unfollowed := true, recurses := true, apart := false, narrowed := true }
def FnInBoundsUptoSaid : Prop := fnInBoundsUptoRow.holds Tryz.pinned (OpenSpec.upto fnInBoundsSpec)

/-- 'laws.FnRewrites', WHERE WHAT IT READS IS OF BULK AT MOST 1048576: true; the input reads as it did. -/
def fnRewritesUptoRow : OpenClaim := { program := "ytahlaccdpmddbaagreat", sum := "3ed35200ed61cec99598d27e0c7deb4e76e9ba8067735eef996fc9a68453b93d", func := "loop.example/g00486/laws.FnRewrites", spec := "fnRewrites", unfollowed := true, recurses := true, apart := false, narrowed := true }
def FnRewritesUptoSaid : Prop := fnRewritesUptoRow.holds Tryz.pinned (OpenSpec.upto fnRewritesSpec)

/-- 'laws.FnValids', WHERE WHAT IT READS IS OF BULK AT MOST 1048576: true; the input reads as it did. -/
def fnValidsUptoRow : OpenClaim := { program := "ytahlaccdpmddbaagreat", sum := "3ed35200ed61cec99598d27e0c7deb4e76e9ba8067735eef996fc9a68453b93d", func := "loop.example/g00486/laws.FnValids", spec := "fnValids", unfollowed := true, recurses := true, apart := false, narrowed := true }
def FnValidsUptoSaid : Prop := fnValidsUptoRow.holds Tryz.pinned (OpenSpec.upto fnValidsSpec)

/-- 'laws.FnUsed', WHERE WHAT IT READS IS OF BULK AT MOST 1048576: true; the input reads as it did. -/
def fnUsedUptoRow : OpenClaim := { program := "ytahlaccdpmddbaagreat", sum := "3ed35200ed61cec99598d27e0c7deb4e76e9ba8067735eef996fc9a68453b93d", func := "loop.example/g00486/laws.FnUsed", spec := "fnUsed", unfollowed := true, recurses := true, apart := false, narrowed := true }
def FnUsedUptoSaid : Prop := fnUsedUptoRow.holds Tryz.pinned (OpenSpec.upto fnUsedSpec)

/-- 'laws.FnSums', WHERE WHAT IT READS IS OF BULK AT MOST 1048576: true; the input reads as it did. -/
def fnSumsUptoRow : OpenClaim := { program := "ytahlaccdpmddbaagreat", sum := "3ed35200ed61cec99598d27e0c7deb4e76e9ba8067735eef996fc9a68453b93d", func := "loop.example/g00486/laws.FnSums", spec := "fnSums", unfollowed := true, recurses := true, apart := false, narrowed := true }
def FnSumsUptoSaid : Prop := fnSumsUptoRow.holds Tryz.pinned (OpenSpec.upto fnSumsSpec)

end Rows
end Go.Proofs.YtahlaccdpmddbaaGreat
