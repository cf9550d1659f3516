/-
  No cell of these rows narrows 'for every input' (looked for: loops, veiled, ifaces, maps, wideKeys, modest, calm, conditions, laid).
  DERIVED. THE GIVEN ROWS OF THIS SEAT. 11 by the template 'for every input the law returns true; each argument reads behind the call as it read before'; 0 by the template 'total and deterministic' (their statements: YtnbmifoebaoemaaTotals.lean).
  GIVEN WITH THE SEED: the statements are not yours to turn. If you find one false, say at which input.
  Laid BY PROGRAM, IN A SANDBOX (cutbox-rows.mjs): the forced cells as the released guide's own fill.sh prints them over the translation 63a919331ddf224c… (all of the seat's roots in one cut). By AI agents, Wed Nov 11 2026. No macro, syntax, notation, axiom, sorry.
-/
import Derived.Test.YtnbmifoebaoemaaChecked
import GoSem.Claim
import GoSem.ClaimJoined
import GoSem.ClaimMapViews
import Derived.JoinedTies
import Derived.KernelRfl
namespace Go.Proofs.Ytnbmifoebaoemaa
/- THE CELL 'sum', in the pinned program and in every row, IS THE sha256 OF THE DUMP (.gsa) THAT YtnbmifoebaoemaaProg.lean LOADS. Nothing in Lean hashes anything: it is a label: what it is worth is what the hold of that sum in a sandbox is worth. -/
noncomputable def Try.pinned : Pinned := { name := "ytnbmifoebaoemaa", sum := "63a919331ddf224c9984142caab568a0eee1fa3cc33a06db944138267843b278", checked := Try.checked }
namespace Rows
def none {H : Type} : Left H := { results := [], args := [] }

/-- 'laws.FnExactChoicesFor': WHATEVER THE INPUT: true; the input reads as it did. -/
def fnExactChoicesForSpec : ChangeSpec := { name := "fnExactChoicesFor", fn := fun _ => fun
  | [d] => { results := [.lit (.bool true)], args := [d] }
  | _ => none }
def fnExactChoicesForRow : OpenClaim := { program := "ytnbmifoebaoemaa", sum := "63a919331ddf224c9984142caab568a0eee1fa3cc33a06db944138267843b278", func := "loop.example/g00486/laws.FnExactChoicesFor", spec := "fnExactChoicesFor", apart := false }
def FnExactChoicesForSaid : Prop := fnExactChoicesForRow.holds Try.pinned (OpenSpec.ofChange fnExactChoicesForSpec)

/-- ITS FALSE NEIGHBOUR: 'it returns false'. Refute it at one input. -/
def fnExactChoicesForWrong : ChangeSpec := { name := "fnExactChoicesFor", fn := fun _ => fun
  | [d] => { results := [.lit (.bool false)], args := [d] }
  | _ => none }
def FnExactChoicesForWrongFalsely : Prop := fnExactChoicesForRow.holds Try.pinned (OpenSpec.ofChange fnExactChoicesForWrong)

/-- 'laws.FnExactNoteText': WHATEVER THE INPUT: true; the input reads as it did. -/
def fnExactNoteTextSpec : ChangeSpec := { name := "fnExactNoteText", fn := fun _ => fun
  | [d] => { results := [.lit (.bool true)], args := [d] }
  | _ => none }
def fnExactNoteTextRow : OpenClaim := { program := "ytnbmifoebaoemaa", sum := "63a919331ddf224c9984142caab568a0eee1fa3cc33a06db944138267843b278", func := "loop.example/g00486/laws.FnExactNoteText", spec := "fnExactNoteText", inPlace := ["internal/abi.NoEscape", "internal/bytealg.MakeNoZero"], recurses := true, apart := false }
def FnExactNoteTextSaid : Prop := fnExactNoteTextRow.holds Try.pinned (OpenSpec.ofChange fnExactNoteTextSpec)

/-- ITS FALSE NEIGHBOUR: 'it returns false'. Refute it at one input. -/
def fnExactNoteTextWrong : ChangeSpec := { name := "fnExactNoteText", fn := fun _ => fun
  | [d] => { results := [.lit (.bool false)], args := [d] }
  | _ => none }
def FnExactNoteTextWrongFalsely : Prop := fnExactNoteTextRow.holds Try.pinned (OpenSpec.ofChange fnExactNoteTextWrong)

/-- 'laws.FnExactEffectNums': WHATEVER THE INPUT: true; the input reads as it did. -/
def fnExactEffectNumsSpec : ChangeSpec := { name := "fnExactEffectNums", fn := fun _ => fun
  | [d] => { results := [.lit (.bool true)], args := [d] }
  | _ => none }
def fnExactEffectNumsRow : OpenClaim := { program := "ytnbmifoebaoemaa", sum := "63a919331ddf224c9984142caab568a0eee1fa3cc33a06db944138267843b278", func := "loop.example/g00486/laws.FnExactEffectNums", spec := "fnExactEffectNums", apart := false }
def FnExactEffectNumsSaid : Prop := fnExactEffectNumsRow.holds Try.pinned (OpenSpec.ofChange fnExactEffectNumsSpec)

/-- ITS FALSE NEIGHBOUR: 'it returns false'. Refute it at one input. -/
def fnExactEffectNumsWrong : ChangeSpec := { name := "fnExactEffectNums", fn := fun _ => fun
  | [d] => { results := [.lit (.bool false)], args := [d] }
  | _ => none }
def FnExactEffectNumsWrongFalsely : Prop := fnExactEffectNumsRow.holds Try.pinned (OpenSpec.ofChange fnExactEffectNumsWrong)

/-- 'laws.FnExactMostLeft': WHATEVER THE INPUT: true; the input reads as it did. -/
def fnExactMostLeftSpec : ChangeSpec := { name := "fnExactMostLeft", fn := fun _ => fun
  | [d] => { results := [.lit (.bool true)], args := [d] }
  | _ => none }
def fnExactMostLeftRow : OpenClaim := { program := "ytnbmifoebaoemaa", sum := "63a919331ddf224c9984142caab568a0eee1fa3cc33a06db944138267843b278", func := "loop.example/g00486/laws.FnExactMostLeft", spec := "fnExactMostLeft", apart := false }
def FnExactMostLeftSaid : Prop := fnExactMostLeftRow.holds Try.pinned (OpenSpec.ofChange fnExactMostLeftSpec)

/-- ITS FALSE NEIGHBOUR: 'it returns false'. Refute it at one input. -/
def fnExactMostLeftWrong : ChangeSpec := { name := "fnExactMostLeft", fn := fun _ => fun
  | [d] => { results := [.lit (.bool false)], args := [d] }
  | _ => none }
def FnExactMostLeftWrongFalsely : Prop := fnExactMostLeftRow.holds Try.pinned (OpenSpec.ofChange fnExactMostLeftWrong)

/-- 'laws.FnExactMostTurns': WHATEVER THE INPUT: true; the input reads as it did. -/
def fnExactMostTurnsSpec : ChangeSpec := { name := "fnExactMostTurns", fn := fun _ => fun
  | [d] => { results := [.lit (.bool true)], args := [d] }
  | _ => none }
def fnExactMostTurnsRow : OpenClaim := { program := "ytnbmifoebaoemaa", sum := "63a919331ddf224c9984142caab568a0eee1fa3cc33a06db944138267843b278", func := "loop.example/g00486/laws.FnExactMostTurns", spec := "fnExactMostTurns", apart := false }
def FnExactMostTurnsSaid : Prop := fnExactMostTurnsRow.holds Try.pinned (OpenSpec.ofChange fnExactMostTurnsSpec)

/-- ITS FALSE NEIGHBOUR: 'it returns false'. Refute it at one input. -/
def fnExactMostTurnsWrong : ChangeSpec := { name := "fnExactMostTurns", fn := fun _ => fun
  | [d] => { results := [.lit (.bool false)], args := [d] }
  | _ => none }
def FnExactMostTurnsWrongFalsely : Prop := fnExactMostTurnsRow.holds Try.pinned (OpenSpec.ofChange fnExactMostTurnsWrong)

/-- 'laws.FnExactLinkGain': WHATEVER THE INPUT: true; the input reads as it did. -/
def fnExactLinkGainSpec : ChangeSpec := { name := "fnExactLinkGain", fn := fun _ => fun
  | [d1, d2, d3] => { results := [.lit (.bool true)], args := [d1, d2, d3] }
  | _ => none }
def fnExactLinkGainRow : OpenClaim := { program := "ytnbmifoebaoemaa", sum := "63a919331ddf224c9984142caab568a0eee1fa3cc33a06db944138267843b278", func := "loop.example/g00486/laws.FnExactLinkGain", spec := "fnExactLinkGain", unfollowed := true, recurses := true, apart := false }
def FnExactLinkGainSaid : Prop := fnExactLinkGainRow.holds Try.pinned (OpenSpec.ofChange fnExactLinkGainSpec)

/-- ITS FALSE NEIGHBOUR: 'it returns false'. Refute it at one input. -/
def fnExactLinkGainWrong : ChangeSpec := { name := "fnExactLinkGain", fn := fun _ => fun
  | [d1, d2, d3] => { results := [.lit (.bool false)], args := [d1, d2, d3] }
  | _ => none }
def FnExactLinkGainWrongFalsely : Prop := fnExactLinkGainRow.holds Try.pinned (OpenSpec.ofChange fnExactLinkGainWrong)

/-- 'laws.FnExactTurnText': WHATEVER THE INPUT: true; the input reads as it did. -/
def fnExactTurnTextSpec : ChangeSpec := { name := "fnExactTurnText", fn := fun _ => fun
  | [d] => { results := [.lit (.bool true)], args := [d] }
  | _ => none }
def fnExactTurnTextRow : OpenClaim := { program := "ytnbmifoebaoemaa", sum := "63a919331ddf224c9984142caab568a0eee1fa3cc33a06db944138267843b278", func := "loop.example/g00486/laws.FnExactTurnText", spec := "fnExactTurnText", inPlace := ["internal/abi.NoEscape", "internal/bytealg.MakeNoZero"], recurses := true, apart := false }
def FnExactTurnTextSaid : Prop := fnExactTurnTextRow.holds Try.pinned (OpenSpec.ofChange fnExactTurnTextSpec)

/-- ITS FALSE NEIGHBOUR: 'it returns false'. Refute it at one input. -/
def fnExactTurnTextWrong : ChangeSpec := { name := "fnExactTurnText", fn := fun _ => fun
  | [d] => { results := [.lit (.bool false)], args := [d] }
  | _ => none }
def FnExactTurnTextWrongFalsely : Prop := fnExactTurnTextRow.holds Try.pinned (OpenSpec.ofChange fnExactTurnTextWrong)

/-- 'laws.FnExactOrderNums': WHATEVER THE INPUT: true; the input reads as it did. -/
def fnExactOrderNumsSpec : ChangeSpec := { name := "fnExactOrderNums", fn := fun _ => fun
  | [d] => { results := [.lit (.bool true)], args := [d] }
  | _ => none }
def fnExactOrderNumsRow : OpenClaim := { program := "ytnbmifoebaoemaa", sum := "63a919331ddf224c9984142caab568a0eee1fa3cc33a06db944138267843b278", func := "loop.example/g00486/laws.FnExactOrderNums", spec := "fnExactOrderNums", apart := false }
def FnExactOrderNumsSaid : Prop := fnExactOrderNumsRow.holds Try.pinned (OpenSpec.ofChange fnExactOrderNumsSpec)

/-- ITS FALSE NEIGHBOUR: 'it returns false'. Refute it at one input. -/
def fnExactOrderNumsWrong : ChangeSpec := { name := "fnExactOrderNums", fn := fun _ => fun
  | [d] => { results := [.lit (.bool false)], args := [d] }
  | _ => none }
def FnExactOrderNumsWrongFalsely : Prop := fnExactOrderNumsRow.holds Try.pinned (OpenSpec.ofChange fnExactOrderNumsWrong)

/-- 'laws.FnExactUsedUp': WHATEVER THE INPUT: true; the input reads as it did. -/
def fnExactUsedUpSpec : ChangeSpec := { name := "fnExactUsedUp", fn := fun _ => fun
  | [d1, d2] => { results := [.lit (.bool true)], args := [d1, d2] }
  | _ => none }
def fnExactUsedUpRow : OpenClaim := { program := "ytnbmifoebaoemaa", sum := "63a919331ddf224c9984142caab568a0eee1fa3cc33a06db944138267843b278", func := "loop.example/g00486/laws.FnExactUsedUp", spec := "fnExactUsedUp", apart := false }
def FnExactUsedUpSaid : Prop := fnExactUsedUpRow.holds Try.pinned (OpenSpec.ofChange fnExactUsedUpSpec)

/-- ITS FALSE NEIGHBOUR: 'it returns false'. Refute it at one input. -/
def fnExactUsedUpWrong : ChangeSpec := { name := "fnExactUsedUp", fn := fun _ => fun
  | [d1, d2] => { results := [.lit (.bool false)], args := [d1, d2] }
  | _ => none }
def FnExactUsedUpWrongFalsely : Prop := fnExactUsedUpRow.holds Try.pinned (OpenSpec.ofChange fnExactUsedUpWrong)

/-- 'laws.FnExactNeeded': WHATEVER THE INPUT: true; the input reads as it did. -/
def fnExactNeededSpec : ChangeSpec := { name := "fnExactNeeded", fn := fun _ => fun
  | [d] => { results := [.lit (.bool true)], args := [d] }
  | _ => none }
def fnExactNeededRow : OpenClaim := { program := "ytnbmifoebaoemaa", sum := "63a919331ddf224c9984142caab568a0eee1fa3cc33a06db944138267843b278", func := "loop.example/g00486/laws.FnExactNeeded", spec := "fnExactNeeded", apart := false }
def FnExactNeededSaid : Prop := fnExactNeededRow.holds Try.pinned (OpenSpec.ofChange fnExactNeededSpec)

/-- ITS FALSE NEIGHBOUR: 'it returns false'. Refute it at one input. -/
def fnExactNeededWrong : ChangeSpec := { name := "fnExactNeeded", fn := fun _ => fun
  | [d] => { results := [.lit (.bool false)], args := [d] }
  | _ => none }
def FnExactNeededWrongFalsely : Prop := fnExactNeededRow.holds Try.pinned (OpenSpec.ofChange fnExactNeededWrong)

/-- 'laws.FnExactBalanced': WHATEVER THE INPUT: true; the input reads as it did. -/
def fnExactBalancedSpec : ChangeSpec := { name := "fnExactBalanced", fn := fun _ => fun
  | [d1, d2] => { results := [.lit (.bool true)], args := [d1, d2] }
  | _ => none }
def fnExactBalancedRow : OpenClaim := { program := "ytnbmifoebaoemaa", sum := "63a919331ddf224c9984142caab568a0eee1fa3cc33a06db944138267843b278", func := "loop.example/g00486/laws.FnExactBalanced", spec := "fnExactBalanced", apart := false }
def FnExactBalancedSaid : Prop := fnExactBalancedRow.holds Try.pinned (OpenSpec.ofChange fnExactBalancedSpec)

/-- ITS FALSE NEIGHBOUR: 'it returns false'. Refute it at one input. -/
def fnExactBalancedWrong : ChangeSpec := { name := "fnExactBalanced", fn := fun _ => fun
  | [d1, d2] => { results := [.lit (.bool false)], args := [d1, d2] }
  | _ => none }
def FnExactBalancedWrongFalsely : Prop := fnExactBalancedRow.holds Try.pinned (OpenSpec.ofChange fnExactBalancedWrong)

/- THE SECOND FORM. 'bulk': how many values and letters a reading holds, each counted each time it is reached (what is shared counts as often as it is met; a slice's spare places count too). A statement '..UptoSaid' is the law's where the arguments, and the package variables that the reading takes, are together of bulk at most 1048576: NARROWER than '..Said'. Prove '..Said' where nothing that the law and all that it calls make is longer than what came in: it says more and counts as full. Else prove '..UptoSaid'. A law counts once. -/
mutual
def uptoBulk {H : Type} : DataW H → Nat
  | .lit (.string bytes) => bytes.length + 1
  | .lit _ => 1
  | .nil => 1
  | .ptr d => uptoBulk d + 1
  | .slice elems spare => uptoBulkAll elems + uptoBulkAll spare + 1
  | .agg parts => uptoBulkAll parts + 1
  | .iface _ d => uptoBulk d + 1
  | .map entries => uptoBulkEntries entries + 1
  | .held _ => 1
def uptoBulkAll {H : Type} : List (DataW H) → Nat
  | [] => 0
  | d :: r => uptoBulk d + uptoBulkAll r
def uptoBulkEntries {H : Type} : List (Lit × DataW H) → Nat
  | [] => 0
  | x :: r => uptoBulkEntry x + uptoBulkEntries r
def uptoBulkEntry {H : Type} : Lit × DataW H → Nat
  | (.string bytes, d) => bytes.length + uptoBulk d + 1
  | (_, d) => uptoBulk d + 1
 end
def uptoSmall : (H : Type) → List (DataW H) → Bool := fun _ ds => decide (uptoBulkAll ds ≤ 1048576)
def OpenSpec.upto (s : _root_.Go.ChangeSpec) : _root_.Go.OpenSpec := { _root_.Go.OpenSpec.ofChange s with cond := some uptoSmall }

/-- 'laws.FnExactChoicesFor', WHERE WHAT IT READS IS OF BULK AT MOST 1048576: true; the input reads as it did. -/
def fnExactChoicesForUptoRow : OpenClaim := { program := "ytnbmifoebaoemaa", sum := "63a919331ddf224c9984142caab568a0eee1fa3cc33a06db944138267843b278", func := "loop.example/g00486/laws.FnExactChoicesFor", spec := "fnExactChoicesFor", apart := false, narrowed := true }
def FnExactChoicesForUptoSaid : Prop := fnExactChoicesForUptoRow.holds Try.pinned (OpenSpec.upto fnExactChoicesForSpec)

/-- 'laws.FnExactNoteText', WHERE WHAT IT READS IS OF BULK AT MOST 1048576: true; the input reads as it did. -/
def fnExactNoteTextUptoRow : OpenClaim := { program := "ytnbmifoebaoemaa", sum := "63a919331ddf224c9984142caab568a0eee1fa3cc33a06db944138267843b278", func := "loop.example/g00486/laws.FnExactNoteText", spec := "fnExactNoteText", inPlace := ["internal/abi.NoEscape", "internal/bytealg.MakeNoZero"], recurses := true, apart := false, narrowed := true }
def FnExactNoteTextUptoSaid : Prop := fnExactNoteTextUptoRow.holds Try.pinned (OpenSpec.upto fnExactNoteTextSpec)

/-- 'laws.FnExactEffectNums', WHERE WHAT IT READS IS OF BULK AT MOST 1048576: true; the input reads as it did. -/
def fnExactEffectNumsUptoRow : OpenClaim := { program := "ytnbmifoebaoemaa", sum := "63a919331ddf224c9984142caab568a0eee1fa3cc33a06db944138267843b278", func := "loop.example/g00486/laws.FnExactEffectNums", spec := "fnExactEffectNums", apart := false, narrowed := true }
def FnExactEffectNumsUptoSaid : Prop := fnExactEffectNumsUptoRow.holds Try.pinned (OpenSpec.upto fnExactEffectNumsSpec)

/-- 'laws.FnExactMostLeft', WHERE WHAT IT READS IS OF BULK AT MOST 1048576: true; the input reads as it did. -/
def fnExactMostLeftUptoRow : OpenClaim := { program := "ytnbmifoebaoemaa", sum := "63a919331ddf224c9984142caab568a0eee1fa3cc33a06db944138267843b278", func := "loop.example/g00486/laws.FnExactMostLeft", spec := "fnExactMostLeft", apart := false, narrowed := true }
def FnExactMostLeftUptoSaid : Prop := fnExactMostLeftUptoRow.holds Try.pinned (OpenSpec.upto fnExactMostLeftSpec)

/-- 'laws.FnExactMostTurns', WHERE WHAT IT READS IS OF BULK AT MOST 1048576: true; the input reads as it did. -/
def fnExactMostTurnsUptoRow : OpenClaim := { program := "ytnbmifoebaoemaa", sum := "63a919331ddf224c9984142caab568a0eee1fa3cc33a06db944138267843b278", func := "loop.example/g00486/laws.FnExactMostTurns", spec := "fnExactMostTurns", apart := false, narrowed := true }
def FnExactMostTurnsUptoSaid : Prop := fnExactMostTurnsUptoRow.holds Try.pinned (OpenSpec.upto fnExactMostTurnsSpec)

/-- 'laws.FnExactLinkGain', WHERE WHAT IT READS IS OF BULK AT MOST 1048576: true; the input reads as it did. -/
def fnExactLinkGainUptoRow : OpenClaim := { program := "ytnbmifoebaoemaa", sum := "63a919331ddf224c9984142caab568a0eee1fa3cc33a06db944138267843b278", func := "loop.example/g00486/laws.FnExactLinkGain", spec := "fnExactLinkGain", unfollowed := true, recurses := true, apart := false, narrowed := true }
def FnExactLinkGainUptoSaid : Prop := fnExactLinkGainUptoRow.holds Try.pinned (OpenSpec.upto fnExactLinkGainSpec)

/-- 'laws.FnExactTurnText', WHERE WHAT IT READS IS OF BULK AT MOST 1048576: true; the input reads as it did. -/
def fnExactTurnTextUptoRow : OpenClaim := { program := "ytnbmifoebaoemaa", sum := "63a919331ddf224c9984142caab568a0eee1fa3cc33a06db944138267843b278", func := "loop.example/g00486/laws.FnExactTurnText", spec := "fnExactTurnText", inPlace := ["internal/abi.NoEscape", "internal/bytealg.MakeNoZero"], recurses := true, apart := false, narrowed := true }
def FnExactTurnTextUptoSaid : Prop := fnExactTurnTextUptoRow.holds Try.pinned (OpenSpec.upto fnExactTurnTextSpec)

/-- 'laws.FnExactOrderNums', WHERE WHAT IT READS IS OF BULK AT MOST 1048576: true; the input reads as it did. -/
def fnExactOrderNumsUptoRow : OpenClaim := { program := "ytnbmifoebaoemaa", sum := "63a919331ddf224c9984142caab568a0eee1fa3cc33a06db944138267843b278", func := "loop.example/g00486/laws.FnExactOrderNums", spec := "fnExactOrderNums", apart := false, narrowed := true }
def FnExactOrderNumsUptoSaid : Prop := fnExactOrderNumsUptoRow.holds Try.pinned (OpenSpec.upto fnExactOrderNumsSpec)

/-- 'laws.FnExactUsedUp', WHERE WHAT IT READS IS OF BULK AT MOST 1048576: true; the input reads as it did. -/
def fnExactUsedUpUptoRow : OpenClaim := { program := "ytnbmifoebaoemaa", sum := "63a919331ddf224c9984142caab568a0eee1fa3cc33a06db944138267843b278", func := "loop.example/g00486/laws.FnExactUsedUp", spec := "fnExactUsedUp", apart := false, narrowed := true }
def FnExactUsedUpUptoSaid : Prop := fnExactUsedUpUptoRow.holds Try.pinned (OpenSpec.upto fnExactUsedUpSpec)

/-- 'laws.FnExactNeeded', WHERE WHAT IT READS IS OF BULK AT MOST 1048576: true; the input reads as it did. -/
def fnExactNeededUptoRow : OpenClaim := { program := "ytnbmifoebaoemaa", sum := "63a919331ddf224c9984142caab568a0eee1fa3cc33a06db944138267843b278", func := "loop.example/g00486/laws.FnExactNeeded", spec := "fnExactNeeded", apart := false, narrowed := true }
def FnExactNeededUptoSaid : Prop := fnExactNeededUptoRow.holds Try.pinned (OpenSpec.upto fnExactNeededSpec)

/-- 'laws.FnExactBalanced', WHERE WHAT IT READS IS OF BULK AT MOST 1048576: true; the input reads as it did. -/
def fnExactBalancedUptoRow : OpenClaim := { program := "ytnbmifoebaoemaa", sum := "63a919331ddf224c9984142caab568a0eee1fa3cc33a06db944138267843b278", func := "loop.example/g00486/laws.FnExactBalanced", spec := "fnExactBalanced", apart := false, narrowed := true }
def FnExactBalancedUptoSaid : Prop := fnExactBalancedUptoRow.holds Try.pinned (OpenSpec.upto fnExactBalancedSpec)

end Rows
end Go.Proofs.Ytnbmifoebaoemaa
