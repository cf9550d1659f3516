/-
  No cell of these rows narrows 'for every input' (looked for: loops, veiled, ifaces, maps, wideKeys, modest, calm, conditions, laid).
  DERIVED. THE GIVEN ROWS OF THIS SEAT. 5 by the template 'for every input the law returns true; each argument reads behind the call as it read before'; 0 by the template 'total and deterministic' (their statements: YtcddhifkfakcjaaGreatTotals.lean).
  GIVEN WITH THE SEED: the statements are not yours to turn. If you find one false, say at which input.
  Laid BY PROGRAM, IN A SANDBOX (cutbox-rows.mjs): the forced cells as the released guide's own fill.sh prints them over the translation a1853e50dc0079ad… (all of the seat's roots in one cut). By AI agents, Wed Nov 11 2026. No macro, syntax, notation, axiom, sorry.
-/
import Derived.Test.YtcddhifkfakcjaaGreatChecked
import GoSem.Claim
import GoSem.ClaimJoined
import GoSem.ClaimMapViews
import Derived.JoinedTies
import Derived.KernelRfl
namespace Go.Proofs.YtcddhifkfakcjaaGreat
/- THE CELL 'sum', in the pinned program and in every row, IS THE sha256 OF THE DUMP (.gsa) THAT YtcddhifkfakcjaaGreatProg.lean LOADS. Nothing in Lean hashes anything: it is a label: what it is worth is what the hold of that sum in a sandbox is worth. -/
noncomputable def Tryz.pinned : Pinned := { name := "ytcddhifkfakcjaagreat", sum := "a1853e50dc0079ad21d2c1f47433f73b8f1ef5e6627524e775668f8e3a6a6225", checked := Tryz.checked }
namespace Rows
def none {H : Type} : Left H := { results := [], args := [] }

/-- 'laws.FnExactPutScript': WHATEVER THE INPUT: true; the input reads as it did. -/
def fnExactPutScriptSpec : ChangeSpec := { name := "fnExactPutScript", fn := fun _ => fun
  | [d] => { results := [.lit (.bool true)], args := [d] }
  | _ => none }
def fnExactPutScriptRow : OpenClaim := { program := "ytcddhifkfakcjaagreat", sum := "a1853e50dc0079ad21d2c1f47433f73b8f1ef5e6627524e775668f8e3a6a6225", func := "loop.example/g00486/laws.FnExactPutScript", spec := "fnExactPutScript", unfollowed := true, recurses := true, apart := false }
def FnExactPutScriptSaid : Prop := fnExactPutScriptRow.holds Tryz.pinned (OpenSpec.ofChange fnExactPutScriptSpec)

/-- ITS FALSE NEIGHBOUR: 'it returns false'. Refute it at one input. -/
def fnExactPutScriptWrong : ChangeSpec := { name := "fnExactPutScript", fn := fun _ => fun
  | [d] => { results := [.lit (.bool false)], args := [d] }
  | _ => none }
def FnExactPutScriptWrongFalsely : Prop := fnExactPutScriptRow.holds Tryz.pinned (OpenSpec.ofChange fnExactPutScriptWrong)

/-- 'laws.FnExactWays': WHATEVER THE INPUT: true; the input reads as it did. -/
def fnExactWaysSpec : ChangeSpec := { name := "fnExactWays", fn := fun _ => fun
  | [d1, d2, d3] => { results := [.lit (.bool true)], args := [d1, d2, d3] }
  | _ => none }
def fnExactWaysRow : OpenClaim := { program := "ytcddhifkfakcjaagreat", sum := "a1853e50dc0079ad21d2c1f47433f73b8f1ef5e6627524e775668f8e3a6a6225", func := "loop.example/g00486/laws.FnExactWays", spec := "fnExactWays", unfollowed := true, recurses := true, apart := false }
def FnExactWaysSaid : Prop := fnExactWaysRow.holds Tryz.pinned (OpenSpec.ofChange fnExactWaysSpec)

/-- ITS FALSE NEIGHBOUR: 'it returns false'. Refute it at one input. -/
def fnExactWaysWrong : ChangeSpec := { name := "fnExactWays", fn := fun _ => fun
  | [d1, d2, d3] => { results := [.lit (.bool false)], args := [d1, d2, d3] }
  | _ => none }
def FnExactWaysWrongFalsely : Prop := fnExactWaysRow.holds Tryz.pinned (OpenSpec.ofChange fnExactWaysWrong)

/-- 'laws.FnExactReplay': WHATEVER THE INPUT: true; the input reads as it did. -/
def fnExactReplaySpec : ChangeSpec := { name := "fnExactReplay", fn := fun _ => fun
  | [d1, d2, d3, d4] => { results := [.lit (.bool true)], args := [d1, d2, d3, d4] }
  | _ => none }
def fnExactReplayRow : OpenClaim := { program := "ytcddhifkfakcjaagreat", sum := "a1853e50dc0079ad21d2c1f47433f73b8f1ef5e6627524e775668f8e3a6a6225", func := "loop.example/g00486/laws.FnExactReplay", spec := "fnExactReplay", unfollowed := true, recurses := true, apart := false }
def FnExactReplaySaid : Prop := fnExactReplayRow.holds Tryz.pinned (OpenSpec.ofChange fnExactReplaySpec)

/-- ITS FALSE NEIGHBOUR: 'it returns false'. Refute it at one input. -/
def fnExactReplayWrong : ChangeSpec := { name := "fnExactReplay", fn := fun _ => fun
  | [d1, d2, d3, d4] => { results := [.lit (.bool false)], args := [d1, d2, d3, d4] }
  | _ => none }
def FnExactReplayWrongFalsely : Prop := fnExactReplayRow.holds Tryz.pinned (OpenSpec.ofChange fnExactReplayWrong)

/-- 'laws.FnExactOutcomes': WHATEVER THE INPUT: true; the input reads as it did. -/
def fnExactOutcomesSpec : ChangeSpec := { name := "fnExactOutcomes", fn := fun _ => fun
  | [d1, d2, d3] => { results := [.lit (.bool true)], args := [d1, d2, d3] }
  | _ => none }
def fnExactOutcomesRow : OpenClaim := { program := "ytcddhifkfakcjaagreat", sum := "a1853e50dc0079ad21d2c1f47433f73b8f1ef5e6627524e775668f8e3a6a6225", func := "loop.example/g00486/laws.FnExactOutcomes", spec := "fnExactOutcomes", unfollowed := true, recurses := true, apart := false }
def FnExactOutcomesSaid : Prop := fnExactOutcomesRow.holds Tryz.pinned (OpenSpec.ofChange fnExactOutcomesSpec)

/-- ITS FALSE NEIGHBOUR: 'it returns false'. Refute it at one input. -/
def fnExactOutcomesWrong : ChangeSpec := { name := "fnExactOutcomes", fn := fun _ => fun
  | [d1, d2, d3] => { results := [.lit (.bool false)], args := [d1, d2, d3] }
  | _ => none }
def FnExactOutcomesWrongFalsely : Prop := fnExactOutcomesRow.holds Tryz.pinned (OpenSpec.ofChange fnExactOutcomesWrong)

/-- 'laws.FnExactGetScript': WHATEVER THE INPUT: true; the input reads as it did. -/
def fnExactGetScriptSpec : ChangeSpec := { name := "fnExactGetScript", fn := fun _ => fun
  | [d] => { results := [.lit (.bool true)], args := [d] }
  | _ => none }
def fnExactGetScriptRow : OpenClaim := { program := "ytcddhifkfakcjaagreat", sum := "a1853e50dc0079ad21d2c1f47433f73b8f1ef5e6627524e775668f8e3a6a6225", func := "loop.example/g00486/laws.FnExactGetScript", spec := "fnExactGetScript", unfollowed := true, recurses := true, apart := false }
def FnExactGetScriptSaid : Prop := fnExactGetScriptRow.holds Tryz.pinned (OpenSpec.ofChange fnExactGetScriptSpec)

/-- ITS FALSE NEIGHBOUR: 'it returns false'. Refute it at one input. -/
def fnExactGetScriptWrong : ChangeSpec := { name := "fnExactGetScript", fn := fun _ => fun
  | [d] => { results := [.lit (.bool false)], args := [d] }
  | _ => none }
def FnExactGetScriptWrongFalsely : Prop := fnExactGetScriptRow.holds Tryz.pinned (OpenSpec.ofChange fnExactGetScriptWrong)

/- THE SECOND FORM. 'bulk': how many values and letters a reading holds, each counted each time it is reached (what is shared counts as often as it is met; a slice's spare places count too). A statement '..UptoSaid' is the law's where the arguments, and the package variables that the reading takes, are together of bulk at most 1048576: NARROWER than '..Said'. Prove '..Said' where nothing that the law and all that it calls make is longer than what came in: it says more and counts as full. Else prove '..UptoSaid'. A law counts once. -/
mutual
def uptoBulk {H : Type} : DataW H → Nat
  | .lit (.string bytes) => bytes.length + 1
  | .lit _ => 1
  | .nil => 1
  | .ptr d => uptoBulk d + 1
  | .slice elems spare => uptoBulkAll elems + uptoBulkAll spare + 1
  | .agg parts => uptoBulkAll parts + 1
  | .iface _ d => uptoBulk d + 1
  | .map entries => uptoBulkEntries entries + 1
  | .held _ => 1
def uptoBulkAll {H : Type} : List (DataW H) → Nat
  | [] => 0
  | d :: r => uptoBulk d + uptoBulkAll r
def uptoBulkEntries {H : Type} : List (Lit × DataW H) → Nat
  | [] => 0
  | x :: r => uptoBulkEntry x + uptoBulkEntries r
def uptoBulkEntry {H : Type} : Lit × DataW H → Nat
  | (.string bytes, d) => bytes.length + uptoBulk d + 1
  | (_, d) => uptoBulk d + 1
 end
def uptoSmall : (H : Type) → List (DataW H) → Bool := fun _ ds => decide (uptoBulkAll ds ≤ 1048576)
def OpenSpec.upto (s : _root_.Go.ChangeSpec) : _root_.Go.OpenSpec := { _root_.Go.OpenSpec.ofChange s with cond := some uptoSmall }

/-- 'laws.FnExactPutScript', WHERE WHAT IT READS IS OF BULK AT MOST 1048576: true; the input reads as it did. -/
def fnExactPutScriptUptoRow : OpenClaim := { program := "ytcddhifkfakcjaagreat", sum := "a1853e50dc0079ad21d2c1f47433f73b8f1ef5e6627524e775668f8e3a6a6225", func := "loop.example/g00486/laws.FnExactPutScript", spec := "fnExactPutScript", unfollowed := true, recurses := true, apart := false, narrowed := true }
def FnExactPutScriptUptoSaid : Prop := fnExactPutScriptUptoRow.holds Tryz.pinned (OpenSpec.upto fnExactPutScriptSpec)

/-- 'laws.FnExactWays', WHERE WHAT IT READS IS OF BULK AT MOST 1048576: true; the input reads as it did. -/
def fnExactWaysUptoRow : OpenClaim := { program := "ytcddhifkfakcjaagreat", sum := "a1853e50dc0079ad21d2c1f47433f73b8f1ef5e6627524e775668f8e3a6a6225", func := "loop.example/g00486/laws.FnExactWays", spec := "fnExactWays", unfollowed := true, recurses := true, apart := false, narrowed := true }
def FnExactWaysUptoSaid : Prop := fnExactWaysUptoRow.holds Tryz.pinned (OpenSpec.upto fnExactWaysSpec)

/-- 'laws.FnExactReplay', WHERE WHAT IT READS IS OF BULK AT MOST 1048576: true; the input reads as it did. -/
def fnExactReplayUptoRow : OpenClaim := { program := "ytcddhifkfakcjaagreat", sum := "a1853e50dc0079ad21d2c1f47433f73b8f1ef5e6627524e775668f8e3a6a6225", func := "loop.example/g00486/laws.FnExactReplay", spec := "fnExactReplay", unfollowed := true, recurses := true, apart := false, narrowed := true }
def FnExactReplayUptoSaid : Prop := fnExactReplayUptoRow.holds Tryz.pinned (OpenSpec.upto fnExactReplaySpec)

/-- 'laws.FnExactOutcomes', WHERE WHAT IT READS IS OF BULK AT MOST 1048576: true; the input reads as it did. -/
def fnExactOutcomesUptoRow : OpenClaim := { program := "ytcddhifkfakcjaagreat", sum := "a1853e50dc0079ad21d2c1f47433f73b8f1ef5e6627524e775668f8e3a6a6225", func := "loop.example/g00486/laws.FnExactOutcomes", spec := "fnExactOutcomes", unfollowed := true, recurses := true, apart := false, narrowed := true }
def FnExactOutcomesUptoSaid : Prop := fnExactOutcomesUptoRow.holds Tryz.pinned (OpenSpec.upto fnExactOutcomesSpec)

/-- 'laws.FnExactGetScript', WHERE WHAT IT READS IS OF BULK AT MOST 1048576: true; the input reads as it did. -/
def fnExactGetScriptUptoRow : OpenClaim := { program := "ytcddhifkfakcjaagreat", sum := "a1853e50dc0079ad21d2c1f47433f73b8f1ef5e6627524e775668f8e3a6a6225", func := "loop.example/g00486/laws.FnExactGetScript", spec := "fnExactGetScript", unfollowed := true, recurses := true, apart := false, narrowed := true }
def FnExactGetScriptUptoSaid : Prop := fnExactGetScriptUptoRow.holds Tryz.pinned (OpenSpec.upto fnExactGetScriptSpec)

end Rows
end Go.Proofs.YtcddhifkfakcjaaGreat
