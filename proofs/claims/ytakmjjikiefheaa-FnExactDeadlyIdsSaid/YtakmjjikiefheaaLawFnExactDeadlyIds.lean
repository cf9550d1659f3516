/- The law FnExactDeadlyIds holds, for all arguments. No condition. -/
import Derived.Test.YtakmjjikiefheaaPureFnExactDeadlyIds
namespace Go.Proofs.Ytakmjjikiefheaa
/-- The given statement. -/
theorem fnExactDeadlyIds_holds : Rows.FnExactDeadlyIdsSaid := fnExactDeadlyIds.over Pure.fnExactDeadlyIds
#print axioms fnExactDeadlyIds_holds
end Go.Proofs.Ytakmjjikiefheaa
