/- The law FnExactHasWay holds: the program returns what the reference returns, for all arguments. No condition. -/
import Derived.Test.YtcladakiniekcaaPureFnExactHasWay
namespace Go.Proofs.Ytcladakiniekcaa
/-- The given statement. -/
theorem fnExactHasWay_holds : Rows.FnExactHasWaySaid := fnExactHasWay.over Pure.fnExactHasWay
#print axioms fnExactHasWay_holds
end Go.Proofs.Ytcladakiniekcaa
