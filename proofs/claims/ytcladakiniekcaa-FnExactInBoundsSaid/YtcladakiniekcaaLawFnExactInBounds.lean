/- The law FnExactInBounds holds: the program returns what the reference returns, for all arguments. No condition. -/
import Derived.Test.YtcladakiniekcaaPureFnExactInBounds
namespace Go.Proofs.Ytcladakiniekcaa
/-- The given statement. -/
theorem fnExactInBounds_holds : Rows.FnExactInBoundsSaid := fnExactInBounds.over Pure.fnExactInBounds
#print axioms fnExactInBounds_holds
end Go.Proofs.Ytcladakiniekcaa
