/- The law FnExactOrderOk holds: the program returns what the reference returns, for all arguments. No condition. -/
import Derived.Test.YtcladakiniekcaaPureFnExactOrderOk
namespace Go.Proofs.Ytcladakiniekcaa
/-- The given statement. -/
theorem fnExactOrderOk_holds : Rows.FnExactOrderOkSaid := fnExactOrderOk.over Pure.fnExactOrderOk
#print axioms fnExactOrderOk_holds
end Go.Proofs.Ytcladakiniekcaa
