/- The law FnExactChoicesFor holds, for all arguments. No condition. -/
import Derived.Test.YtcddhifkfakcjaaPureFnExactChoicesFor
namespace Go.Proofs.Ytcddhifkfakcjaa
/-- The given statement. -/
theorem fnExactChoicesFor_holds : Rows.FnExactChoicesForSaid := fnExactChoicesFor.over Pure.fnExactChoicesFor
#print axioms fnExactChoicesFor_holds
end Go.Proofs.Ytcddhifkfakcjaa
