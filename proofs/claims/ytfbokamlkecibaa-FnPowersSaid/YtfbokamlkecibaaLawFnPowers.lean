/- The law FnPowers holds, for all arguments. No condition. -/
import Derived.Test.YtfbokamlkecibaaPureFnPowers
namespace Go.Proofs.Ytfbokamlkecibaa
/-- The given statement. -/
theorem fnPowers_holds : Rows.FnPowersSaid := fnPowers.over Pure.fnPowers
#print axioms fnPowers_holds
end Go.Proofs.Ytfbokamlkecibaa
