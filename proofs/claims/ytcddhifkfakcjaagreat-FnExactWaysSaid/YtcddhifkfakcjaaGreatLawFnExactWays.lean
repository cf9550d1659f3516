/- The law FnExactWays holds, for all arguments. No condition. -/
import Derived.Test.YtcddhifkfakcjaaGreatPureFnExactWays
namespace Go.Proofs.YtcddhifkfakcjaaGreat
/-- The given statement. -/
theorem fnExactWays_holds : Rows.FnExactWaysSaid := fnExactWays.DQ Pure.fnExactWays
#print axioms fnExactWays_holds
end Go.Proofs.YtcddhifkfakcjaaGreat
