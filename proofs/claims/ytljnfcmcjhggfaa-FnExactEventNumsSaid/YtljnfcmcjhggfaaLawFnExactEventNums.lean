/- For every event, the program's EventNums and the reference's EventNums return the same numbers, in new memory. Conditions: none. -/
import Derived.Test.YtljnfcmcjhggfaaPureFnExactEventNums
namespace Go.Proofs.Ytljnfcmcjhggfaa
/-- The given statement. -/
theorem fnExactEventNums_holds : Rows.FnExactEventNumsSaid := fnExactEventNums.over Pure.FnExactEventNums
#print axioms fnExactEventNums_holds
end Go.Proofs.Ytljnfcmcjhggfaa
