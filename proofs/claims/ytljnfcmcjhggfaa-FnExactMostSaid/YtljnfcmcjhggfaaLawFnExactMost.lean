/- For every list of lists of events, the program's Most and the reference's Most return the same number, and the lists are left as they were. Conditions: none. -/
import Derived.Test.YtljnfcmcjhggfaaPureFnExactMost
namespace Go.Proofs.Ytljnfcmcjhggfaa
/-- The given statement. -/
theorem fnExactMost_holds : Rows.FnExactMostSaid := fnExactMost.over Pure.FnExactMost
#print axioms fnExactMost_holds
end Go.Proofs.Ytljnfcmcjhggfaa
