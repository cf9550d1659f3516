/- For every list of lists of events, the program's Fewest and the reference's Fewest return the same number, and the lists are left as they were. Conditions: none. -/
import Derived.Test.YtljnfcmcjhggfaaPureFnExactFewest
namespace Go.Proofs.Ytljnfcmcjhggfaa
/-- The given statement. -/
theorem fnExactFewest_holds : Rows.FnExactFewestSaid := fnExactFewest.over Pure.FnExactFewest
#print axioms fnExactFewest_holds
end Go.Proofs.Ytljnfcmcjhggfaa
