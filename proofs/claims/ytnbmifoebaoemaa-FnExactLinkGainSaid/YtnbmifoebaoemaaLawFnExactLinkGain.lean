/- The law FnExactLinkGain holds: the program returns what the reference returns, for all arguments. No condition. -/
import Derived.Test.YtnbmifoebaoemaaPureFnExactLinkGain
namespace Go.Proofs.Ytnbmifoebaoemaa
/-- The given statement. -/
theorem fnExactLinkGain_holds : Rows.FnExactLinkGainSaid := fnExactLinkGain.over Pure.fnExactLinkGain
#print axioms fnExactLinkGain_holds
end Go.Proofs.Ytnbmifoebaoemaa
