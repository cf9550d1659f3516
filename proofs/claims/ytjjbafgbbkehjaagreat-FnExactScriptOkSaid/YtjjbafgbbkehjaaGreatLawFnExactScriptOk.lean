/- The law FnExactScriptOk holds: the program returns what the reference returns, for all arguments. No condition. -/
import Derived.Test.YtjjbafgbbkehjaaGreatPureFnExactScriptOk
namespace Go.Proofs.YtjjbafgbbkehjaaGreat
/-- The given statement. -/
theorem fnExactScriptOk_holds : Rows.FnExactScriptOkSaid := fnExactScriptOk.over Pure.fnExactScriptOk
#print axioms fnExactScriptOk_holds
end Go.Proofs.YtjjbafgbbkehjaaGreat
