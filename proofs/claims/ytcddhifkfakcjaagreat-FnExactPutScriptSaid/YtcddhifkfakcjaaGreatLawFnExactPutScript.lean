/- The law FnExactPutScript holds, for all arguments. No condition. -/
import Derived.Test.YtcddhifkfakcjaaGreatPureFnExactPutScript
namespace Go.Proofs.YtcddhifkfakcjaaGreat
/-- The given statement. -/
theorem fnExactPutScript_holds : Rows.FnExactPutScriptSaid := fnExactPutScript.over Pure.fnExactPutScript
#print axioms fnExactPutScript_holds
end Go.Proofs.YtcddhifkfakcjaaGreat
