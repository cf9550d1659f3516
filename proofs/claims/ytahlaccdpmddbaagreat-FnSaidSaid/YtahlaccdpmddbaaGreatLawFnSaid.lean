/- The law FnSaid holds, for all arguments. No condition. -/
import Derived.Test.YtahlaccdpmddbaaGreatPureFnSaid
namespace Go.Proofs.YtahlaccdpmddbaaGreat
/-- The given statement. -/
theorem fnSaid_holds : Rows.FnSaidSaid := fnSaid.KZ Pure.fnSaid
#print axioms fnSaid_holds
end Go.Proofs.YtahlaccdpmddbaaGreat
