/- The law FnExactNoteText holds: the program returns what the reference returns, for all arguments. No condition. -/
import Derived.Test.YtnbmifoebaoemaaPureFnExactNoteText
namespace Go.Proofs.Ytnbmifoebaoemaa
/-- The given statement. -/
theorem fnExactNoteText_holds : Rows.FnExactNoteTextSaid := fnExactNoteText.over Pure.fnExactNoteText
#print axioms fnExactNoteText_holds
end Go.Proofs.Ytnbmifoebaoemaa
