/- For every piece, the program's PieceText and the reference's PieceText return the same text. Conditions: none. -/
import Derived.Test.YtljnfcmcjhggfaaPureFnExactPieceText
namespace Go.Proofs.Ytljnfcmcjhggfaa
/-- The given statement. -/
theorem fnExactPieceText_holds : Rows.FnExactPieceTextSaid := fnExactPieceText.over Pure.FnExactPieceText
#print axioms fnExactPieceText_holds
end Go.Proofs.Ytljnfcmcjhggfaa
