/- The law ColumnTexts returns true at every input, and its argument reads as it did: any texts are laid as the document says, and read back. -/
import Derived.Test.YthokgnonmcgkcaaZg
namespace Go.Proofs.Ythokgnonmcgkcaa
theorem columnTexts_holds : Rows.ColumnTextsSaid := columnTexts.said P.ColumnTexts
#print axioms columnTexts_holds
end Go.Proofs.Ythokgnonmcgkcaa
