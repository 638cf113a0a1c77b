/- The law EventForms returns true at every input, and its arguments read as they did: the program tells of any event whether it has the form, and of any two which stands ahead and whether they are one, as the document does. No condition. -/
import Derived.Test.YtpanacifejpjhaaLEventForms
import Derived.Test.YtpanacifejpjhaaPh
namespace Go.Proofs.Ytpanacifejpjhaa
theorem eventForms_holds : Rows.EventFormsSaid := eventForms.said P.EventForms
#print axioms eventForms_holds
end Go.Proofs.Ytpanacifejpjhaa
