/- The law FilesArms returns true at every input, and its arguments read as they did: the power goes off in the n-th operation from then on, an Append is done then, other ones are not. No condition. -/
import Derived.Test.YtgjhiojkkjaloaaLFilesArms
import Derived.Test.YtgjhiojkkjaloaaRh
namespace Go.Proofs.Ytgjhiojkkjaloaa
theorem filesArms_holds : Rows.FilesArmsSaid := filesArms.said P.FilesArms
#print axioms filesArms_holds
end Go.Proofs.Ytgjhiojkkjaloaa
