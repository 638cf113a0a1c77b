/- The law FilesNil returns true at every input, and its arguments read as they did: a nil store has nothing. No condition. -/
import Derived.Test.YtgjhiojkkjaloaaLFilesNil
import Derived.Test.YtgjhiojkkjaloaaRi
namespace Go.Proofs.Ytgjhiojkkjaloaa
theorem filesNil_holds : Rows.FilesNilSaid := filesNil.said P.FilesNil
#print axioms filesNil_holds
end Go.Proofs.Ytgjhiojkkjaloaa
