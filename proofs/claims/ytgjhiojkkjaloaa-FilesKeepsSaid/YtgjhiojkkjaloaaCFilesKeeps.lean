/- The law FilesKeeps returns true at every input, and its arguments read as they did: what is handed in, and what is told, may be written over behind the call. No condition. -/
import Derived.Test.YtgjhiojkkjaloaaLFilesKeeps
import Derived.Test.YtgjhiojkkjaloaaRg
namespace Go.Proofs.Ytgjhiojkkjaloaa
theorem filesKeeps_holds : Rows.FilesKeepsSaid := filesKeeps.said P.FilesKeeps
#print axioms filesKeeps_holds
end Go.Proofs.Ytgjhiojkkjaloaa
