/- The law FilesRising returns true at every input, and its arguments read as they did: files are listed rising by their names, each once, whatever was made, renamed and deleted. No condition. -/
import Derived.Test.YtgjhiojkkjaloaaLFilesRising
import Derived.Test.YtgjhiojkkjaloaaRl
namespace Go.Proofs.Ytgjhiojkkjaloaa
theorem filesRising_holds : Rows.FilesRisingSaid := filesRising.said P.FilesRising
#print axioms filesRising_holds
end Go.Proofs.Ytgjhiojkkjaloaa
