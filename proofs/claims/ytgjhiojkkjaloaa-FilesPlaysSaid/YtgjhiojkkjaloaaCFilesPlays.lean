/- The law FilesPlays returns true at every input, and its arguments read as they did: any calls, and falls, come to each answer, all files, and what is told of them, as the document says. No condition. -/
import Derived.Test.YtgjhiojkkjaloaaLFilesPlays
import Derived.Test.YtgjhiojkkjaloaaRq
namespace Go.Proofs.Ytgjhiojkkjaloaa
theorem filesPlays_holds : Rows.FilesPlaysSaid := filesPlays.said P.FilesPlays
#print axioms filesPlays_holds
end Go.Proofs.Ytgjhiojkkjaloaa
