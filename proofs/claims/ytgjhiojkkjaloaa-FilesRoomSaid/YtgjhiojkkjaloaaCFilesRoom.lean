/- The law FilesRoom returns true at every input, and its arguments read as they did: as many bytes as there is room for are taken, by whichever files, and no more, and what is deleted makes room. No condition. -/
import Derived.Test.YtgjhiojkkjaloaaLFilesRoom
import Derived.Test.YtgjhiojkkjaloaaRk
namespace Go.Proofs.Ytgjhiojkkjaloaa
theorem filesRoom_holds : Rows.FilesRoomSaid := filesRoom.said P.FilesRoom
#print axioms filesRoom_holds
end Go.Proofs.Ytgjhiojkkjaloaa
