/- What the program's table says of the element types. -/
import Derived.Test.YtcpanmonllhmaaaDoorTape
set_option linter.unusedSimpArgs false
set_option linter.unusedVariables false
namespace Go.Proofs.YtcpanmonllhmaaaDoor
theorem Tryd.infoS : (Tryd.prog.info? 22).map (fun i => (i.zero, i.size, i.bytes)) = some (some (.slice none 0 0), 1, 24) := by kernel_rfl
end Go.Proofs.YtcpanmonllhmaaaDoor
