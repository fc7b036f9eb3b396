/- What the program's table says of the element types. -/
import Derived.Test.YtpbfbkkalemmiaaTape
namespace Go.Proofs.Ytpbfbkkalemmiaa
theorem Try.infoS : (Try.prog.info? 28).map (fun i => (i.zero, i.size, i.bytes)) = some (some (.slice none 0 0), 1, 24) := by kernel_rfl
end Go.Proofs.Ytpbfbkkalemmiaa
