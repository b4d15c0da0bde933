/- The program's own facts. -/
import Derived.Test.YtcngkdickmahhaaL4
import Derived.Test.YtcngkdickmahhaaRows
import Derived.ProofKit
namespace Go.Proofs.Ytcngkdickmahhaa
section
/- The program's own facts, once. -/

theorem progOwn : ownKnob Try.prog.godebug = none := by kernel_rfl
theorem progLaid : laidOutB Try.prog = true := by kernel_rfl
theorem progMaps : mapsRowed Try.prog = true := by kernel_rfl
theorem progSlices : ((List.range Try.prog.types.size).all fun t => match Try.prog.underlying t with | some (.slice e) => decide (0 < Try.prog.cellsOf e) | _ => true) = true := by kernel_rfl
theorem progMixed : Try.prog.follows .mixedOrders = true := by kernel_rfl
end
end Go.Proofs.Ytcngkdickmahhaa
