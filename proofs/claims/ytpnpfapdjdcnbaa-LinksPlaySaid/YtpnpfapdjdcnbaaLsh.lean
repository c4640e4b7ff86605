/- Contracts of the library at this program, laid. -/
import Derived.Shelf.SlMaps.Clone
import Derived.Test.YtpnpfapdjdcnbaaChecked
namespace Go.Proofs
open Go.Shelf
def Try.cloneP_ren : Go.Shelf.Ren := ⟨fun | 5 => 58 | 7 => 63 | n => n, fun | 23 => 81 | 25 => 86 | 3 => 3 | 4 => 4 | 20 => 20 | n => n, fun | n => n⟩
theorem Try.cloneP : Go.Proofs.SlLaysW.n5 Try.prog Try.cloneP_ren := {
  mixed := by kernel_rfl
  f5 := ⟨Try.f58.name, by decide, Try.func58.trans (congrArg some (by kernel_rfl))⟩
  f7 := Try.func63.trans (congrArg some (by kernel_rfl))
  t4 := Try.underlying4
  a4 := Try.isAgg4
  z4 := Try.sizeOf4
  v4 := Try.zeroValue4
  t20 := Try.underlying20
  a20 := Try.isAgg20
  z20 := Try.sizeOf20
  v20 := Try.zeroValue20
  t23 := Try.underlying81
  a23 := Try.isAgg81
  z23 := Try.sizeOf81
  v23 := Try.zeroValue81 }
end Go.Proofs
