/-
  A right text: UTF-8 without byte 0.
-/
import Derived.Lib.Bytealg
import Derived.Lib.ValidU
namespace Go.Proofs.YtfljbidecljlcaaDoor
/-- A right text: UTF-8 without byte 0. -/
def rightB (s : ByteArray) : Bool := Lib.validD s.data.toList && !(decide (0 ≤ Lib.indexByte s.data.toList 0))
end Go.Proofs.YtfljbidecljlcaaDoor
