/-
  Short names of words of the print, for printed texts that are long.
-/
import Derived.Test.YtfljbidecljlcaaDoorWWords
import Derived.Test.YtfljbidecljlcaaDoorWRest
namespace Go.Proofs.YtfljbidecljlcaaDoor.Print
open Go.RowKit Go.Proofs.YtfljbidecljlcaaDoorW.PrintWords Go.Proofs.YtfljbidecljlcaaDoorW.PrintLast Go.Proofs.YtfljbidecljlcaaDoorW.PrintMore
theorem A0_ {p : Prop} (h : p) : Aside0 p := ⟨h⟩
theorem bA_ {w W : World} (h : Below w.heap.size w W) (o : Obj) : Below w.heap.size w (W.alloc o) := below_alloc h o
theorem bN_ {B : Nat} {w W : World} (h : Below B w W) (n : Nat) : Below B w (W.drewN n) := pw_below_drewN h n
theorem b1_ {base : Nat} {w W : World} (h : Below base w W) : Below base w W.drew := h.drew
abbrev Sa_ := @Kd.S_alloc
abbrev SN_ := @Kd.S_drewN
abbrev S1_ := @Kd.S_drew
abbrev Ra_ := @Kd.R_alloc
abbrev RN_ := @Kd.R_drewN
abbrev R1_ := @Kd.R_drew
abbrev Va_ := @Kd.V_alloc
abbrev VN_ := @Kd.V_drewN
abbrev V1_ := @Kd.V_drew
abbrev Ca_ := @Kd.C_alloc
abbrev CN_ := @Kd.C_drewN
abbrev C1_ := @Kd.C_drew
abbrev dt_ := @of_decide_eq_true
abbrev Sb_ := @Kd.S_below
abbrev Rb_ := @Kd.R_below
abbrev Vb_ := @Kd.V_below
abbrev bf_ := @blk_frozen
abbrev bc_ := @blk_cell
end Go.Proofs.YtfljbidecljlcaaDoor.Print
