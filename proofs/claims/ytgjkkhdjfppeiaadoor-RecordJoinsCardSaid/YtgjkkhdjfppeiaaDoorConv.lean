/-
  []byte(s) told as a call: the bytes, in a row that is only read.
-/
import Derived.Test.YtgjkkhdjfppeiaaDoorWWords
import Derived.Test.YtgjkkhdjfppeiaaDoorWRest
namespace Go.Proofs.YtgjkkhdjfppeiaaDoor.Print
open Go.RowKit Go.Proofs.YtgjkkhdjfppeiaaDoorW.PrintWords Go.Proofs.YtgjkkhdjfppeiaaDoorW.PrintLast Go.Proofs.YtgjkkhdjfppeiaaDoorW.PrintMore
def str_bytes.f (s : ByteArray) : Option (List Int) := if s.size ≤ 140737488351232 then some (bytesOf s) else none
theorem conv_event {P : Program} {ops : Array Oper} {rest : List Oper} {o : Oper} {a : Act} {Q : Exit → Act → World → Prop} {W : World} (e : TypeId) (hgd : o.guard = none) (src dst : TypeId) (x : Operand) (ho : o.op = .convert src dst x) {s : ByteArray} (hx : a.eval x = .string s)
    {u : TypeDesc} (hs : P.underlying src = some u) (hd : P.underlying dst = some (.slice e)) (he : P.underlying e = some (.int .u8)) {r : List Int} (hf : str_bytes.f s = some r)
    (h : ∀ v w', (Kd.V (Kd.int .u8) e w' W.heap.size (fun k_ => W.heap.size ≤ k_) v r ∧ Below W.heap.size W w') → wpList P ops Q rest (a.put o.dst v) w') : wpList P ops Q (o :: rest) a W := by
  unfold str_bytes.f at hf
  split at hf
  · rename_i hz
    cases hf
    have hl := bytesOf_length s
    have hk := bytes_reads W e s (by omega)
    have hc : s.size ≤ grownCap W s.size 0 e := grownCap_ge _ _ _ _
    refine Kd.event_run hgd (v := .slice (some ⟨W.heap.size, 0, none⟩) s.size (grownCap W s.size 0 e)) (w1 := Lib.bytesWorld W e s) (by simp [execOp, ho, hx, print_bytes src dst e hs hd he s W, Result.andThen]) (h _ _ ⟨⟨some ⟨W.heap.size, 0, none⟩, grownCap W s.size 0 e, by rw [hl], by rw [hl]; exact hc, fun W' hW => ?_⟩, bytes_below (Below.refl W.heap.size W) (Nat.le_refl _) e s⟩)
    rw [hl]
    have hb : W'.heap[W.heap.size]? = (Lib.bytesWorld W e s).heap[W.heap.size]? := hW _ (Nat.le_refl _) (by rw [Lib.bytesWorld_size]; omega)
    refine Kd.C_of_reads (enc := Value.int .u8) (d := (0 : Int)) (h1 := fun _ => rfl) ⟨hk.1, hk.2.1, fun hn => ?_⟩
    obtain ⟨ad, he2, hcell⟩ := hk.2.2 hn
    cases he2
    refine ⟨_, rfl, fun j hj => ?_⟩
    have h3 := hcell j hj
    rw [add_plain] at h3 ⊢
    unfold World.cell? at h3 ⊢
    dsimp only at h3 ⊢
    rw [hb]
    exact h3
  · cases hf
end Go.Proofs.YtgjkkhdjfppeiaaDoor.Print
