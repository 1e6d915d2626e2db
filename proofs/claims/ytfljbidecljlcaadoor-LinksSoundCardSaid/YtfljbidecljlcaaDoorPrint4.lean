-- PRINTED by wip/hprint.py, this project's driver over the kit's print (hand contracts beside it). Not trusted: Lean checks it.
import Derived.Test.YtfljbidecljlcaaDoorPrint0
namespace Go.Proofs.YtfljbidecljlcaaDoor.Print
open Go.RowKit Go.Proofs.YtfljbidecljlcaaDoorW.PrintWords Go.Proofs.YtfljbidecljlcaaDoorW.PrintLast Go.Proofs.YtfljbidecljlcaaDoorW.PrintMore
attribute [local go_sem] max2_int min2_int max_two min_two max_three min_three max_four min_four   -- for this text's walks alone
set_option linter.unusedVariables false
set_option linter.unusedSimpArgs false

/-! ### bindlelaw11_pair: function 39 -/
def bindlelaw11_pair.f  : Option ((List (S40))) := some (([(⟨(⟨#[97]⟩ : ByteArray), (⟨#[]⟩ : ByteArray), (⟨#[97]⟩ : ByteArray), 48, (⟨0, 0, 0, 0⟩ : S38), ([] : List Int)⟩ : S40), (⟨(⟨#[98]⟩ : ByteArray), (⟨#[]⟩ : ByteArray), (⟨#[97]⟩ : ByteArray), 48, (⟨0, 0, 0, 0⟩ : S38), ([] : List Int)⟩ : S40)] : List (S40)))
set_option maxHeartbeats 8000000 in
set_option maxRecDepth 100000 in
theorem bindlelaw11_pair.calls  (r : List (S40)) (w : World) (h : bindlelaw11_pair.f  = some r) :
    Calls Tryd.prog 39 #[] w fun e w' => ∃ v0_ : Value, e = .returned (v0_) ∧ Kd.S k40 40 w' w.heap.size (fun _ => True) v0_ r ∧ Below w.heap.size w w' := by
  have hu40 := Tryd.underlying40
  have HB := Aside0.mk (Below.refl w.heap.size w)
  have H : (some (([(⟨(⟨#[97]⟩ : ByteArray), (⟨#[]⟩ : ByteArray), (⟨#[97]⟩ : ByteArray), 48, (⟨0, 0, 0, 0⟩ : S38), ([] : List Int)⟩ : S40), (⟨(⟨#[98]⟩ : ByteArray), (⟨#[]⟩ : ByteArray), (⟨#[97]⟩ : ByteArray), 48, (⟨0, 0, 0, 0⟩ : S38), ([] : List Int)⟩ : S40)] : List (S40)))) = some r := h
  clear h
  obtain ⟨y103, hy103⟩ : ∃ y_ : List (S40), y_ = (([(⟨(⟨#[97]⟩ : ByteArray), (⟨#[]⟩ : ByteArray), (⟨#[97]⟩ : ByteArray), 48, (⟨0, 0, 0, 0⟩ : S38), ([] : List Int)⟩ : S40), (⟨(⟨#[98]⟩ : ByteArray), (⟨#[]⟩ : ByteArray), (⟨#[97]⟩ : ByteArray), 48, (⟨0, 0, 0, 0⟩ : S38), ([] : List Int)⟩ : S40)] : List (S40))) := ⟨_, rfl⟩
  replace H : (some y103) = some r := by first | (rw [hy103]; with_reducible exact H) | (have H2_ := (Option.bind_some _ _).symm.trans H; rw [hy103]; with_reducible exact H2_) | (have H2_ := (Option.bind_some _ _).symm.trans H; with_reducible exact H2_) | with_reducible exact H | (rw [hy103]; exact H) | exact H
  have Ny103 := Aside0.mk hy103
  clear hy103
  obtain rfl := Option.some.inj H
  go_enter Tryd.func39, Tryd.ntmps39
  go_wp2_with (first | ((with_reducible refine gate_dst (N := 3) rfl ?_); refine Kd.S_lit k40 _ 40 ?hg (N := 3) ?hd (xs := ([(⟨(⟨#[97]⟩ : ByteArray), (⟨#[]⟩ : ByteArray), (⟨#[97]⟩ : ByteArray), 48, (⟨0, 0, 0, 0⟩ : S38), ([] : List Int)⟩ : S40), (⟨(⟨#[98]⟩ : ByteArray), (⟨#[]⟩ : ByteArray), (⟨#[97]⟩ : ByteArray), 48, (⟨0, 0, 0, 0⟩ : S38), ([] : List Int)⟩ : S40)] : List (S40))) (inner := [.string (⟨#[97]⟩ : ByteArray), .string (⟨#[]⟩ : ByteArray), .string (⟨#[97]⟩ : ByteArray), .int .u8 48, .int .i64 0, .int .i64 0, .int .i64 0, .int .i64 0, .slice none 0 0, .string (⟨#[98]⟩ : ByteArray), .string (⟨#[]⟩ : ByteArray), .string (⟨#[97]⟩ : ByteArray), .int .u8 48, .int .i64 0, .int .i64 0, .int .i64 0, .int .i64 0, .slice none 0 0]) (ok := fun _ => True) (okp := fun _ => True) ?hr ?hp (fun _ hk => hk) trivial (Below.refl _ _) (Nat.le_refl _) (by simp) ?_; (case hd => rfl); (case hg => rfl); (case hr => first | (go_simp; done) | (go_simp; rfl)); (case hp => exact (Reps.c9 (show Kd.M k40 _ _ _ (⟨(⟨#[97]⟩ : ByteArray), (⟨#[]⟩ : ByteArray), (⟨#[97]⟩ : ByteArray), 48, (⟨0, 0, 0, 0⟩ : S38), ([] : List Int)⟩ : S40) [.string (⟨#[97]⟩ : ByteArray), .string (⟨#[]⟩ : ByteArray), .string (⟨#[97]⟩ : ByteArray), .int .u8 48, .int .i64 0, .int .i64 0, .int .i64 0, .int .i64 0, .slice none 0 0] from (k40_mkM _ _ _ (⟨(⟨#[97]⟩ : ByteArray), (⟨#[]⟩ : ByteArray), (⟨#[97]⟩ : ByteArray), 48, (⟨0, 0, 0, 0⟩ : S38), ([] : List Int)⟩ : S40) (Kd.R_nil _ _ _ _ _))) (Reps.c9 (show Kd.M k40 _ _ _ (⟨(⟨#[98]⟩ : ByteArray), (⟨#[]⟩ : ByteArray), (⟨#[97]⟩ : ByteArray), 48, (⟨0, 0, 0, 0⟩ : S38), ([] : List Int)⟩ : S40) [.string (⟨#[98]⟩ : ByteArray), .string (⟨#[]⟩ : ByteArray), .string (⟨#[97]⟩ : ByteArray), .int .u8 48, .int .i64 0, .int .i64 0, .int .i64 0, .int .i64 0, .slice none 0 0] from (k40_mkM _ _ _ (⟨(⟨#[98]⟩ : ByteArray), (⟨#[]⟩ : ByteArray), (⟨#[97]⟩ : ByteArray), 48, (⟨0, 0, 0, 0⟩ : S38), ([] : List Int)⟩ : S40) (Kd.R_nil _ _ _ _ _))) (Reps.none _ _)))); intro v104 w1 ho2 hb hg_ hnew_; clear hg_ hnew_; (first | rw [← Ny103.out] at ho2 | (simp only [Int.reduceToNat] at ho2; rw [← Ny103.out] at ho2)); have n0_ := Aside0.mk (Kd.S_lower ho2 (below_size (by repeat (first | (with_reducible first | exact HB.out | apply below_alloc | apply pw_below_drewN | apply below_drew1) | exact HB.out)))); have n1_ := Aside0.mk (below_step (by repeat (first | (with_reducible first | exact HB.out | apply below_alloc | apply pw_below_drewN | apply below_drew1) | exact HB.out)) hb); clear HB; have HO105 := n0_; have HB := n1_; clear n0_ n1_; clear hb ho2))
  go_ret
  exact ⟨_, by first | rfl | (simp [errW_none, errW_some] <;> rfl) | (simp [*, errW_none, errW_some] <;> rfl), by (with_reducible repeat (first | apply Kd.S_alloc | apply Kd.S_drewN | apply Kd.S_drew)); exact HO105.out, by repeat (first | (with_reducible first | exact HB.out | apply below_alloc | apply pw_below_drewN | apply below_drew1) | exact HB.out)⟩

end Go.Proofs.YtfljbidecljlcaaDoor.Print
