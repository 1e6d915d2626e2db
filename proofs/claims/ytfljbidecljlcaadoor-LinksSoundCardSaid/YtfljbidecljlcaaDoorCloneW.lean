/-
  slices.Clone of bytes, tree.Find, and links.Members' parts: contracts.
-/
import Derived.Test.YtfljbidecljlcaaDoorSoundW
import Derived.WalkSpells
namespace Go.Proofs.YtfljbidecljlcaaDoor
open Go.RowKit Go.Maps Go.Proofs.YtfljbidecljlcaaDoor.Print Go.Proofs.YtfljbidecljlcaaDoorW.PrintWords Go.Proofs.YtfljbidecljlcaaDoorW.PrintLast Go.Proofs.YtfljbidecljlcaaDoorW.PrintMore
set_option linter.unusedVariables false
set_option linter.unusedSimpArgs false
set_option maxRecDepth 100000 in
set_option maxHeartbeats 1000000 in
theorem Clone_calls (A : Option Addr) (c : Nat) (xs : List Int) (W : World) (hC : Kd.C (Kd.int .u8) W A xs.length xs) (hl : xs.length ≤ 140737488351232) :
    Calls Tryd.prog 59 #[.slice A xs.length c] W fun e W' => ∃ v, e = .returned v ∧ Kd.R (Kd.int .u8) 5 W' W.heap.size (fun _ => True) v xs ∧ Below W.heap.size W W' := by
  rcases A with _ | ad
  · have h0 : xs = [] := by
      rcases Nat.eq_zero_or_pos xs.length with h | h
      · exact List.eq_nil_of_length_eq_zero h
      · obtain ⟨ad, h1, _⟩ := hC.2.2 h
        cases h1
    subst h0
    have hcmp := fun (w : World) => Lib.run_eql_slice_nil (P := Tryd.prog) w 23 5 none 0 c 0 0 Tryd.underlying23
    go_enter Tryd.func59, Tryd.ntmps59
    go_wp2
    go_ret
    exact ⟨_, rfl, Kd.R_nil _ _ _ _ _, Below.refl _ _⟩
  · have hcmp := fun (w : World) => Lib.run_eql_slice_nil (P := Tryd.prog) w 23 5 (some ad) xs.length c 0 0 Tryd.underlying23
    have hown := own_lit W W.heap.size 5 .u8 [] (Nat.le_refl _) (by decide)
    have HC := Aside0.mk hC
    have HO := Aside0.mk hown
    clear hC hown
    go_enter Tryd.func59, Tryd.ntmps59
    go_wp2_with (at_builtin; refine Kd.R_append_row (Value.int .u8) (0 : Int) (h1 := fun _ => rfl) (w0 := W) W.heap.size rfl _ _ 23 5 (.int .u8 0) 1 rfl Tryd.underlying23 info5 rfl (by decide) (.slice (some ⟨W.heap.size, 0, none⟩) 0 0) [] xs (some ad) xs.length c (fun _ => True) rfl rfl (fun _ _ => trivial) (Kd.R_of_own (enc := Value.int .u8) (h1 := fun _ => rfl) HO.out (fun _ _ => trivial)) (Kd.C_alloc HC.out _) ((Below.refl _ _).alloc (Nat.le_refl _) _) (by simp) (by simp; omega) ?_; intro v1 w1 hr1 hb1 hg1 hat1)
    go_ret
    exact ⟨_, rfl, hr1, hb1⟩
end Go.Proofs.YtfljbidecljlcaaDoor
