-- PRINTED by wip/hprint.py, this project's driver over the kit's print (hand contracts beside it). Not trusted: Lean checks it.
import Derived.Test.YtgjkkhdjfppeiaaDoorPrint0
import Derived.Test.YtgjkkhdjfppeiaaDoorPrint29
import Derived.Test.YtgjkkhdjfppeiaaDoorHandRec
namespace Go.Proofs.YtgjkkhdjfppeiaaDoor.Print
open Go.RowKit Go.Proofs.YtgjkkhdjfppeiaaDoorW.PrintWords Go.Proofs.YtgjkkhdjfppeiaaDoorW.PrintLast Go.Proofs.YtgjkkhdjfppeiaaDoorW.PrintMore
attribute [local go_sem] max2_int min2_int max_two min_two max_three min_three max_four min_four   -- for this text's walks alone
set_option linter.unusedVariables false
set_option linter.unusedSimpArgs false

/-! ### record_Line: function 24 -/
def record_Line.l0 : Nat → ByteArray → Int → Option (ByteArray × Bool)
  | 0, _, _ => none
  | k + 1, x4, x5 => (strconv_Itoa.f x5).bind fun t195 => (if (wrap64 ((t195.size : Int) + (x4.size : Int))) > x5 then (record_Line.l0 k x4 (wrap64 (x5 + 1))) else ((strconv_Itoa.f x5).bind fun t196 => (if t196.size + x4.size ≤ 9223372036854775807 then (some (t196 ++ x4, true)) else (none))))
def record_Line.f (k : Nat) (a0_0 : ByteArray) (a0_1 : ByteArray) : Option (ByteArray × Bool) := (record_may.f a0_0 a0_1).bind fun t194 => (if t194 = true then (if 1 + a0_0.size ≤ 9223372036854775807 then (if ((⟨#[32]⟩ : ByteArray) ++ a0_0).size + 1 ≤ 9223372036854775807 then (if (((⟨#[32]⟩ : ByteArray) ++ a0_0) ++ (⟨#[61]⟩ : ByteArray)).size + a0_1.size ≤ 9223372036854775807 then (if ((((⟨#[32]⟩ : ByteArray) ++ a0_0) ++ (⟨#[61]⟩ : ByteArray)) ++ a0_1).size + 1 ≤ 9223372036854775807 then (record_Line.l0 k (((((⟨#[32]⟩ : ByteArray) ++ a0_0) ++ (⟨#[61]⟩ : ByteArray)) ++ a0_1) ++ (⟨#[10]⟩ : ByteArray)) ((((((⟨#[32]⟩ : ByteArray) ++ a0_0) ++ (⟨#[61]⟩ : ByteArray)) ++ a0_1) ++ (⟨#[10]⟩ : ByteArray)).size : Int)) else (none)) else (none)) else (none)) else (none)) else (some ((⟨#[]⟩ : ByteArray), false)))
theorem record_Line.mono_l : ∀ k, (∀ y0 y1, LeO (record_Line.l0 k y0 y1) (record_Line.l0 (k + 1) y0 y1))
  | 0 => fun _ _ r h => by simp [record_Line.l0] at h
  | k + 1 => by
    have ih0 := record_Line.mono_l k
    · intro y0 y1
      unfold record_Line.l0
      repeat' first
      | (with_reducible exact ih0 _ _)
      | (with_reducible exact LeO.refl _)
      | (with_reducible exact LeO.none _)
      | (with_reducible refine LeO.ite ?_ ?_)
      | (with_reducible refine LeO.bind ?_ (fun _ => ?_))
      | exact ih0 _ _
      | exact LeO.none _
      | refine LeO.ite ?_ ?_
      | refine LeO.bind ?_ (fun _ => ?_)
theorem record_Line.mono : ∀ a0 a1 k, LeO (record_Line.f k a0 a1) (record_Line.f (k + 1) a0 a1) := by
  intro a0 a1 k
  have ih0 := record_Line.mono_l k
  unfold record_Line.f
  repeat' first
      | (with_reducible exact ih0 _ _)
      | (with_reducible exact LeO.refl _)
      | (with_reducible exact LeO.none _)
      | (with_reducible refine LeO.ite ?_ ?_)
      | (with_reducible refine LeO.bind ?_ (fun _ => ?_))
      | exact ih0 _ _
      | exact LeO.none _
      | refine LeO.ite ?_ ?_
      | refine LeO.bind ?_ (fun _ => ?_)
set_option maxHeartbeats 8000000 in
set_option maxRecDepth 100000 in
theorem record_Line.calls (k : Nat) (a0_0 : ByteArray) (a0_1 : ByteArray) (r1 : ByteArray) (r2 : Bool) (w : World) (hT : Aside0 (Tabs w)) (h : record_Line.f k a0_0 a0_1 = some (r1, r2)) :
    Calls Tryd.prog 24 #[.agg #[.string a0_0, .string a0_1]] w fun e w' => e = .returned (.tuple #[.string r1, .bool r2]) ∧ Below w.heap.size w w' := by
  have hu42 := Tryd.underlying42
  have HB := Aside0.mk (Below.refl w.heap.size w)
  have H : ((record_may.f a0_0 a0_1).bind fun t194 => (if t194 = true then (if 1 + a0_0.size ≤ 9223372036854775807 then (if ((⟨#[32]⟩ : ByteArray) ++ a0_0).size + 1 ≤ 9223372036854775807 then (if (((⟨#[32]⟩ : ByteArray) ++ a0_0) ++ (⟨#[61]⟩ : ByteArray)).size + a0_1.size ≤ 9223372036854775807 then (if ((((⟨#[32]⟩ : ByteArray) ++ a0_0) ++ (⟨#[61]⟩ : ByteArray)) ++ a0_1).size + 1 ≤ 9223372036854775807 then (record_Line.l0 k (((((⟨#[32]⟩ : ByteArray) ++ a0_0) ++ (⟨#[61]⟩ : ByteArray)) ++ a0_1) ++ (⟨#[10]⟩ : ByteArray)) ((((((⟨#[32]⟩ : ByteArray) ++ a0_0) ++ (⟨#[61]⟩ : ByteArray)) ++ a0_1) ++ (⟨#[10]⟩ : ByteArray)).size : Int)) else (none)) else (none)) else (none)) else (none)) else (some ((⟨#[]⟩ : ByteArray), false)))) = some (r1, r2) := h
  clear h
  replace H := Option.bind_eq_some_iff.mp H
  obtain ⟨t194, A20, H⟩ := H
  replace H : (if t194 = true then (if 1 + a0_0.size ≤ 9223372036854775807 then (if ((⟨#[32]⟩ : ByteArray) ++ a0_0).size + 1 ≤ 9223372036854775807 then (if (((⟨#[32]⟩ : ByteArray) ++ a0_0) ++ (⟨#[61]⟩ : ByteArray)).size + a0_1.size ≤ 9223372036854775807 then (if ((((⟨#[32]⟩ : ByteArray) ++ a0_0) ++ (⟨#[61]⟩ : ByteArray)) ++ a0_1).size + 1 ≤ 9223372036854775807 then (record_Line.l0 k (((((⟨#[32]⟩ : ByteArray) ++ a0_0) ++ (⟨#[61]⟩ : ByteArray)) ++ a0_1) ++ (⟨#[10]⟩ : ByteArray)) ((((((⟨#[32]⟩ : ByteArray) ++ a0_0) ++ (⟨#[61]⟩ : ByteArray)) ++ a0_1) ++ (⟨#[10]⟩ : ByteArray)).size : Int)) else (none)) else (none)) else (none)) else (none)) else (some ((⟨#[]⟩ : ByteArray), false))) = some (r1, r2) := H
  have A2 := Aside0.mk A20
  clear A20
  by_cases c3 : t194 = true
  · subst c3
    have H1 : (if 1 + a0_0.size ≤ 9223372036854775807 then (if ((⟨#[32]⟩ : ByteArray) ++ a0_0).size + 1 ≤ 9223372036854775807 then (if (((⟨#[32]⟩ : ByteArray) ++ a0_0) ++ (⟨#[61]⟩ : ByteArray)).size + a0_1.size ≤ 9223372036854775807 then (if ((((⟨#[32]⟩ : ByteArray) ++ a0_0) ++ (⟨#[61]⟩ : ByteArray)) ++ a0_1).size + 1 ≤ 9223372036854775807 then (record_Line.l0 k (((((⟨#[32]⟩ : ByteArray) ++ a0_0) ++ (⟨#[61]⟩ : ByteArray)) ++ a0_1) ++ (⟨#[10]⟩ : ByteArray)) ((((((⟨#[32]⟩ : ByteArray) ++ a0_0) ++ (⟨#[61]⟩ : ByteArray)) ++ a0_1) ++ (⟨#[10]⟩ : ByteArray)).size : Int)) else (none)) else (none)) else (none)) else (none)) = some (r1, r2) := by rw [if_pos rfl] at H; exact H
    clear H
    have H := H1
    clear H1
    by_cases c4 : 1 + a0_0.size ≤ 9223372036854775807
    · rw [if_pos c4] at H
      have c4b0 := eq_true c4
      have c4b1 : decide (1 + a0_0.size ≤ 9223372036854775807) = true := decide_eq_true c4
      try have c4b2 : (9223372036854775807 < 1 + a0_0.size) = False := eq_false (Nat.not_lt.2 c4)
      by_cases c5 : ((⟨#[32]⟩ : ByteArray) ++ a0_0).size + 1 ≤ 9223372036854775807
      · rw [if_pos c5] at H
        have c5b0 := eq_true c5
        have c5b1 : decide (((⟨#[32]⟩ : ByteArray) ++ a0_0).size + 1 ≤ 9223372036854775807) = true := decide_eq_true c5
        try (have c5b1s := c5b1; simp only [ByteArray.size_append, Int.natCast_add, show (((⟨#[32]⟩ : ByteArray).size : Nat) : Int) = 1 from rfl] at c5b1s)
        try have c5b2 : (9223372036854775807 < ((⟨#[32]⟩ : ByteArray) ++ a0_0).size + 1) = False := eq_false (Nat.not_lt.2 c5)
        try (have c5b2s := c5b2; simp only [ByteArray.size_append, Int.natCast_add, show (((⟨#[32]⟩ : ByteArray).size : Nat) : Int) = 1 from rfl] at c5b2s)
        try have c5b9 : (9223372036854775807 < 1 + a0_0.size + 1) = False := eq_false (Nat.not_lt.2 (by have h_ := c5; simp only [ByteArray.size_append] at h_; exact h_))
        by_cases c6 : (((⟨#[32]⟩ : ByteArray) ++ a0_0) ++ (⟨#[61]⟩ : ByteArray)).size + a0_1.size ≤ 9223372036854775807
        · rw [if_pos c6] at H
          have c6b0 := eq_true c6
          have c6b1 : decide ((((⟨#[32]⟩ : ByteArray) ++ a0_0) ++ (⟨#[61]⟩ : ByteArray)).size + a0_1.size ≤ 9223372036854775807) = true := decide_eq_true c6
          try (have c6b1s := c6b1; simp only [ByteArray.size_append, Int.natCast_add, show (((⟨#[32]⟩ : ByteArray).size : Nat) : Int) = 1 from rfl, show (((⟨#[61]⟩ : ByteArray).size : Nat) : Int) = 1 from rfl] at c6b1s)
          try have c6b2 : (9223372036854775807 < (((⟨#[32]⟩ : ByteArray) ++ a0_0) ++ (⟨#[61]⟩ : ByteArray)).size + a0_1.size) = False := eq_false (Nat.not_lt.2 c6)
          try (have c6b2s := c6b2; simp only [ByteArray.size_append, Int.natCast_add, show (((⟨#[32]⟩ : ByteArray).size : Nat) : Int) = 1 from rfl, show (((⟨#[61]⟩ : ByteArray).size : Nat) : Int) = 1 from rfl] at c6b2s)
          try have c6b9 : (9223372036854775807 < 1 + a0_0.size + 1 + a0_1.size) = False := eq_false (Nat.not_lt.2 (by have h_ := c6; simp only [ByteArray.size_append] at h_; exact h_))
          by_cases c7 : ((((⟨#[32]⟩ : ByteArray) ++ a0_0) ++ (⟨#[61]⟩ : ByteArray)) ++ a0_1).size + 1 ≤ 9223372036854775807
          · rw [if_pos c7] at H
            have c7b0 := eq_true c7
            have c7b1 : decide (((((⟨#[32]⟩ : ByteArray) ++ a0_0) ++ (⟨#[61]⟩ : ByteArray)) ++ a0_1).size + 1 ≤ 9223372036854775807) = true := decide_eq_true c7
            try (have c7b1s := c7b1; simp only [ByteArray.size_append, Int.natCast_add, show (((⟨#[32]⟩ : ByteArray).size : Nat) : Int) = 1 from rfl, show (((⟨#[61]⟩ : ByteArray).size : Nat) : Int) = 1 from rfl] at c7b1s)
            try have c7b2 : (9223372036854775807 < ((((⟨#[32]⟩ : ByteArray) ++ a0_0) ++ (⟨#[61]⟩ : ByteArray)) ++ a0_1).size + 1) = False := eq_false (Nat.not_lt.2 c7)
            try (have c7b2s := c7b2; simp only [ByteArray.size_append, Int.natCast_add, show (((⟨#[32]⟩ : ByteArray).size : Nat) : Int) = 1 from rfl, show (((⟨#[61]⟩ : ByteArray).size : Nat) : Int) = 1 from rfl] at c7b2s)
            try have c7b9 : (9223372036854775807 < 1 + a0_0.size + 1 + a0_1.size + 1) = False := eq_false (Nat.not_lt.2 (by have h_ := c7; simp only [ByteArray.size_append] at h_; exact h_))
            have H' := Aside0.mk H
            clear H
            go_enter Tryd.func24, Tryd.ntmps24
            go_wp2_with (first | ((with_reducible refine gate_dst (N := 1) rfl ?_); refine box_event ?hg (N := 1) ?hd (cs := #[.string a0_0, .string a0_1]) (t := 42) ?hr ?_; (case hd => rfl); (case hg => rfl); (case hr => first | (go_simp; done) | (go_simp; rfl)); intro gb193 hg w8 hbox hb; have n0_ := Aside0.mk (below_step (by repeat (first | (with_reducible first | exact HB.out | apply below_alloc | apply pw_below_drewN | apply below_drew1) | exact HB.out)) hb); have n1_ := Aside0.mk (hbox); have n2_ := Aside0.mk ((by rw [hg]; exact (below_size (by repeat (first | (with_reducible first | exact HB.out | apply below_alloc | apply pw_below_drewN | apply below_drew1) | exact HB.out))) : w.heap.size ≤ gb193)); have n3_ := Aside0.mk ((by rw [hg]; exact (below_size (by repeat (first | (with_reducible first | exact HB.out | apply below_alloc | apply pw_below_drewN | apply below_drew1) | exact HB.out))) : w.heap.size ≤ gb193)); clear HB; have HB := n0_; have BK193 := n1_; have GW193 := n2_; have GE193 := n3_; clear n0_ n1_ n2_ n3_; clear hb hbox hg; have hcz9_0 : w8.cell? ⟨gb193, 0, none⟩ = some (.string a0_0) := (blk_cell BK193.out 0).trans rfl; have hcz9_1 : w8.cell? ⟨gb193, 1, none⟩ = some (.string a0_1) := (blk_cell BK193.out 1).trans rfl; have hfz9_0 := blk_frozen BK193.out 0; have hfz9_1 := blk_frozen BK193.out 1) | ((with_reducible refine gate_callee (f := 36) rfl ?_); refine goesL_ (some 7) rfl rfl Tryd.func36 (by kernel_rfl) rfl #[.agg #[.string a0_0, .string a0_1]] rfl (by (try simp only [List.map_toArray, List.map_cons, List.map_nil]); first | done | rfl | (simp only [List.length_drop, List.length_take]; rfl)) ?_; (with_reducible refine (record_may.calls a0_0 a0_1 true _ ?side1 A2.out).mono ?_); (case side1 => exact Aside0.mk (Tabs.below hT.out (by repeat (first | (with_reducible first | exact HB.out | apply below_alloc | apply pw_below_drewN | apply below_drew1 | refine below_set ?_ GE193.out) | exact HB.out)))); rintro e w10 ⟨rfl, hb⟩; refine ⟨_, rfl, ?_⟩; have n0_ := Aside0.mk (blk_below (g := gb193) (o := .cells #[.string a0_0, .string a0_1] 42 (0, 0)) (by (with_reducible repeat (first | refine blk_drewN ?_ _ | refine blk_drew ?_ | refine blk_alloc ?_ _)); exact BK193.out) hb); have n1_ := Aside0.mk (below_step (by repeat (first | (with_reducible first | exact HB.out | apply below_alloc | apply pw_below_drewN | apply below_drew1 | refine below_set ?_ GE193.out) | exact HB.out)) hb); clear BK193; clear HB; have BK193 := n0_; have HB := n1_; clear n0_ n1_; (try clear hb); (try clear hb2); (try clear hk); (try clear hi); have hcz11_0 : w10.cell? ⟨gb193, 0, none⟩ = some (.string a0_0) := (blk_cell BK193.out 0).trans rfl; have hcz11_1 : w10.cell? ⟨gb193, 1, none⟩ = some (.string a0_1) := (blk_cell BK193.out 1).trans rfl; have hfz11_0 := blk_frozen BK193.out 0; have hfz11_1 := blk_frozen BK193.out 1))
            go_loopg [5] k (fun kq v5 w' => ∃ (x5_1 : Int), v5 = .int .i64 x5_1 ∧ Aside0 (record_Line.l0 kq (((((⟨#[32]⟩ : ByteArray) ++ a0_0) ++ (⟨#[61]⟩ : ByteArray)) ++ a0_1) ++ (⟨#[10]⟩ : ByteArray)) x5_1 = some (r1, r2)) ∧ Aside0 (kq ≤ k) ∧ Aside0 (w'.heap[gb193]? = some (.cells #[.string a0_0, .string a0_1] 42 (0, 0))) ∧ Aside0 (Below w.heap.size w w'))
            case atStart => exact ⟨(((((((⟨#[32]⟩ : ByteArray) ++ a0_0) ++ (⟨#[61]⟩ : ByteArray)) ++ a0_1) ++ (⟨#[10]⟩ : ByteArray)).size : Int)), (by first | rfl | (simp; done) | (simp [*]; done) | (simp only [ByteArray.size_append, Int.natCast_add]; rfl)), H', ⟨Nat.le_refl _⟩, ⟨by (with_reducible repeat (first | refine blk_drewN ?_ _ | refine blk_drew ?_ | refine blk_alloc ?_ _)); exact BK193.out⟩, ⟨by repeat (first | (with_reducible first | exact HB.out | apply below_alloc | apply pw_below_drewN | apply below_drew1 | refine below_set ?_ GE193.out) | exact HB.out)⟩⟩
            case round =>
              clear H'
              try clear c2
              try clear p2
              try clear c3
              try clear c4
              try clear c4b0
              try clear c4b1
              try clear c4b2
              try clear c5
              try clear c5b0
              try clear c5b1
              try clear c5b2
              try clear c6
              try clear c6b0
              try clear c6b1
              try clear c6b2
              try clear c7
              try clear c7b0
              try clear c7b1
              try clear c7b2
              try clear hcz11_0
              try clear hcz11_1
              try clear hcz9_0
              try clear hcz9_1
              try clear hfz11_0
              try clear hfz11_1
              try clear hfz9_0
              try clear hfz9_1
              obtain ⟨x5_1, rfl, HA, HK1, BK193, HB⟩ := hrel
              cases gk with
              | zero => exact absurd HA.out (by simp [record_Line.l0])
              | succ k1 =>
                have H := HA.out
                clear HA
                simp only [record_Line.l0] at H
                replace H := Option.bind_eq_some_iff.mp H
                obtain ⟨t195, A120, H⟩ := H
                replace H : (if (wrap64 ((t195.size : Int) + ((((((⟨#[32]⟩ : ByteArray) ++ a0_0) ++ (⟨#[61]⟩ : ByteArray)) ++ a0_1) ++ (⟨#[10]⟩ : ByteArray)).size : Int))) > x5_1 then (record_Line.l0 k1 (((((⟨#[32]⟩ : ByteArray) ++ a0_0) ++ (⟨#[61]⟩ : ByteArray)) ++ a0_1) ++ (⟨#[10]⟩ : ByteArray)) (wrap64 (x5_1 + 1))) else ((strconv_Itoa.f x5_1).bind fun t196 => (if t196.size + (((((⟨#[32]⟩ : ByteArray) ++ a0_0) ++ (⟨#[61]⟩ : ByteArray)) ++ a0_1) ++ (⟨#[10]⟩ : ByteArray)).size ≤ 9223372036854775807 then (some (t196 ++ (((((⟨#[32]⟩ : ByteArray) ++ a0_0) ++ (⟨#[61]⟩ : ByteArray)) ++ a0_1) ++ (⟨#[10]⟩ : ByteArray)), true)) else (none)))) = some (r1, r2) := H
                have A12 := Aside0.mk A120
                clear A120
                by_cases c13 : (wrap64 ((t195.size : Int) + ((((((⟨#[32]⟩ : ByteArray) ++ a0_0) ++ (⟨#[61]⟩ : ByteArray)) ++ a0_1) ++ (⟨#[10]⟩ : ByteArray)).size : Int))) > x5_1
                · rw [if_pos c13] at H
                  have c13b0 : decide (x5_1 < (wrap64 ((t195.size : Int) + ((((((⟨#[32]⟩ : ByteArray) ++ a0_0) ++ (⟨#[61]⟩ : ByteArray)) ++ a0_1) ++ (⟨#[10]⟩ : ByteArray)).size : Int)))) = true := decide_eq_true c13
                  try (have c13b0s := c13b0; simp only [ByteArray.size_append, Int.natCast_add, show (((⟨#[10]⟩ : ByteArray).size : Nat) : Int) = 1 from rfl, show (((⟨#[32]⟩ : ByteArray).size : Nat) : Int) = 1 from rfl, show (((⟨#[61]⟩ : ByteArray).size : Nat) : Int) = 1 from rfl] at c13b0s)
                  clear c13
                  have H' := Aside0.mk H
                  clear H
                  go_wp2_with (first | ((with_reducible refine gate_callee (f := 37) rfl ?_); refine goesL_ (some 20) rfl rfl Tryd.func37 (by kernel_rfl) rfl #[.int .i64 x5_1] rfl (by (try simp only [List.map_toArray, List.map_cons, List.map_nil]); first | done | rfl | (simp only [List.length_drop, List.length_take]; rfl)) ?_; (with_reducible refine (strconv_Itoa.calls x5_1 t195 _ ?side1 A12.out).mono ?_); (case side1 => exact Aside0.mk (Tabs.below hT.out (by repeat (first | (with_reducible first | exact HB.out | apply below_alloc | apply pw_below_drewN | apply below_drew1 | refine below_set ?_ GE193.out) | exact HB.out)))); rintro e w14 ⟨rfl, hb⟩; refine ⟨_, rfl, ?_⟩; have n0_ := Aside0.mk (blk_below (g := gb193) (o := .cells #[.string a0_0, .string a0_1] 42 (0, 0)) (by (with_reducible repeat (first | refine blk_drewN ?_ _ | refine blk_drew ?_ | refine blk_alloc ?_ _)); exact BK193.out) hb); have n1_ := Aside0.mk (below_step (by repeat (first | (with_reducible first | exact HB.out | apply below_alloc | apply pw_below_drewN | apply below_drew1 | refine below_set ?_ GE193.out) | exact HB.out)) hb); clear BK193; clear HB; have BK193 := n0_; have HB := n1_; clear n0_ n1_; (try clear hb); (try clear hb2); (try clear hk); (try clear hi)))
                  go_roundg k1
                  case measure => have := HK1.out; omega
                  case rel => exact ⟨(wrap64 (x5_1 + 1)), (by first | rfl | (simp; done) | (simp [*]; done)), H', ⟨by have := HK1.out; omega⟩, ⟨by (with_reducible repeat (first | refine blk_drewN ?_ _ | refine blk_drew ?_ | refine blk_alloc ?_ _)); exact BK193.out⟩, ⟨by repeat (first | (with_reducible first | exact HB.out | apply below_alloc | apply pw_below_drewN | apply below_drew1 | refine below_set ?_ GE193.out) | exact HB.out)⟩⟩
                · rw [if_neg c13] at H
                  have c13b0 : decide (x5_1 < (wrap64 ((t195.size : Int) + ((((((⟨#[32]⟩ : ByteArray) ++ a0_0) ++ (⟨#[61]⟩ : ByteArray)) ++ a0_1) ++ (⟨#[10]⟩ : ByteArray)).size : Int)))) = false := decide_eq_false c13
                  try (have c13b0s := c13b0; simp only [ByteArray.size_append, Int.natCast_add, show (((⟨#[10]⟩ : ByteArray).size : Nat) : Int) = 1 from rfl, show (((⟨#[32]⟩ : ByteArray).size : Nat) : Int) = 1 from rfl, show (((⟨#[61]⟩ : ByteArray).size : Nat) : Int) = 1 from rfl] at c13b0s)
                  clear c13
                  replace H := Option.bind_eq_some_iff.mp H
                  obtain ⟨t196, A150, H⟩ := H
                  replace H : (if t196.size + (((((⟨#[32]⟩ : ByteArray) ++ a0_0) ++ (⟨#[61]⟩ : ByteArray)) ++ a0_1) ++ (⟨#[10]⟩ : ByteArray)).size ≤ 9223372036854775807 then (some (t196 ++ (((((⟨#[32]⟩ : ByteArray) ++ a0_0) ++ (⟨#[61]⟩ : ByteArray)) ++ a0_1) ++ (⟨#[10]⟩ : ByteArray)), true)) else (none)) = some (r1, r2) := H
                  have A15 := Aside0.mk A150
                  clear A150
                  by_cases c16 : t196.size + (((((⟨#[32]⟩ : ByteArray) ++ a0_0) ++ (⟨#[61]⟩ : ByteArray)) ++ a0_1) ++ (⟨#[10]⟩ : ByteArray)).size ≤ 9223372036854775807
                  · rw [if_pos c16] at H
                    have c16b0 := eq_true c16
                    have c16b1 : decide (t196.size + (((((⟨#[32]⟩ : ByteArray) ++ a0_0) ++ (⟨#[61]⟩ : ByteArray)) ++ a0_1) ++ (⟨#[10]⟩ : ByteArray)).size ≤ 9223372036854775807) = true := decide_eq_true c16
                    try (have c16b1s := c16b1; simp only [ByteArray.size_append, Int.natCast_add, show (((⟨#[10]⟩ : ByteArray).size : Nat) : Int) = 1 from rfl, show (((⟨#[32]⟩ : ByteArray).size : Nat) : Int) = 1 from rfl, show (((⟨#[61]⟩ : ByteArray).size : Nat) : Int) = 1 from rfl] at c16b1s)
                    try have c16b2 : (9223372036854775807 < t196.size + (((((⟨#[32]⟩ : ByteArray) ++ a0_0) ++ (⟨#[61]⟩ : ByteArray)) ++ a0_1) ++ (⟨#[10]⟩ : ByteArray)).size) = False := eq_false (Nat.not_lt.2 c16)
                    try (have c16b2s := c16b2; simp only [ByteArray.size_append, Int.natCast_add, show (((⟨#[10]⟩ : ByteArray).size : Nat) : Int) = 1 from rfl, show (((⟨#[32]⟩ : ByteArray).size : Nat) : Int) = 1 from rfl, show (((⟨#[61]⟩ : ByteArray).size : Nat) : Int) = 1 from rfl] at c16b2s)
                    try have c16b9 : (9223372036854775807 < t196.size + 1 + a0_0.size + 1 + a0_1.size + 1) = False := eq_false (Nat.not_lt.2 (by have h_ := c16; simp only [ByteArray.size_append] at h_; exact h_))
                    simp only [Option.some.injEq, Prod.mk.injEq] at H
                    obtain ⟨rfl, rfl⟩ := H
                    go_wp2_with (first | ((with_reducible refine gate_callee (f := 37) rfl ?_); refine goesL_ (some 20) rfl rfl Tryd.func37 (by kernel_rfl) rfl #[.int .i64 x5_1] rfl (by (try simp only [List.map_toArray, List.map_cons, List.map_nil]); first | done | rfl | (simp only [List.length_drop, List.length_take]; rfl)) ?_; (with_reducible refine (strconv_Itoa.calls x5_1 t195 _ ?side1 A12.out).mono ?_); (case side1 => exact Aside0.mk (Tabs.below hT.out (by repeat (first | (with_reducible first | exact HB.out | apply below_alloc | apply pw_below_drewN | apply below_drew1 | refine below_set ?_ GE193.out) | exact HB.out)))); rintro e w17 ⟨rfl, hb⟩; refine ⟨_, rfl, ?_⟩; have n0_ := Aside0.mk (blk_below (g := gb193) (o := .cells #[.string a0_0, .string a0_1] 42 (0, 0)) (by (with_reducible repeat (first | refine blk_drewN ?_ _ | refine blk_drew ?_ | refine blk_alloc ?_ _)); exact BK193.out) hb); have n1_ := Aside0.mk (below_step (by repeat (first | (with_reducible first | exact HB.out | apply below_alloc | apply pw_below_drewN | apply below_drew1 | refine below_set ?_ GE193.out) | exact HB.out)) hb); clear BK193; clear HB; have BK193 := n0_; have HB := n1_; clear n0_ n1_; (try clear hb); (try clear hb2); (try clear hk); (try clear hi)) | ((with_reducible refine gate_callee (f := 37) rfl ?_); refine goesL_ (some 30) rfl rfl Tryd.func37 (by kernel_rfl) rfl #[.int .i64 x5_1] rfl (by (try simp only [List.map_toArray, List.map_cons, List.map_nil]); first | done | rfl | (simp only [List.length_drop, List.length_take]; rfl)) ?_; (with_reducible refine (strconv_Itoa.calls x5_1 t196 _ ?side1 A15.out).mono ?_); (case side1 => exact Aside0.mk (Tabs.below hT.out (by repeat (first | (with_reducible first | exact HB.out | apply below_alloc | apply pw_below_drewN | apply below_drew1 | refine below_set ?_ GE193.out) | exact HB.out)))); rintro e w18 ⟨rfl, hb⟩; refine ⟨_, rfl, ?_⟩; have n0_ := Aside0.mk (blk_below (g := gb193) (o := .cells #[.string a0_0, .string a0_1] 42 (0, 0)) (by (with_reducible repeat (first | refine blk_drewN ?_ _ | refine blk_drew ?_ | refine blk_alloc ?_ _)); exact BK193.out) hb); have n1_ := Aside0.mk (below_step (by repeat (first | (with_reducible first | exact HB.out | apply below_alloc | apply pw_below_drewN | apply below_drew1 | refine below_set ?_ GE193.out) | exact HB.out)) hb); clear BK193; clear HB; have BK193 := n0_; have HB := n1_; clear n0_ n1_; (try clear hb); (try clear hb2); (try clear hk); (try clear hi)))
                    go_ret2
                    exact ⟨by first | rfl | (simp [errW_none, errW_some] <;> rfl) | (simp [*, errW_none, errW_some] <;> rfl), by repeat (first | (with_reducible first | exact HB.out | apply below_alloc | apply pw_below_drewN | apply below_drew1 | refine below_set ?_ GE193.out) | exact HB.out)⟩
                  · rw [if_neg c16] at H
                    exact absurd H (by simp)
          · rw [if_neg c7] at H
            exact absurd H (by simp)
        · rw [if_neg c6] at H
          exact absurd H (by simp)
      · rw [if_neg c5] at H
        exact absurd H (by simp)
    · rw [if_neg c4] at H
      exact absurd H (by simp)
  · replace c3 := Bool.eq_false_iff.mpr c3
    subst c3
    have H1 : (some ((⟨#[]⟩ : ByteArray), false)) = some (r1, r2) := by rw [if_neg (show ¬ (false = true) by decide)] at H; exact H
    clear H
    have H := H1
    clear H1
    simp only [Option.some.injEq, Prod.mk.injEq] at H
    obtain ⟨rfl, rfl⟩ := H
    go_enter Tryd.func24, Tryd.ntmps24
    go_wp2_with (first | ((with_reducible refine gate_dst (N := 1) rfl ?_); refine box_event ?hg (N := 1) ?hd (cs := #[.string a0_0, .string a0_1]) (t := 42) ?hr ?_; (case hd => rfl); (case hg => rfl); (case hr => first | (go_simp; done) | (go_simp; rfl)); intro gb193 hg w19 hbox hb; have n0_ := Aside0.mk (below_step (by repeat (first | (with_reducible first | exact HB.out | apply below_alloc | apply pw_below_drewN | apply below_drew1) | exact HB.out)) hb); have n1_ := Aside0.mk (hbox); have n2_ := Aside0.mk ((by rw [hg]; exact (below_size (by repeat (first | (with_reducible first | exact HB.out | apply below_alloc | apply pw_below_drewN | apply below_drew1) | exact HB.out))) : w.heap.size ≤ gb193)); have n3_ := Aside0.mk ((by rw [hg]; exact (below_size (by repeat (first | (with_reducible first | exact HB.out | apply below_alloc | apply pw_below_drewN | apply below_drew1) | exact HB.out))) : w.heap.size ≤ gb193)); clear HB; have HB := n0_; have BK193 := n1_; have GW193 := n2_; have GE193 := n3_; clear n0_ n1_ n2_ n3_; clear hb hbox hg; have hcz20_0 : w19.cell? ⟨gb193, 0, none⟩ = some (.string a0_0) := (blk_cell BK193.out 0).trans rfl; have hcz20_1 : w19.cell? ⟨gb193, 1, none⟩ = some (.string a0_1) := (blk_cell BK193.out 1).trans rfl; have hfz20_0 := blk_frozen BK193.out 0; have hfz20_1 := blk_frozen BK193.out 1) | ((with_reducible refine gate_callee (f := 36) rfl ?_); refine goesL_ (some 7) rfl rfl Tryd.func36 (by kernel_rfl) rfl #[.agg #[.string a0_0, .string a0_1]] rfl (by (try simp only [List.map_toArray, List.map_cons, List.map_nil]); first | done | rfl | (simp only [List.length_drop, List.length_take]; rfl)) ?_; (with_reducible refine (record_may.calls a0_0 a0_1 false _ ?side1 A2.out).mono ?_); (case side1 => exact Aside0.mk (Tabs.below hT.out (by repeat (first | (with_reducible first | exact HB.out | apply below_alloc | apply pw_below_drewN | apply below_drew1 | refine below_set ?_ GE193.out) | exact HB.out)))); rintro e w21 ⟨rfl, hb⟩; refine ⟨_, rfl, ?_⟩; have n0_ := Aside0.mk (blk_below (g := gb193) (o := .cells #[.string a0_0, .string a0_1] 42 (0, 0)) (by (with_reducible repeat (first | refine blk_drewN ?_ _ | refine blk_drew ?_ | refine blk_alloc ?_ _)); exact BK193.out) hb); have n1_ := Aside0.mk (below_step (by repeat (first | (with_reducible first | exact HB.out | apply below_alloc | apply pw_below_drewN | apply below_drew1 | refine below_set ?_ GE193.out) | exact HB.out)) hb); clear BK193; clear HB; have BK193 := n0_; have HB := n1_; clear n0_ n1_; (try clear hb); (try clear hb2); (try clear hk); (try clear hi)))
    go_ret2
    exact ⟨by first | rfl | (simp [errW_none, errW_some] <;> rfl) | (simp [*, errW_none, errW_some] <;> rfl), by repeat (first | (with_reducible first | exact HB.out | apply below_alloc | apply pw_below_drewN | apply below_drew1 | refine below_set ?_ GE193.out) | exact HB.out)⟩

end Go.Proofs.YtgjkkhdjfppeiaaDoor.Print
