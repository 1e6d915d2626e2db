-- PRINTED by wip/hprint.py, this project's driver over the kit's print (hand contracts beside it). Not trusted: Lean checks it.
import Derived.Test.YtgjkkhdjfppeiaaDoorPrint0
import Derived.Test.YtgjkkhdjfppeiaaDoorPrint32
namespace Go.Proofs.YtgjkkhdjfppeiaaDoor.Print
open Go.RowKit Go.Proofs.YtgjkkhdjfppeiaaDoorW.PrintWords Go.Proofs.YtgjkkhdjfppeiaaDoorW.PrintLast Go.Proofs.YtgjkkhdjfppeiaaDoorW.PrintMore
attribute [local go_sem] max2_int min2_int max_two min_two max_three min_three max_four min_four   -- for this text's walks alone
set_option linter.unusedVariables false
set_option linter.unusedSimpArgs false

/-! ### bindleref01_Line: function 26 -/
def bindleref01_Line.l0 : Nat → ByteArray → Int → Option (ByteArray)
  | 0, _, _ => none
  | k + 1, x3, x4 => (bindleref01_Dec.f k x4).bind fun t204 => (if (wrap64 ((t204.size : Int) + (x3.size : Int))) = x4 then ((bindleref01_Dec.f k x4).bind fun t205 => (if t205.size + x3.size ≤ 9223372036854775807 then (some (t205 ++ x3)) else (none))) else (bindleref01_Line.l0 k x3 (wrap64 (x4 + 1))))
def bindleref01_Line.f (k : Nat) (a0_0 : ByteArray) (a0_1 : ByteArray) : Option (ByteArray) := if 1 + a0_0.size ≤ 9223372036854775807 then (if ((⟨#[32]⟩ : ByteArray) ++ a0_0).size + 1 ≤ 9223372036854775807 then (if (((⟨#[32]⟩ : ByteArray) ++ a0_0) ++ (⟨#[61]⟩ : ByteArray)).size + a0_1.size ≤ 9223372036854775807 then (if ((((⟨#[32]⟩ : ByteArray) ++ a0_0) ++ (⟨#[61]⟩ : ByteArray)) ++ a0_1).size + 1 ≤ 9223372036854775807 then (bindleref01_Line.l0 k (((((⟨#[32]⟩ : ByteArray) ++ a0_0) ++ (⟨#[61]⟩ : ByteArray)) ++ a0_1) ++ (⟨#[10]⟩ : ByteArray)) ((((((⟨#[32]⟩ : ByteArray) ++ a0_0) ++ (⟨#[61]⟩ : ByteArray)) ++ a0_1) ++ (⟨#[10]⟩ : ByteArray)).size : Int)) else (none)) else (none)) else (none)) else (none)
theorem bindleref01_Line.mono_l : ∀ k, (∀ y0 y1, LeO (bindleref01_Line.l0 k y0 y1) (bindleref01_Line.l0 (k + 1) y0 y1))
  | 0 => fun _ _ r h => by simp [bindleref01_Line.l0] at h
  | k + 1 => by
    have ih0 := bindleref01_Line.mono_l k
    · intro y0 y1
      unfold bindleref01_Line.l0
      repeat' first
      | (with_reducible exact ih0 _ _)
      | (with_reducible exact bindleref01_Dec.mono _ _)
      | (with_reducible exact LeO.refl _)
      | (with_reducible exact LeO.none _)
      | (with_reducible refine LeO.ite ?_ ?_)
      | (with_reducible refine LeO.bind ?_ (fun _ => ?_))
      | exact ih0 _ _
      | exact bindleref01_Dec.mono _ _
      | exact LeO.none _
      | refine LeO.ite ?_ ?_
      | refine LeO.bind ?_ (fun _ => ?_)
theorem bindleref01_Line.mono : ∀ a0 a1 k, LeO (bindleref01_Line.f k a0 a1) (bindleref01_Line.f (k + 1) a0 a1) := by
  intro a0 a1 k
  have ih0 := bindleref01_Line.mono_l k
  unfold bindleref01_Line.f
  repeat' first
      | (with_reducible exact ih0 _ _)
      | (with_reducible exact bindleref01_Dec.mono _ _)
      | (with_reducible exact LeO.refl _)
      | (with_reducible exact LeO.none _)
      | (with_reducible refine LeO.ite ?_ ?_)
      | (with_reducible refine LeO.bind ?_ (fun _ => ?_))
      | exact ih0 _ _
      | exact bindleref01_Dec.mono _ _
      | exact LeO.none _
      | refine LeO.ite ?_ ?_
      | refine LeO.bind ?_ (fun _ => ?_)
set_option maxHeartbeats 8000000 in
set_option maxRecDepth 100000 in
theorem bindleref01_Line.calls (k : Nat) (a0_0 : ByteArray) (a0_1 : ByteArray) (r : ByteArray) (w : World) (h : bindleref01_Line.f k a0_0 a0_1 = some r) :
    Calls Tryd.prog 26 #[.agg #[.string a0_0, .string a0_1]] w fun e w' => e = .returned (.string r) ∧ Below w.heap.size w w' := by
  have hu42 := Tryd.underlying42
  have HB := Aside0.mk (Below.refl w.heap.size w)
  have H : (if 1 + a0_0.size ≤ 9223372036854775807 then (if ((⟨#[32]⟩ : ByteArray) ++ a0_0).size + 1 ≤ 9223372036854775807 then (if (((⟨#[32]⟩ : ByteArray) ++ a0_0) ++ (⟨#[61]⟩ : ByteArray)).size + a0_1.size ≤ 9223372036854775807 then (if ((((⟨#[32]⟩ : ByteArray) ++ a0_0) ++ (⟨#[61]⟩ : ByteArray)) ++ a0_1).size + 1 ≤ 9223372036854775807 then (bindleref01_Line.l0 k (((((⟨#[32]⟩ : ByteArray) ++ a0_0) ++ (⟨#[61]⟩ : ByteArray)) ++ a0_1) ++ (⟨#[10]⟩ : ByteArray)) ((((((⟨#[32]⟩ : ByteArray) ++ a0_0) ++ (⟨#[61]⟩ : ByteArray)) ++ a0_1) ++ (⟨#[10]⟩ : ByteArray)).size : Int)) else (none)) else (none)) else (none)) else (none)) = some r := h
  clear h
  by_cases c2 : 1 + a0_0.size ≤ 9223372036854775807
  · rw [if_pos c2] at H
    have c2b0 := eq_true c2
    have c2b1 : decide (1 + a0_0.size ≤ 9223372036854775807) = true := decide_eq_true c2
    try have c2b2 : (9223372036854775807 < 1 + a0_0.size) = False := eq_false (Nat.not_lt.2 c2)
    by_cases c3 : ((⟨#[32]⟩ : ByteArray) ++ a0_0).size + 1 ≤ 9223372036854775807
    · rw [if_pos c3] at H
      have c3b0 := eq_true c3
      have c3b1 : decide (((⟨#[32]⟩ : ByteArray) ++ a0_0).size + 1 ≤ 9223372036854775807) = true := decide_eq_true c3
      try (have c3b1s := c3b1; simp only [ByteArray.size_append, Int.natCast_add, show (((⟨#[32]⟩ : ByteArray).size : Nat) : Int) = 1 from rfl] at c3b1s)
      try have c3b2 : (9223372036854775807 < ((⟨#[32]⟩ : ByteArray) ++ a0_0).size + 1) = False := eq_false (Nat.not_lt.2 c3)
      try (have c3b2s := c3b2; simp only [ByteArray.size_append, Int.natCast_add, show (((⟨#[32]⟩ : ByteArray).size : Nat) : Int) = 1 from rfl] at c3b2s)
      try have c3b9 : (9223372036854775807 < 1 + a0_0.size + 1) = False := eq_false (Nat.not_lt.2 (by have h_ := c3; simp only [ByteArray.size_append] at h_; exact h_))
      by_cases c4 : (((⟨#[32]⟩ : ByteArray) ++ a0_0) ++ (⟨#[61]⟩ : ByteArray)).size + a0_1.size ≤ 9223372036854775807
      · rw [if_pos c4] at H
        have c4b0 := eq_true c4
        have c4b1 : decide ((((⟨#[32]⟩ : ByteArray) ++ a0_0) ++ (⟨#[61]⟩ : ByteArray)).size + a0_1.size ≤ 9223372036854775807) = true := decide_eq_true c4
        try (have c4b1s := c4b1; simp only [ByteArray.size_append, Int.natCast_add, show (((⟨#[32]⟩ : ByteArray).size : Nat) : Int) = 1 from rfl, show (((⟨#[61]⟩ : ByteArray).size : Nat) : Int) = 1 from rfl] at c4b1s)
        try have c4b2 : (9223372036854775807 < (((⟨#[32]⟩ : ByteArray) ++ a0_0) ++ (⟨#[61]⟩ : ByteArray)).size + a0_1.size) = False := eq_false (Nat.not_lt.2 c4)
        try (have c4b2s := c4b2; simp only [ByteArray.size_append, Int.natCast_add, show (((⟨#[32]⟩ : ByteArray).size : Nat) : Int) = 1 from rfl, show (((⟨#[61]⟩ : ByteArray).size : Nat) : Int) = 1 from rfl] at c4b2s)
        try have c4b9 : (9223372036854775807 < 1 + a0_0.size + 1 + a0_1.size) = False := eq_false (Nat.not_lt.2 (by have h_ := c4; simp only [ByteArray.size_append] at h_; exact h_))
        by_cases c5 : ((((⟨#[32]⟩ : ByteArray) ++ a0_0) ++ (⟨#[61]⟩ : ByteArray)) ++ a0_1).size + 1 ≤ 9223372036854775807
        · rw [if_pos c5] at H
          have c5b0 := eq_true c5
          have c5b1 : decide (((((⟨#[32]⟩ : ByteArray) ++ a0_0) ++ (⟨#[61]⟩ : ByteArray)) ++ a0_1).size + 1 ≤ 9223372036854775807) = true := decide_eq_true c5
          try (have c5b1s := c5b1; simp only [ByteArray.size_append, Int.natCast_add, show (((⟨#[32]⟩ : ByteArray).size : Nat) : Int) = 1 from rfl, show (((⟨#[61]⟩ : ByteArray).size : Nat) : Int) = 1 from rfl] at c5b1s)
          try have c5b2 : (9223372036854775807 < ((((⟨#[32]⟩ : ByteArray) ++ a0_0) ++ (⟨#[61]⟩ : ByteArray)) ++ a0_1).size + 1) = False := eq_false (Nat.not_lt.2 c5)
          try (have c5b2s := c5b2; simp only [ByteArray.size_append, Int.natCast_add, show (((⟨#[32]⟩ : ByteArray).size : Nat) : Int) = 1 from rfl, show (((⟨#[61]⟩ : ByteArray).size : Nat) : Int) = 1 from rfl] at c5b2s)
          try have c5b9 : (9223372036854775807 < 1 + a0_0.size + 1 + a0_1.size + 1) = False := eq_false (Nat.not_lt.2 (by have h_ := c5; simp only [ByteArray.size_append] at h_; exact h_))
          have H' := Aside0.mk H
          clear H
          go_enter Tryd.func26, Tryd.ntmps26
          go_wp2_with (first | ((with_reducible refine gate_dst (N := 1) rfl ?_); refine box_event ?hg (N := 1) ?hd (cs := #[.string a0_0, .string a0_1]) (t := 42) ?hr ?_; (case hd => rfl); (case hg => rfl); (case hr => first | (go_simp; done) | (go_simp; rfl)); intro gb203 hg w6 hbox hb; have n0_ := Aside0.mk (below_step (by repeat (first | (with_reducible first | exact HB.out | apply below_alloc | apply pw_below_drewN | apply below_drew1) | exact HB.out)) hb); have n1_ := Aside0.mk (hbox); have n2_ := Aside0.mk ((by rw [hg]; exact (below_size (by repeat (first | (with_reducible first | exact HB.out | apply below_alloc | apply pw_below_drewN | apply below_drew1) | exact HB.out))) : w.heap.size ≤ gb203)); have n3_ := Aside0.mk ((by rw [hg]; exact (below_size (by repeat (first | (with_reducible first | exact HB.out | apply below_alloc | apply pw_below_drewN | apply below_drew1) | exact HB.out))) : w.heap.size ≤ gb203)); clear HB; have HB := n0_; have BK203 := n1_; have GW203 := n2_; have GE203 := n3_; clear n0_ n1_ n2_ n3_; clear hb hbox hg; have hcz7_0 : w6.cell? ⟨gb203, 0, none⟩ = some (.string a0_0) := (blk_cell BK203.out 0).trans rfl; have hcz7_1 : w6.cell? ⟨gb203, 1, none⟩ = some (.string a0_1) := (blk_cell BK203.out 1).trans rfl; have hfz7_0 := blk_frozen BK203.out 0; have hfz7_1 := blk_frozen BK203.out 1))
          go_loopg [4] k (fun kq v4 w' => ∃ (x4_1 : Int), v4 = .int .i64 x4_1 ∧ Aside0 (bindleref01_Line.l0 kq (((((⟨#[32]⟩ : ByteArray) ++ a0_0) ++ (⟨#[61]⟩ : ByteArray)) ++ a0_1) ++ (⟨#[10]⟩ : ByteArray)) x4_1 = some r) ∧ Aside0 (kq ≤ k) ∧ Aside0 (w'.heap[gb203]? = some (.cells #[.string a0_0, .string a0_1] 42 (0, 0))) ∧ Aside0 (Below w.heap.size w w'))
          case atStart => exact ⟨(((((((⟨#[32]⟩ : ByteArray) ++ a0_0) ++ (⟨#[61]⟩ : ByteArray)) ++ a0_1) ++ (⟨#[10]⟩ : ByteArray)).size : Int)), (by first | rfl | (simp; done) | (simp [*]; done) | (simp only [ByteArray.size_append, Int.natCast_add]; rfl)), H', ⟨Nat.le_refl _⟩, ⟨by (with_reducible repeat (first | refine blk_drewN ?_ _ | refine blk_drew ?_ | refine blk_alloc ?_ _)); exact BK203.out⟩, ⟨by repeat (first | (with_reducible first | exact HB.out | apply below_alloc | apply pw_below_drewN | apply below_drew1 | refine below_set ?_ GE203.out) | exact HB.out)⟩⟩
          case round =>
            clear H'
            try clear c2
            try clear c2b0
            try clear c2b1
            try clear c2b2
            try clear p2
            try clear c3
            try clear c3b0
            try clear c3b1
            try clear c3b2
            try clear c4
            try clear c4b0
            try clear c4b1
            try clear c4b2
            try clear c5
            try clear c5b0
            try clear c5b1
            try clear c5b2
            try clear hcz7_0
            try clear hcz7_1
            try clear hfz7_0
            try clear hfz7_1
            obtain ⟨x4_1, rfl, HA, HK1, BK203, HB⟩ := hrel
            cases gk with
            | zero => exact absurd HA.out (by simp [bindleref01_Line.l0])
            | succ k1 =>
              have H := HA.out
              clear HA
              simp only [bindleref01_Line.l0] at H
              replace H := Option.bind_eq_some_iff.mp H
              obtain ⟨t204, A80, H⟩ := H
              replace H : (if (wrap64 ((t204.size : Int) + ((((((⟨#[32]⟩ : ByteArray) ++ a0_0) ++ (⟨#[61]⟩ : ByteArray)) ++ a0_1) ++ (⟨#[10]⟩ : ByteArray)).size : Int))) = x4_1 then ((bindleref01_Dec.f k1 x4_1).bind fun t205 => (if t205.size + (((((⟨#[32]⟩ : ByteArray) ++ a0_0) ++ (⟨#[61]⟩ : ByteArray)) ++ a0_1) ++ (⟨#[10]⟩ : ByteArray)).size ≤ 9223372036854775807 then (some (t205 ++ (((((⟨#[32]⟩ : ByteArray) ++ a0_0) ++ (⟨#[61]⟩ : ByteArray)) ++ a0_1) ++ (⟨#[10]⟩ : ByteArray)))) else (none))) else (bindleref01_Line.l0 k1 (((((⟨#[32]⟩ : ByteArray) ++ a0_0) ++ (⟨#[61]⟩ : ByteArray)) ++ a0_1) ++ (⟨#[10]⟩ : ByteArray)) (wrap64 (x4_1 + 1)))) = some r := H
              have A8 := Aside0.mk A80
              clear A80
              by_cases c9 : (wrap64 ((t204.size : Int) + ((((((⟨#[32]⟩ : ByteArray) ++ a0_0) ++ (⟨#[61]⟩ : ByteArray)) ++ a0_1) ++ (⟨#[10]⟩ : ByteArray)).size : Int))) = x4_1
              · rw [if_pos c9] at H
                have c9b0 : ((wrap64 ((t204.size : Int) + ((((((⟨#[32]⟩ : ByteArray) ++ a0_0) ++ (⟨#[61]⟩ : ByteArray)) ++ a0_1) ++ (⟨#[10]⟩ : ByteArray)).size : Int))) == x4_1) = true := beq_iff_eq.mpr c9
                try (have c9b0s := c9b0; simp only [ByteArray.size_append, Int.natCast_add, show (((⟨#[10]⟩ : ByteArray).size : Nat) : Int) = 1 from rfl, show (((⟨#[32]⟩ : ByteArray).size : Nat) : Int) = 1 from rfl, show (((⟨#[61]⟩ : ByteArray).size : Nat) : Int) = 1 from rfl] at c9b0s)
                have c9b1 : ((wrap64 ((t204.size : Int) + ((((((⟨#[32]⟩ : ByteArray) ++ a0_0) ++ (⟨#[61]⟩ : ByteArray)) ++ a0_1) ++ (⟨#[10]⟩ : ByteArray)).size : Int))) != x4_1) = false := bne_eq_false_iff_eq.mpr c9
                try (have c9b1s := c9b1; simp only [ByteArray.size_append, Int.natCast_add, show (((⟨#[10]⟩ : ByteArray).size : Nat) : Int) = 1 from rfl, show (((⟨#[32]⟩ : ByteArray).size : Nat) : Int) = 1 from rfl, show (((⟨#[61]⟩ : ByteArray).size : Nat) : Int) = 1 from rfl] at c9b1s)
                clear c9
                replace H := Option.bind_eq_some_iff.mp H
                obtain ⟨t205, A100, H⟩ := H
                replace H : (if t205.size + (((((⟨#[32]⟩ : ByteArray) ++ a0_0) ++ (⟨#[61]⟩ : ByteArray)) ++ a0_1) ++ (⟨#[10]⟩ : ByteArray)).size ≤ 9223372036854775807 then (some (t205 ++ (((((⟨#[32]⟩ : ByteArray) ++ a0_0) ++ (⟨#[61]⟩ : ByteArray)) ++ a0_1) ++ (⟨#[10]⟩ : ByteArray)))) else (none)) = some r := H
                have A10 := Aside0.mk A100
                clear A100
                by_cases c11 : t205.size + (((((⟨#[32]⟩ : ByteArray) ++ a0_0) ++ (⟨#[61]⟩ : ByteArray)) ++ a0_1) ++ (⟨#[10]⟩ : ByteArray)).size ≤ 9223372036854775807
                · rw [if_pos c11] at H
                  have c11b0 := eq_true c11
                  have c11b1 : decide (t205.size + (((((⟨#[32]⟩ : ByteArray) ++ a0_0) ++ (⟨#[61]⟩ : ByteArray)) ++ a0_1) ++ (⟨#[10]⟩ : ByteArray)).size ≤ 9223372036854775807) = true := decide_eq_true c11
                  try (have c11b1s := c11b1; simp only [ByteArray.size_append, Int.natCast_add, show (((⟨#[10]⟩ : ByteArray).size : Nat) : Int) = 1 from rfl, show (((⟨#[32]⟩ : ByteArray).size : Nat) : Int) = 1 from rfl, show (((⟨#[61]⟩ : ByteArray).size : Nat) : Int) = 1 from rfl] at c11b1s)
                  try have c11b2 : (9223372036854775807 < t205.size + (((((⟨#[32]⟩ : ByteArray) ++ a0_0) ++ (⟨#[61]⟩ : ByteArray)) ++ a0_1) ++ (⟨#[10]⟩ : ByteArray)).size) = False := eq_false (Nat.not_lt.2 c11)
                  try (have c11b2s := c11b2; simp only [ByteArray.size_append, Int.natCast_add, show (((⟨#[10]⟩ : ByteArray).size : Nat) : Int) = 1 from rfl, show (((⟨#[32]⟩ : ByteArray).size : Nat) : Int) = 1 from rfl, show (((⟨#[61]⟩ : ByteArray).size : Nat) : Int) = 1 from rfl] at c11b2s)
                  try have c11b9 : (9223372036854775807 < t205.size + 1 + a0_0.size + 1 + a0_1.size + 1) = False := eq_false (Nat.not_lt.2 (by have h_ := c11; simp only [ByteArray.size_append] at h_; exact h_))
                  obtain rfl := Option.some.inj H
                  go_wp2_with (first | ((with_reducible refine gate_callee (f := 38) rfl ?_); refine goesL_ (some 16) rfl rfl Tryd.func38 (by kernel_rfl) rfl #[.int .i64 x4_1] rfl (by (try simp only [List.map_toArray, List.map_cons, List.map_nil]); first | done | rfl | (simp only [List.length_drop, List.length_take]; rfl)) ?_; (with_reducible refine (bindleref01_Dec.calls k1 x4_1 t204 _ A8.out).mono ?_); rintro e w12 ⟨rfl, hb⟩; refine ⟨_, rfl, ?_⟩; have n0_ := Aside0.mk (blk_below (g := gb203) (o := .cells #[.string a0_0, .string a0_1] 42 (0, 0)) (by (with_reducible repeat (first | refine blk_drewN ?_ _ | refine blk_drew ?_ | refine blk_alloc ?_ _)); exact BK203.out) hb); have n1_ := Aside0.mk (below_step (by repeat (first | (with_reducible first | exact HB.out | apply below_alloc | apply pw_below_drewN | apply below_drew1 | refine below_set ?_ GE203.out) | exact HB.out)) hb); clear BK203; clear HB; have BK203 := n0_; have HB := n1_; clear n0_ n1_; (try clear hb); (try clear hb2); (try clear hk); (try clear hi)) | ((with_reducible refine gate_callee (f := 38) rfl ?_); refine goesL_ (some 26) rfl rfl Tryd.func38 (by kernel_rfl) rfl #[.int .i64 x4_1] rfl (by (try simp only [List.map_toArray, List.map_cons, List.map_nil]); first | done | rfl | (simp only [List.length_drop, List.length_take]; rfl)) ?_; (with_reducible refine (bindleref01_Dec.calls k1 x4_1 t205 _ A10.out).mono ?_); rintro e w13 ⟨rfl, hb⟩; refine ⟨_, rfl, ?_⟩; have n0_ := Aside0.mk (blk_below (g := gb203) (o := .cells #[.string a0_0, .string a0_1] 42 (0, 0)) (by (with_reducible repeat (first | refine blk_drewN ?_ _ | refine blk_drew ?_ | refine blk_alloc ?_ _)); exact BK203.out) hb); have n1_ := Aside0.mk (below_step (by repeat (first | (with_reducible first | exact HB.out | apply below_alloc | apply pw_below_drewN | apply below_drew1 | refine below_set ?_ GE203.out) | exact HB.out)) hb); clear BK203; clear HB; have BK203 := n0_; have HB := n1_; clear n0_ n1_; (try clear hb); (try clear hb2); (try clear hk); (try clear hi)))
                  go_ret
                  exact ⟨by first | rfl | (simp [errW_none, errW_some] <;> rfl) | (simp [*, errW_none, errW_some] <;> rfl), by repeat (first | (with_reducible first | exact HB.out | apply below_alloc | apply pw_below_drewN | apply below_drew1 | refine below_set ?_ GE203.out) | exact HB.out)⟩
                · rw [if_neg c11] at H
                  exact absurd H (by simp)
              · rw [if_neg c9] at H
                have c9b0 : ((wrap64 ((t204.size : Int) + ((((((⟨#[32]⟩ : ByteArray) ++ a0_0) ++ (⟨#[61]⟩ : ByteArray)) ++ a0_1) ++ (⟨#[10]⟩ : ByteArray)).size : Int))) == x4_1) = false := beq_eq_false_iff_ne.mpr c9
                try (have c9b0s := c9b0; simp only [ByteArray.size_append, Int.natCast_add, show (((⟨#[10]⟩ : ByteArray).size : Nat) : Int) = 1 from rfl, show (((⟨#[32]⟩ : ByteArray).size : Nat) : Int) = 1 from rfl, show (((⟨#[61]⟩ : ByteArray).size : Nat) : Int) = 1 from rfl] at c9b0s)
                have c9b1 : ((wrap64 ((t204.size : Int) + ((((((⟨#[32]⟩ : ByteArray) ++ a0_0) ++ (⟨#[61]⟩ : ByteArray)) ++ a0_1) ++ (⟨#[10]⟩ : ByteArray)).size : Int))) != x4_1) = true := bne_iff_ne.mpr c9
                try (have c9b1s := c9b1; simp only [ByteArray.size_append, Int.natCast_add, show (((⟨#[10]⟩ : ByteArray).size : Nat) : Int) = 1 from rfl, show (((⟨#[32]⟩ : ByteArray).size : Nat) : Int) = 1 from rfl, show (((⟨#[61]⟩ : ByteArray).size : Nat) : Int) = 1 from rfl] at c9b1s)
                have H' := Aside0.mk H
                clear H
                go_wp2_with (first | ((with_reducible refine gate_callee (f := 38) rfl ?_); refine goesL_ (some 16) rfl rfl Tryd.func38 (by kernel_rfl) rfl #[.int .i64 x4_1] rfl (by (try simp only [List.map_toArray, List.map_cons, List.map_nil]); first | done | rfl | (simp only [List.length_drop, List.length_take]; rfl)) ?_; (with_reducible refine (bindleref01_Dec.calls k1 x4_1 t204 _ A8.out).mono ?_); rintro e w14 ⟨rfl, hb⟩; refine ⟨_, rfl, ?_⟩; have n0_ := Aside0.mk (blk_below (g := gb203) (o := .cells #[.string a0_0, .string a0_1] 42 (0, 0)) (by (with_reducible repeat (first | refine blk_drewN ?_ _ | refine blk_drew ?_ | refine blk_alloc ?_ _)); exact BK203.out) hb); have n1_ := Aside0.mk (below_step (by repeat (first | (with_reducible first | exact HB.out | apply below_alloc | apply pw_below_drewN | apply below_drew1 | refine below_set ?_ GE203.out) | exact HB.out)) hb); clear BK203; clear HB; have BK203 := n0_; have HB := n1_; clear n0_ n1_; (try clear hb); (try clear hb2); (try clear hk); (try clear hi)))
                go_roundg k1
                case measure => have := HK1.out; omega
                case rel => exact ⟨(wrap64 (x4_1 + 1)), (by first | rfl | (simp; done) | (simp [*]; done)), H', ⟨by have := HK1.out; omega⟩, ⟨by (with_reducible repeat (first | refine blk_drewN ?_ _ | refine blk_drew ?_ | refine blk_alloc ?_ _)); exact BK203.out⟩, ⟨by repeat (first | (with_reducible first | exact HB.out | apply below_alloc | apply pw_below_drewN | apply below_drew1 | refine below_set ?_ GE203.out) | exact HB.out)⟩⟩
        · rw [if_neg c5] at H
          exact absurd H (by simp)
      · rw [if_neg c4] at H
        exact absurd H (by simp)
    · rw [if_neg c3] at H
      exact absurd H (by simp)
  · rw [if_neg c2] at H
    exact absurd H (by simp)

end Go.Proofs.YtgjkkhdjfppeiaaDoor.Print
