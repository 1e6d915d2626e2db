/-
  bindlelaw06.answers is true; record.Parse of a string's bytes.
-/
import Derived.Test.YtgjkkhdjfppeiaaDoorRecLn
import Derived.WalkMore
namespace Go.Proofs.YtgjkkhdjfppeiaaDoor
open Go.RowKit Go.Shelf Go.Proofs.YtgjkkhdjfppeiaaDoor.Print Go.Proofs.YtgjkkhdjfppeiaaDoorW.PrintWords
theorem bytes_str (s : ByteArray) : strOfNums (bytesOf s) = s := by
  rw [← ofB_of s]
  generalize s.data.toList = l
  unfold strOfNums bytesOf
  rw [ofB_data, List.map_map]
  have e : ((fun n : Int => UInt8.ofNat n.toNat) ∘ fun b : UInt8 => (b.toNat : Int)) = id := by
    funext b
    simp
  first | rw [e, List.map_id]; rfl | simp [ofB]
/-- record.Parse of []byte(s). -/
theorem Parse_str (s : ByteArray) (w : World) (hs : s.size ≤ 50000000) (hT : Tabs w) :
    Calls Tryd.prog 21 #[.slice (some ⟨w.heap.size, 0, none⟩) s.size (grownCap w s.size 0 5)] (Lib.bytesWorld w 5 s) fun e w' =>
      ∃ A c, e = .returned (.tuple #[.slice A (parseL s.data.toList).1.length c, .int .i64 (parseL s.data.toList).2]) ∧ (A = none ∨ ∃ g, A = some ⟨g, 0, none⟩ ∧ w.heap.size ≤ g) ∧ Kd.C k42 w' A (parseL s.data.toList).1.length (recs (parseL s.data.toList).1) ∧ Below w.heap.size w w' := by
  obtain ⟨k, hk⟩ := Ev.rounds (Parse_eq (bytesOf s) (by rw [bytes_str]; exact hs))
  rw [bytes_str] at hk
  have hb := bytes_below (Below.refl w.heap.size w) (Nat.le_refl _) 5 s
  have hr := Kd.C_of_reads (enc := Value.int .u8) (d := (0 : Int)) (h1 := fun _ => rfl) (bytes_reads w 5 s (by omega))
  have hl := bytesOf_length s
  have hc : s.size ≤ grownCap w s.size 0 5 := grownCap_ge _ _ _ _
  have h := record_Parse.calls k (some ⟨w.heap.size, 0, none⟩) (grownCap w s.size 0 5) (bytesOf s) _ _ (Lib.bytesWorld w 5 s) ⟨Tabs.below hT hb⟩ (by rw [hl]; exact hr) (by rw [hl]; exact hc) hk
  rw [hl] at h
  refine h.mono ?_
  rintro e w' ⟨v, rfl, hR, hb2⟩
  obtain ⟨A, c, rfl, h1, h2⟩ := Kd.R_reads hR
  have hn : (recs (parseL s.data.toList).1).length = (parseL s.data.toList).1.length := by simp [recs]
  rw [hn] at h2 ⊢
  refine ⟨A, c, rfl, ?_, h2, hb.trans (hb2.mono (by rw [Lib.bytesWorld_size]; omega))⟩
  obtain ⟨inner, ho, -⟩ := hR.2
  rcases ho.2 with ⟨h3, -⟩ | ⟨g, cap, cur, h3, hg, -⟩
  · left; exact (Value.slice.inj h3).1
  · right
    refine ⟨g, (Value.slice.inj h3).1, ?_⟩
    rw [Lib.bytesWorld_size] at hg
    omega
/-! A constant text as bytes: a literal, and its mark. -/
def litW (w : World) (cs : Array Value) : World := (w.alloc (.cells cs 5)).freeze ⟨w.heap.size, cs.size, none⟩ 1
theorem litW_new (w : World) (cs : Array Value) : (litW w cs).heap[w.heap.size]? = some (.cells cs 5 (cs.size, cs.size + 1)) := by
  simp [litW, World.freeze, World.alloc, -World.alloc_eq]
  rw [Array.getElem_modify_self]
  simp
theorem litW_size (w : World) (cs : Array Value) : (litW w cs).heap.size = w.heap.size + 1 := by
  simp [litW, World.freeze, World.alloc, -World.alloc_eq]
theorem litW_old (w : World) (cs : Array Value) (j : Nat) (hj : j < w.heap.size) : (litW w cs).heap[j]? = w.heap[j]? := by
  have h1 : w.heap.size ≠ j := by omega
  simp [litW, World.freeze, World.alloc, -World.alloc_eq, Array.getElem?_modify, Array.getElem?_push, h1, Ne.symm h1]
theorem litW_below (w : World) (cs : Array Value) : Below w.heap.size w (litW w cs) :=
  ⟨rfl, rfl, rfl, by rw [litW_size]; omega, fun i hi => litW_old w cs i hi⟩
theorem litW_conv (w : World) (cs : Array Value) (n c : Nat) : (convert 46 46 (.slice (some ⟨w.heap.size, 0, none⟩) n c)).run Tryd.prog (w.alloc (.cells cs 5)) = .ok (.slice (some ⟨w.heap.size, 0, none⟩) n c) (litW w cs) := by
  have hsh : (w.alloc (.cells cs 5)).shape? w.heap.size = some (5, cs.size) := by
    simp [World.shape?, World.alloc, -World.alloc_eq]
  simp [convert, run_underlying Tryd.underlying46, run_underlying Tryd.underlying5, markStringish, litW, hsh, Result.andThen]
/-! The answers. -/
def pathB : ByteArray := ⟨#[112, 97, 116, 104]⟩
def lineB : ByteArray := ⟨#[57, 32, 112, 97, 116, 104, 61, 97, 10]⟩
theorem line_is : IsLine pathB.data.toList (⟨#[97]⟩ : ByteArray).data.toList lineB.data.toList := by
  have h9 : nd 9 = 1 := by rw [nd_eq]; rfl
  have h8 : nd 8 = 1 := by rw [nd_eq]; rfl
  refine ⟨9, ⟨by decide, by decide, by rw [h9]; rfl, fun m h1 h2 => ?_⟩, ?_⟩
  · have e : m = 8 := by
      have : (bodyL pathB.data.toList (⟨#[97]⟩ : ByteArray).data.toList).length = 8 := rfl
      omega
    subst e
    rw [h8]; decide
  · rw [dd_eq]; rfl
theorem may_path : mayL pathB.data.toList (⟨#[97]⟩ : ByteArray).data.toList = true := by decide
theorem parse_line : parseL lineB.data.toList = ([([112, 97, 116, 104], [97])], 0) := by
  have h := parse_cons line_is ((mayL_iff _ _).1 may_path) []
  rw [List.append_nil] at h
  rw [h]; rfl
theorem parse_bad : parseL [49, 49, 32, 112, 97, 116, 104, 61, 97, 10] = ([], 5) := by decide
set_option maxRecDepth 100000 in
set_option maxHeartbeats 2000000 in
theorem answers_calls (w : World) (hT : Tabs w) :
    Calls Tryd.prog 20 #[] w fun e w' => e = .returned (.bool true) ∧ Below w.heap.size w w' := by
  obtain ⟨k1, h1⟩ := Ev.rounds (RLine_yes pathB ⟨#[97]⟩ (by decide) (by decide) may_path line_is)
  obtain ⟨k3, h3⟩ := Ev.rounds (Parse_eq [49, 49, 32, 112, 97, 116, 104, 61, 97, 10] (by decide))
  have c1 : ∀ W, Tabs W → Calls Tryd.prog 24 #[.agg #[.string ⟨#[112, 97, 116, 104]⟩, .string ⟨#[97]⟩]] W fun e w' => e = .returned (.tuple #[.string lineB, .bool true]) ∧ Below W.heap.size W w' :=
    fun W hT => record_Line.calls k1 pathB ⟨#[97]⟩ lineB true W ⟨hT⟩ (by rw [ofB_of] at h1; exact h1)
  have kb := fun W => print_bytes (P := Tryd.prog) 9 46 5 Tryd.underlying9 Tryd.underlying46 Tryd.underlying5 lineB W
  have c2 : ∀ W, Tabs W → Calls Tryd.prog 21 #[.slice (some ⟨W.heap.size, 0, none⟩) 9 (grownCap W 9 0 5)] (Lib.bytesWorld W 5 ⟨#[57, 32, 112, 97, 116, 104, 61, 97, 10]⟩) fun e w' =>
      ∃ g c, e = .returned (.tuple #[.slice (some ⟨g, 0, none⟩) 1 c, .int .i64 0]) ∧ w'.cell? ⟨g, 1, none⟩ = some (.string ⟨#[97]⟩) ∧ Below W.heap.size W w' := by
    intro W hT
    refine (Parse_str lineB W (by decide) hT).mono ?_
    rintro e w' ⟨A, c, rfl, hA, hC, hb⟩
    rw [parse_line] at hC ⊢
    obtain ⟨ad, hA2, -, hc⟩ := at_T42 hC 0 (by decide) (by decide)
    rcases hA with rfl | ⟨g, rfl, -⟩
    · cases hA2
    · cases hA2
      exact ⟨g, c, rfl, hc, hb⟩
  have c3 : ∀ W, Tabs W → Calls Tryd.prog 21 #[.slice (some ⟨W.heap.size, 0, none⟩) 10 10] (litW W (#[.int .u8 49, .int .u8 49, .int .u8 32, .int .u8 112, .int .u8 97, .int .u8 116, .int .u8 104, .int .u8 61, .int .u8 97, .int .u8 10] : Array Value)) fun e w' =>
      ∃ v, e = .returned (.tuple #[v, .int .i64 5]) ∧ Below W.heap.size W w' := by
    intro W hT
    have hb := litW_below W (#[.int .u8 49, .int .u8 49, .int .u8 32, .int .u8 112, .int .u8 97, .int .u8 116, .int .u8 104, .int .u8 61, .int .u8 97, .int .u8 10] : Array Value)
    have hr : Kd.C (Kd.int .u8) (litW W (#[.int .u8 49, .int .u8 49, .int .u8 32, .int .u8 112, .int .u8 97, .int .u8 116, .int .u8 104, .int .u8 61, .int .u8 97, .int .u8 10] : Array Value)) (some ⟨W.heap.size, 0, none⟩) 10 [49, 49, 32, 112, 97, 116, 104, 61, 97, 10] := by
      refine Kd.C_of_reads (enc := Value.int .u8) (d := (0 : Int)) (h1 := fun _ => rfl) ⟨rfl, by decide, fun _ => ⟨_, rfl, fun j hj => ?_⟩⟩
      rw [add_plain]
      unfold World.cell?
      rw [litW_new]
      have hj' : j = 0 ∨ j = 1 ∨ j = 2 ∨ j = 3 ∨ j = 4 ∨ j = 5 ∨ j = 6 ∨ j = 7 ∨ j = 8 ∨ j = 9 := by omega
      rcases hj' with rfl | rfl | rfl | rfl | rfl | rfl | rfl | rfl | rfl | rfl <;> rfl
    have h := record_Parse.calls k3 (some ⟨W.heap.size, 0, none⟩) 10 [49, 49, 32, 112, 97, 116, 104, 61, 97, 10] _ _ _ ⟨Tabs.below hT hb⟩ hr (by decide) h3
    refine h.mono ?_
    rintro e w' ⟨v, rfl, -, hb2⟩
    refine ⟨v, ?_, hb.trans (hb2.mono hb.size)⟩
    rw [show (strOfNums [49, 49, 32, 112, 97, 116, 104, 61, 97, 10]).data.toList = [49, 49, 32, 112, 97, 116, 104, 61, 97, 10] from rfl, parse_bad]
  have kc := fun (W : World) => litW_conv W (#[.int .u8 49, .int .u8 49, .int .u8 32, .int .u8 112, .int .u8 97, .int .u8 116, .int .u8 104, .int .u8 61, .int .u8 97, .int .u8 10] : Array Value) 10 10
  unfold lineB at c1 kb
  go_enter Tryd.func20, Tryd.ntmps20
  go_wp2_with (first
    | (go_at_call 24; (with_reducible refine (c1 _ hT).mono ?_); rintro e w1 ⟨rfl, hb1⟩; have hT1 := Tabs.below hT hb1)
    | (go_at_call 21; (with_reducible refine (c2 _ hT1).mono ?_); rintro e w2 ⟨g, c, rfl, hc, hb2⟩; have hT2 := Tabs.below hT1 hb2)
    | (go_at_call 21; (with_reducible refine (c3 _ hT2).mono ?_); rintro e w3 ⟨v3, rfl, hb3⟩; have hc3 := (hb3.cell (p := ⟨g, 1, none⟩) (World.block_lt_of_cell? w2 _ hc)).trans hc))
  go_ret
  exact ⟨rfl, (hb1.trans (hb2.mono hb1.size)).trans (hb3.mono (Nat.le_trans hb1.size hb2.size))⟩
end Go.Proofs.YtgjkkhdjfppeiaaDoor
namespace Go.Proofs.YtgjkkhdjfppeiaaDoor.Print
open Go.RowKit Go.Proofs.YtgjkkhdjfppeiaaDoorW.PrintWords
def bindlelaw06_answers.f : Option (Bool) := some true
theorem bindlelaw06_answers.calls (r : Bool) (w : World) (hT : Aside0 (Tabs w)) (h : bindlelaw06_answers.f = some r) :
    Calls Tryd.prog 20 #[] w fun e w' => e = .returned (.bool r) ∧ Below w.heap.size w w' := by
  cases h
  exact answers_calls w hT.out
end Go.Proofs.YtgjkkhdjfppeiaaDoor.Print
