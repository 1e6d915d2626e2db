/-
  RecordPuts, as printed, answers true.
-/
import Derived.Test.YtgjkkhdjfppeiaaDoorRecAll
import Derived.Test.YtgjkkhdjfppeiaaDoorPrint38
namespace Go.Proofs.YtgjkkhdjfppeiaaDoor
open Go.RowKit Go.Proofs.YtgjkkhdjfppeiaaDoor.Print Go.Proofs.YtgjkkhdjfppeiaaDoorW.PrintWords
open Lib (decDigits)
theorem Puts_loop (l : List S42) (hz : ∀ x ∈ l, x.f0.size ≤ 140737488351232 ∧ x.f1.size ≤ 140737488351232) (hlen : l.length ≤ 140737488351232) (d : Nat) : ∀ (i : Nat) (W : ByteArray) (b : Bool), i + d = l.length → b = (l.take i).all mayR → (b = true → W = ofB (linesD (l.take i))) →
    (∀ x ∈ l.take i, x.f0.size + x.f1.size ≤ 2000) → (0 < i → l.length ≤ 30) → Ev (fun k => bindlelaw06_RecordPuts.l0 k l W b (i : Int)) true := by
  induction d with
  | zero =>
    intro i W b hi hb hW hs h30
    rw [List.take_of_length_le (by omega)] at hb hW hs
    have h30 : l.length ≤ 30 := by
      rcases Nat.eq_zero_or_pos i with h | h
      · omega
      · exact h30 h
    obtain ⟨K1, h1⟩ := Put_eq l (fun x hx => by have := hs x hx; unfold Small; rw [kOf_size, vOf_size]; omega) (by omega)
    subst hb
    cases hm : l.all mayR with
    | true =>
      obtain rfl := hW hm
      have hp : putD l = (nb (linesD l), true) := by unfold putD; rw [if_pos hm]
      have hln := lines_len l hm
      obtain ⟨K2, h2⟩ := Parse_eq (nb (linesD l)) (by rw [strOf_sz, nb_len]; omega)
      rw [nb_str, ofB_data, parse_lines l hm] at h2
      simp only [recs_back] at h2
      obtain ⟨K3, h3⟩ := Same_self l (by omega)
      refine ⟨K1 + K2 + K3 + 1, fun k hk => ?_⟩
      dsimp only at *
      obtain ⟨k, rfl⟩ : ∃ m, k = m + 1 := ⟨k - 1, by omega⟩
      show bindlelaw06_RecordPuts.l0 (k + 1) _ _ _ _ = _
      rw [bindlelaw06_RecordPuts.l0, if_neg (by omega), Option.bind_some, if_pos (by simp only [List.length_nil]; omega), List.nil_append, h1 k (by omega), hp]
      rw [Option.bind_some]
      try dsimp only
      rw [if_pos rfl, h2 k (by omega)]
      rw [Option.bind_some]
      try dsimp only
      rw [ansT, Option.bind_some, if_pos rfl, if_pos rfl, if_pos (by rw [nb_str]), if_pos rfl, h3 k (by omega)]
      rfl
    | false =>
      have hp : putD l = ([], false) := by unfold putD; rw [if_neg (by rw [hm]; decide)]
      refine ⟨K1 + 1, fun k hk => ?_⟩
      dsimp only at *
      obtain ⟨k, rfl⟩ : ∃ m, k = m + 1 := ⟨k - 1, by omega⟩
      show bindlelaw06_RecordPuts.l0 (k + 1) _ _ _ _ = _
      rw [bindlelaw06_RecordPuts.l0, if_neg (by omega), Option.bind_some, if_pos (by simp only [List.length_nil]; omega), List.nil_append, h1 k (by omega), hp]
      rw [Option.bind_some]
      try dsimp only
      rw [if_neg (by decide), ansT, Option.bind_some, if_pos rfl, if_neg (by decide)]
      rfl
  | succ d ih =>
    intro i W b hi hb hW hs h30
    have hlt : i < l.length := by omega
    have hzx := hz l[i] (List.getElem_mem hlt)
    have early : ∀ (b : Bool) (W : ByteArray), Ev (fun k => bindlelaw06_RecordPuts.j1 k l W b (i : Int) true) true := fun b W =>
      Ev.step (f := fun _ => some true) (fun k => by rw [bindlelaw06_RecordPuts.j1, if_pos rfl, ansT]; rfl) (Ev.now _)
    have w1 : l[i].f0.size + l[i].f1.size ≤ 4611686018427387904 := by omega
    have hst : (l.take (i + 1)).all mayR = ((l.take i).all mayR && mayR l[i]) := by rw [take_one l i hlt, List.all_append]; simp
    by_cases h31 : l.length > 30
    · refine Ev.step (f := fun k => bindlelaw06_RecordPuts.j1 k l W b (i : Int) true) (fun k => ?_) (early b W)
      rw [bindlelaw06_RecordPuts.l0, if_pos (by omega), if_pos (by omega)]
    · by_cases h2000 : l[i].f0.size + l[i].f1.size > 2000
      · refine Ev.step (f := fun k => bindlelaw06_RecordPuts.j1 k l W b (i : Int) true) (fun k => ?_) (early b W)
        rw [bindlelaw06_RecordPuts.l0, if_pos (by omega), if_neg (by omega), if_pos (by omega), rd_at l i hlt, wadd w1, decide_eq_true (by omega)]
      · refine Ev.step (f := fun k => bindlelaw06_RecordPuts.j1 k l W b (i : Int) false) (fun k => ?_) ?_
        · rw [bindlelaw06_RecordPuts.l0, if_pos (by omega), if_neg (by omega), if_pos (by omega), rd_at l i hlt, wadd w1, decide_eq_false (by omega)]
        have hs' : ∀ x ∈ l.take (i + 1), x.f0.size + x.f1.size ≤ 2000 := by
          intro x hx
          rw [take_one l i hlt] at hx
          rcases List.mem_append.1 hx with hx | hx
          · exact hs x hx
          · rw [List.mem_singleton.1 hx]; omega
        cases hb' : b with
        | false =>
          rw [hb'] at hb
          refine Ev.step (f := fun k => bindlelaw06_RecordPuts.l0 k l W false ((i + 1 : Nat) : Int)) (fun k => ?_) (ih (i + 1) W false (by omega) (by rw [hst, ← hb]; rfl) (fun h => by cases h) hs' (fun _ => by omega))
          rw [bindlelaw06_RecordPuts.j1, if_neg (by decide), if_neg (by decide), wr64 (by omega)]
        | true =>
          have hWe := hW hb'
          rw [hb'] at hb
          obtain ⟨K1, h1⟩ := May_eq l[i].f0 l[i].f1 (by omega) (by omega)
          cases hm : mayR l[i] with
          | true =>
            have hml := may_len hm
            have hm' : mayL l[i].f0.data.toList l[i].f1.data.toList = true := hm
            rw [hm'] at h1
            have hll := lineD_len hml
            have hln := lines_len _ hb.symm
            have hti : (l.take i).length = i := by rw [List.length_take]; omega
            obtain ⟨K2, h2⟩ := Line_eq l[i].f0 l[i].f1 (by omega) (by omega) (lineD_is hml)
            obtain ⟨K3, h3⟩ := ih (i + 1) (W ++ ofB (lineD (kOf l[i]) (vOf l[i]))) true (by omega) (by rw [hst, ← hb, hm]; rfl) (fun _ => by
              rw [hWe, ofB_app, take_one l i hlt, linesD_app]
              congr 1
              rw [linesD_cons]
              simp [linesD]) hs' (fun _ => by omega)
            refine ⟨K1 + K2 + K3 + 1, fun k hk => ?_⟩
            dsimp only at *
            obtain ⟨k, rfl⟩ : ∃ m, k = m + 1 := ⟨k - 1, by omega⟩
            show bindlelaw06_RecordPuts.j1 (k + 1) _ _ _ _ _ = _
            rw [bindlelaw06_RecordPuts.j1, if_neg (by decide), if_pos rfl, if_pos (by omega), if_pos (by omega), rd_at l i hlt, h1 k (by omega)]
            rw [Option.bind_some]
            try dsimp only
            rw [if_pos rfl, h2 k (by omega)]
            rw [Option.bind_some]
            try dsimp only
            rw [if_pos (by
              rw [hWe, ofB_size, ofB_size]
              have : (lineD (kOf l[i]) (vOf l[i])).length ≤ 100013 := by omega
              have : (lineD (l[i].f0.data.toList) (l[i].f1.data.toList)).length ≤ 100013 := this
              omega), wr64 (by omega)]
            exact h3 k (by omega)
          | false =>
            have hm' : mayL l[i].f0.data.toList l[i].f1.data.toList = false := hm
            rw [hm'] at h1
            obtain ⟨K3, h3⟩ := ih (i + 1) W false (by omega) (by rw [hst, ← hb, hm]; rfl) (fun h => by cases h) hs' (fun _ => by omega)
            refine ⟨K1 + K3 + 1, fun k hk => ?_⟩
            dsimp only at *
            obtain ⟨k, rfl⟩ : ∃ m, k = m + 1 := ⟨k - 1, by omega⟩
            show bindlelaw06_RecordPuts.j1 (k + 1) _ _ _ _ _ = _
            rw [bindlelaw06_RecordPuts.j1, if_neg (by decide), if_pos rfl, if_pos (by omega), if_pos (by omega), rd_at l i hlt, h1 k (by omega)]
            rw [Option.bind_some]
            try dsimp only
            rw [if_neg (by decide), wr64 (by omega)]
            exact h3 k (by omega)
theorem RecordPuts_true (l : List S42) (hz : ∀ x ∈ l, x.f0.size ≤ 140737488351232 ∧ x.f1.size ≤ 140737488351232) (hlen : l.length ≤ 140737488351232) : Ev (fun k => bindlelaw06_RecordPuts.f k l) true :=
  Puts_loop l hz hlen l.length 0 _ true (by omega) (by simp) (fun _ => by simp [linesD]; rfl) (fun x hx => by simp at hx) (fun h => absurd h (Nat.lt_irrefl 0))
end Go.Proofs.YtgjkkhdjfppeiaaDoor
