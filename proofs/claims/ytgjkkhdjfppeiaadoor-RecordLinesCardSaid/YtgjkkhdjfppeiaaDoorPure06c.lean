/-
  RecordLines and RecordCut, as printed, answer true.
-/
import Derived.Test.YtgjkkhdjfppeiaaDoorRecAll
import Derived.Test.YtgjkkhdjfppeiaaDoorPrint34
import Derived.Test.YtgjkkhdjfppeiaaDoorPrint36
namespace Go.Proofs.YtgjkkhdjfppeiaaDoor
open Go.RowKit Go.Proofs.YtgjkkhdjfppeiaaDoor.Print Go.Proofs.YtgjkkhdjfppeiaaDoorW.PrintWords
open Lib (decDigits)
theorem conv_f (t : List UInt8) (h : t.length ≤ 140737488351232) : str_bytes.f (ofB t) = some (nb t) := by
  unfold str_bytes.f
  rw [if_pos (by rw [ofB_size]; exact h)]
  rfl
theorem RecordLines_true (a b : ByteArray) (ha : a.size ≤ 140737488351232) (hb : b.size ≤ 140737488351232) : Ev (fun k => bindlelaw06_RecordLines.f k a b) true := by
  have w : a.size + b.size ≤ 4611686018427387904 := by omega
  have la : a.data.toList.length = a.size := by simp
  have lb : b.data.toList.length = b.size := by simp
  by_cases h : a.size + b.size > 200000
  · exact Ev.congr (fun k => by unfold bindlelaw06_RecordLines.f; rw [wadd w, if_pos (by omega), ansT]; rfl) (Ev.now true)
  · obtain ⟨K1, h1⟩ := May_eq a b (by omega) (by omega)
    cases hm : mayL a.data.toList b.data.toList with
    | false =>
      rw [hm] at h1
      obtain ⟨K2, h2⟩ := RLine_no a b (by omega) (by omega) hm
      refine ⟨K1 + K2, fun k hk => ?_⟩
      dsimp only at *
      show bindlelaw06_RecordLines.f k a b = some true
      unfold bindlelaw06_RecordLines.f
      rw [wadd w, if_neg (by omega), h2 k (by omega)]
      rw [Option.bind_some]
      try dsimp only
      rw [h1 k (by omega)]
      rw [Option.bind_some]
      try dsimp only
      rw [if_neg (by decide), ansT, Option.bind_some, if_pos rfl, if_neg (by decide), ofB_toList]
      rfl
    | true =>
      rw [hm] at h1
      have hl := lineD_is (may_len hm)
      have hll := lineD_len (may_len hm)
      obtain ⟨K2, h2⟩ := RLine_yes a b (by omega) (by omega) hm hl
      obtain ⟨K3, h3⟩ := Line_eq a b (by omega) (by omega) hl
      obtain ⟨K4, h4⟩ := Parse_eq (nb (lineD a.data.toList b.data.toList)) (by rw [nb_str, ofB_size]; omega)
      have hp := parse_lines [(⟨a, b⟩ : S42)] (by simp [mayR, kOf, vOf, hm])
      have e1 : linesD [(⟨a, b⟩ : S42)] = lineD a.data.toList b.data.toList := by rw [linesD_cons]; exact List.append_nil _
      rw [e1] at hp
      rw [nb_str, ofB_data, hp] at h4
      have e2 := recs_back [(⟨a, b⟩ : S42)]
      rw [e2] at h4
      refine ⟨K1 + K2 + K3 + K4, fun k hk => ?_⟩
      dsimp only at *
      show bindlelaw06_RecordLines.f k a b = some true
      unfold bindlelaw06_RecordLines.f
      rw [wadd w, if_neg (by omega), h2 k (by omega)]
      rw [Option.bind_some]
      try dsimp only
      rw [h1 k (by omega)]
      rw [Option.bind_some]
      try dsimp only
      rw [if_pos rfl, conv_f _ (by omega)]
      rw [Option.bind_some]
      try dsimp only
      rw [h4 k (by omega)]
      rw [Option.bind_some]
      try dsimp only
      rw [ansT, Option.bind_some, if_pos rfl, if_pos rfl, h3 k (by omega)]
      rw [Option.bind_some]
      try dsimp only
      rw [if_pos rfl, if_pos rfl, if_pos (by simp), if_pos (by simp)]
      have e3 : rd_T42 [(⟨a, b⟩ : S42)] 0 = ⟨a, b⟩ := rfl
      rw [e3]
      simp
/-! RecordCut -/
theorem parse_before : ∀ (l : List S42) (rest : List UInt8), l.all mayR = true →
    parseL (linesD l ++ rest) = if (parseL rest).2 = 0 then ((l.map fun x => (kOf x, vOf x)) ++ (parseL rest).1, 0) else ([], (parseL rest).2)
  | [], rest, _ => by
    show parseL rest = _
    by_cases h : (parseL rest).2 = 0
    · rw [if_pos h]; exact Prod.ext rfl h
    · rw [if_neg h]
      exact Prod.ext (parseN_err _ _ h) rfl
  | x :: l, rest, h => by
    rw [List.all_cons, Bool.and_eq_true] at h
    have ih := parse_before l rest h.2
    rw [linesD_cons, List.append_assoc, parse_cons (lineD_is (may_len h.1)) ((mayL_iff _ _).1 h.1), ih]
    by_cases h2 : (parseL rest).2 = 0
    · rw [if_pos h2, if_pos h2]
      rfl
    · rw [if_neg h2, if_neg h2]
      simp only
      rw [if_neg h2]
theorem lineD_pos {k v : List UInt8} (h : mayL k v = true) : 0 < (lineD k v).length := by
  obtain ⟨N, hN, _, hl⟩ := (lineD_is (may_len h)).len
  have := hN.gt
  omega
theorem ofB_take (t : List UInt8) (n : Nat) : (ofB t).extract 0 n = ofB (t.take n) := by
  rw [ext_list, ofB_data, List.drop_zero]
theorem Cut_end (l : List S42) (cut : Int) (hc0 : 0 ≤ cut) (hc1 : cut < 65536) (hm : l.all mayR = true) (hl : l.length ≤ 20 ∨ l = []) (last : Nat) (hlast : ∀ p x, l = p ++ [x] → last = (linesD p).length) (i : Nat) (hi : l.length ≤ i) (hi2 : i ≤ 140737488351232) :
    Ev (fun k => bindlelaw06_RecordCut.l0 k l cut (ofB (linesD l)) (last : Int) (i : Int)) true := by
  rcases List.eq_nil_or_concat l with h0 | ⟨p, x, hpx⟩
  · subst h0
    refine Ev.step (f := fun _ => some true) (fun k => ?_) (Ev.now _)
    rw [bindlelaw06_RecordCut.l0, if_neg (by simp only [List.length_nil]; omega), if_pos (by simp [linesD, ofB_size]), ansT]
    rfl
  · rw [List.concat_eq_append] at hpx
    have hla := hlast p x hpx
    have hm' := hm
    rw [hpx, List.all_append, Bool.and_eq_true] at hm'
    have hx : mayR x = true := by have := hm'.2; simpa using this
    have hxl := lineD_pos (k := kOf x) (v := vOf x) hx
    have hxz := lineD_len (may_len (k := kOf x) (v := vOf x) hx)
    have hxm := may_len (k := kOf x) (v := vOf x) hx
    have hT : linesD l = linesD p ++ lineD (kOf x) (vOf x) := by
      rw [hpx, linesD_app]
      congr 1
      rw [linesD_cons]; exact List.append_nil _
    have hTl : (linesD l).length = last + (lineD (kOf x) (vOf x)).length := by rw [hT, List.length_append, hla]
    have hln := lines_len l hm
    have hl20 : l.length ≤ 20 := by
      rcases hl with h | h
      · exact h
      · rw [h] at hpx; simp at hpx
    generalize hn : (linesD l).length = n at *
    have hpl : last < n := by omega
    have hsz : (ofB (linesD l)).size = n := by rw [ofB_size, hn]
    obtain ⟨c, rfl⟩ := Int.eq_ofNat_of_zero_le hc0
    have w3 : Int.tmod (c : Int) ((n - last : Nat) : Int) = ((c % (n - last) : Nat) : Int) := by
      rw [Int.tmod_eq_emod_of_nonneg (by omega)]
      simp
    have hmod : c % (n - last) < n - last := Nat.mod_lt _ (by omega)
    generalize c % (n - last) = m at *
    have htk : (linesD l).take (last + 1 + m) = linesD p ++ (lineD (kOf x) (vOf x)).take (m + 1) := by
      rw [hT, List.take_append, hla, List.take_of_length_le (by omega)]
      congr 2
      omega
    obtain ⟨K1, h1⟩ := Parse_eq (nb ((linesD l).take (last + 1 + m))) (by rw [nb_str, ofB_size, List.length_take]; omega)
    rw [nb_str, ofB_data] at h1
    have start : ∀ k, bindlelaw06_RecordCut.l0 (k + 1) l (c : Int) (ofB (linesD l)) (last : Int) (i : Int) =
        (record_Parse.f k (nb ((linesD l).take (last + 1 + m)))).bind fun bt => if ((last + 1 + m : Nat) : Int) = (n : Int) then (bindlelaw06_answers.f).bind fun t249 => (if t249 = true then (if bt.2 = 0 then (some ((bt.1.length : Int) == (l.length : Int))) else (some false)) else (some false)) else ((bindlelaw06_answers.f).bind fun t250 => (if t250 = true then (if bt.2 = 5 then (some ((bt.1.length : Int) == 0)) else (some false)) else (some false))) := by
      intro k
      rw [bindlelaw06_RecordCut.l0, if_neg (by omega), hsz, if_neg (by omega), wsub (by omega) (by omega), if_neg (by omega), wr64 (by omega), wid (by omega), w3, wadd (by omega), if_pos (by omega), if_pos (by omega), Int.toNat_natCast, ofB_take, conv_f _ (by rw [List.length_take]; omega)]
      rw [Option.bind_some]
      try dsimp only
    by_cases hk : last + 1 + m = n
    · have e : (linesD l).take (last + 1 + m) = linesD l := List.take_of_length_le (by omega)
      rw [e, parse_lines l hm] at h1
      refine ⟨K1 + 1, fun k hk' => ?_⟩
      dsimp only at *
      obtain ⟨k, rfl⟩ : ∃ m, k = m + 1 := ⟨k - 1, by omega⟩
      show bindlelaw06_RecordCut.l0 (k + 1) _ _ _ _ _ = _
      rw [start, e, h1 k (by omega)]
      rw [Option.bind_some]
      try dsimp only
      rw [if_pos (by omega), ansT, Option.bind_some, if_pos rfl, if_pos rfl, recs_back]
      simp
    · have hcut := parse_cut (lineD_is hxm) (m + 1) (by omega) (by omega)
      rw [htk, parse_before p _ hm'.1, hcut] at h1
      simp only at h1
      rw [if_neg (by decide)] at h1
      refine ⟨K1 + 1, fun k hk' => ?_⟩
      dsimp only at *
      obtain ⟨k, rfl⟩ : ∃ m, k = m + 1 := ⟨k - 1, by omega⟩
      show bindlelaw06_RecordCut.l0 (k + 1) _ _ _ _ _ = _
      rw [start, htk, h1 k (by omega)]
      rw [Option.bind_some]
      try dsimp only
      rw [if_neg (by omega), ansT, Option.bind_some, if_pos rfl, if_pos rfl]
      rfl
theorem Cut_loop (l : List S42) (hz : ∀ x ∈ l, x.f0.size ≤ 140737488351232 ∧ x.f1.size ≤ 140737488351232) (hlen : l.length ≤ 140737488351232) (cut : Int) (hc0 : 0 ≤ cut) (hc1 : cut < 65536) (d : Nat) : ∀ (i last : Nat), i + d = l.length → (l.take i).all mayR = true → (0 < i → l.length ≤ 20) → (∀ p x, l.take i = p ++ [x] → last = (linesD p).length) →
    Ev (fun k => bindlelaw06_RecordCut.l0 k l cut (ofB (linesD (l.take i))) (last : Int) (i : Int)) true := by
  induction d with
  | zero =>
    intro i last hi hm h20 hlast
    rw [List.take_of_length_le (by omega)] at hm hlast ⊢
    refine Cut_end l cut hc0 hc1 hm ?_ last hlast i (by omega) (by omega)
    rcases Nat.eq_zero_or_pos i with h | h
    · exact .inr (List.eq_nil_of_length_eq_zero (by omega))
    · exact .inl (h20 h)
  | succ d ih =>
    intro i last hi hm h20 hlast
    have hlt : i < l.length := by omega
    have hzx := hz l[i] (List.getElem_mem hlt)
    have early : ∀ (b : Bool) (W : ByteArray), Ev (fun k => bindlelaw06_RecordCut.j1 k l cut W (i : Int) true) true := fun b W =>
      Ev.step (f := fun _ => some true) (fun k => by rw [bindlelaw06_RecordCut.j1, if_pos rfl, ansT]; rfl) (Ev.now _)
    obtain ⟨K0, h0⟩ := early true (ofB (linesD (l.take i)))
    obtain ⟨K1, h1⟩ := May_eq l[i].f0 l[i].f1 (by omega) (by omega)
    have hrd := rd_at l i hlt
    cases hmi : mayR l[i] with
    | false =>
      have hm' : mayL l[i].f0.data.toList l[i].f1.data.toList = false := hmi
      rw [hm'] at h1
      refine ⟨K0 + K1 + 1, fun k hk => ?_⟩
      dsimp only at *
      obtain ⟨k, rfl⟩ : ∃ m, k = m + 1 := ⟨k - 1, by omega⟩
      show bindlelaw06_RecordCut.l0 (k + 1) _ _ _ _ _ = _
      rw [bindlelaw06_RecordCut.l0, if_pos (by omega), if_pos (by omega), hrd, h1 k (by omega)]
      rw [Option.bind_some]
      try dsimp only
      rw [if_neg (by decide)]
      exact h0 k (by omega)
    | true =>
      have hm' : mayL l[i].f0.data.toList l[i].f1.data.toList = true := hmi
      rw [hm'] at h1
      by_cases c1 : l.length > 20
      · refine ⟨K0 + K1 + 1, fun k hk => ?_⟩
        dsimp only at *
        obtain ⟨k, rfl⟩ : ∃ m, k = m + 1 := ⟨k - 1, by omega⟩
        show bindlelaw06_RecordCut.l0 (k + 1) _ _ _ _ _ = _
        rw [bindlelaw06_RecordCut.l0, if_pos (by omega), if_pos (by omega), hrd, h1 k (by omega)]
        rw [Option.bind_some]
        try dsimp only
        rw [if_pos rfl, if_pos (by omega)]
        exact h0 k (by omega)
      · by_cases c2 : l[i].f1.size > 500
        · refine ⟨K0 + K1 + 1, fun k hk => ?_⟩
          dsimp only at *
          obtain ⟨k, rfl⟩ : ∃ m, k = m + 1 := ⟨k - 1, by omega⟩
          show bindlelaw06_RecordCut.l0 (k + 1) _ _ _ _ _ = _
          rw [bindlelaw06_RecordCut.l0, if_pos (by omega), if_pos (by omega), hrd, h1 k (by omega)]
          rw [Option.bind_some]
          try dsimp only
          rw [if_pos rfl, if_neg (by omega), if_pos (by omega)]
          exact h0 k (by omega)
        · by_cases c3 : l[i].f0.size > 500
          · refine ⟨K0 + K1 + 1, fun k hk => ?_⟩
            dsimp only at *
            obtain ⟨k, rfl⟩ : ∃ m, k = m + 1 := ⟨k - 1, by omega⟩
            show bindlelaw06_RecordCut.l0 (k + 1) _ _ _ _ _ = _
            rw [bindlelaw06_RecordCut.l0, if_pos (by omega), if_pos (by omega), hrd, h1 k (by omega)]
            rw [Option.bind_some]
            try dsimp only
            rw [if_pos rfl, if_neg (by omega), if_neg (by omega), decide_eq_true (by omega)]
            exact h0 k (by omega)
          · have hst : (l.take (i + 1)).all mayR = true := by rw [take_one l i hlt, List.all_append, hm]; simp [hmi]
            obtain ⟨K2, h2⟩ := Line_eq l[i].f0 l[i].f1 (by omega) (by omega) (lineD_is (may_len hm'))
            obtain ⟨K3, h3⟩ := ih (i + 1) (linesD (l.take i)).length (by omega) hst (fun _ => by omega) (fun p x hpx => by
              rw [take_one l i hlt] at hpx
              have := (List.append_inj' hpx rfl).1
              rw [this])
            have hln := lines_len _ hm
            have hti : (l.take i).length = i := by rw [List.length_take]; omega
            have hll := lineD_len (may_len hm')
            have hml := may_len hm'
            have e : linesD (l.take (i + 1)) = linesD (l.take i) ++ lineD l[i].f0.data.toList l[i].f1.data.toList := by
              rw [take_one l i hlt, linesD_app]
              congr 1
              rw [linesD_cons]; exact List.append_nil _
            rw [e, ← ofB_app] at h3
            refine ⟨K1 + K2 + K3 + 2, fun k hk => ?_⟩
            dsimp only at *
            obtain ⟨k, rfl⟩ : ∃ m, k = m + 2 := ⟨k - 2, by omega⟩
            show bindlelaw06_RecordCut.l0 (k + 1 + 1) _ _ _ _ _ = _
            rw [bindlelaw06_RecordCut.l0, if_pos (by omega), if_pos (by omega), hrd, h1 (k + 1) (by omega)]
            rw [Option.bind_some]
            try dsimp only
            rw [if_pos rfl, if_neg (by omega), if_neg (by omega), decide_eq_false (by omega)]
            rw [bindlelaw06_RecordCut.j1, if_neg (by decide), if_pos (by omega), if_pos (by omega), hrd, h2 k (by omega)]
            rw [Option.bind_some]
            try dsimp only
            rw [if_pos (by rw [ofB_size, ofB_size]; omega), wr64 (by omega), ofB_size]
            exact h3 k (by omega)
theorem RecordCut_true (l : List S42) (hz : ∀ x ∈ l, x.f0.size ≤ 140737488351232 ∧ x.f1.size ≤ 140737488351232) (hlen : l.length ≤ 140737488351232) (cut : Int) (hc0 : 0 ≤ cut) (hc1 : cut < 65536) : Ev (fun k => bindlelaw06_RecordCut.f k l cut) true := by
  have h := Cut_loop l hz hlen cut hc0 hc1 l.length 0 0 (by omega) (by simp) (fun h => absurd h (Nat.lt_irrefl 0)) (fun p x h => by simp at h)
  exact h
end Go.Proofs.YtgjkkhdjfppeiaaDoor
