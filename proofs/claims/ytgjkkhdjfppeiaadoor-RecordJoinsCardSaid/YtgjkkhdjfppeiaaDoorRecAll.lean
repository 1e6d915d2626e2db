/-
  Rows of records, plain: their lines, one behind the other, are read again; record.Put is these lines.
-/
import Derived.Test.YtgjkkhdjfppeiaaDoorRecLn
import Derived.Test.YtgjkkhdjfppeiaaDoorHandAns06
import Derived.Test.YtgjkkhdjfppeiaaDoorPrint37
namespace Go.Proofs.YtgjkkhdjfppeiaaDoor
open Go.RowKit Go.Proofs.YtgjkkhdjfppeiaaDoor.Print Go.Proofs.YtgjkkhdjfppeiaaDoorW.PrintWords
open Lib (decDigits)
def kOf (x : S42) : List UInt8 := x.f0.data.toList
def vOf (x : S42) : List UInt8 := x.f1.data.toList
def mayR (x : S42) : Bool := mayL (kOf x) (vOf x)
noncomputable def lineD (k v : List UInt8) : List UInt8 := if h : (bodyL k v).length ≤ 1000000000 then decDigits (len_ex _ h).choose ++ bodyL k v else []
theorem lineD_is {k v : List UInt8} (h : k.length + v.length ≤ 100000) : IsLine k v (lineD k v) := by
  have hb := bodyL_len k v
  have h1 : (bodyL k v).length ≤ 1000000000 := by omega
  unfold lineD
  rw [dif_pos h1]
  exact ⟨_, (len_ex _ h1).choose_spec, rfl⟩
theorem may_len {k v : List UInt8} (h : mayL k v = true) : k.length + v.length ≤ 100000 := by
  unfold mayL at h
  simp only [Bool.and_eq_true, decide_eq_true_eq] at h
  exact h.2
theorem lineD_len {k v : List UInt8} (h : k.length + v.length ≤ 100000) : (lineD k v).length ≤ k.length + v.length + 13 := by
  obtain ⟨N, hN, _, hl⟩ := (lineD_is h).len
  have := hN.le
  have := bodyL_len k v
  omega
noncomputable def linesD (l : List S42) : List UInt8 := (l.map fun x => lineD (kOf x) (vOf x)).flatten
theorem linesD_cons (x : S42) (l : List S42) : linesD (x :: l) = lineD (kOf x) (vOf x) ++ linesD l := rfl
theorem linesD_app (a b : List S42) : linesD (a ++ b) = linesD a ++ linesD b := by
  unfold linesD
  rw [List.map_append, List.flatten_append]
theorem parse_lines : ∀ l : List S42, l.all mayR = true → parseL (linesD l) = (l.map fun x => (kOf x, vOf x), 0)
  | [], _ => rfl
  | x :: l, h => by
    rw [List.all_cons, Bool.and_eq_true] at h
    have ih := parse_lines l h.2
    rw [linesD_cons, parse_cons (lineD_is (may_len h.1)) ((mayL_iff _ _).1 h.1), ih]
    rfl
theorem recs_back (l : List S42) : recs (l.map fun x => (kOf x, vOf x)) = l := by
  unfold recs
  rw [List.map_map]
  have : ((fun p : List UInt8 × List UInt8 => (⟨ofB p.1, ofB p.2⟩ : S42)) ∘ fun x => (kOf x, vOf x)) = id := by
    funext x
    show (⟨ofB x.f0.data.toList, ofB x.f1.data.toList⟩ : S42) = x
    rw [ofB_of, ofB_of]
  rw [this, List.map_id]
/-! Bytes as numbers. -/
def nb (t : List UInt8) : List Int := bytesOf (ofB t)
theorem nb_len (t : List UInt8) : (nb t).length = t.length := by unfold nb; rw [bytesOf_length, ofB_size]
theorem nb_app (a b : List UInt8) : nb (a ++ b) = nb a ++ nb b := by
  unfold nb bytesOf
  rw [ofB_data, ofB_data, ofB_data, List.map_append]
theorem nb_str (t : List UInt8) : strOfNums (nb t) = ofB t := bytes_str (ofB t)
theorem rd_at (l : List S42) (i : Nat) (hi : i < l.length) : rd_T42 l (i : Int) = l[i] := by
  unfold rd_T42
  rw [Int.toNat_natCast, List.getD_eq_getElem?_getD, List.getElem?_eq_getElem hi]
  rfl
theorem take_one (l : List S42) (i : Nat) (hi : i < l.length) : l.take (i + 1) = l.take i ++ [l[i]] := by
  rw [List.take_add_one, List.getElem?_eq_getElem hi]
  rfl
theorem wr64 {n : Nat} (h : n ≤ 4611686018427387904) : wrap64 ((n : Int) + 1) = ((n + 1 : Nat) : Int) := by unfold wrap64; omega
theorem wadd {a b : Nat} (h : a + b ≤ 4611686018427387904) : wrap64 ((a : Int) + (b : Int)) = ((a + b : Nat) : Int) := by unfold wrap64; omega
theorem wsub {a b : Nat} (h : b ≤ a) (h2 : a ≤ 4611686018427387904) : wrap64 ((a : Int) - (b : Int)) = ((a - b : Nat) : Int) := by unfold wrap64; omega
theorem wid {a : Nat} (h : a ≤ 4611686018427387904) : wrap64 (a : Int) = (a : Int) := by unfold wrap64; omega
/-- A record that is not long. -/
def Small (x : S42) : Prop := (kOf x).length + (vOf x).length ≤ 50000000
theorem kOf_size (x : S42) : (kOf x).length = x.f0.size := by simp [kOf]
theorem vOf_size (x : S42) : (vOf x).length = x.f1.size := by simp [vOf]
theorem lines_len (l : List S42) (h : l.all mayR = true) : (linesD l).length ≤ l.length * 100013 := by
  induction l with
  | nil => simp [linesD]
  | cons x l ih =>
    rw [List.all_cons, Bool.and_eq_true] at h
    have h1 := may_len h.1
    have h2 := lineD_len h1
    have h3 := ih h.2
    rw [linesD_cons, List.length_append, List.length_cons]
    omega
noncomputable def putD (l : List S42) : List Int × Bool := if l.all mayR = true then (nb (linesD l), true) else ([], false)
theorem Put_loop (l : List S42) (hs : ∀ x ∈ l, Small x) (hl : l.length ≤ 100000) (d : Nat) : ∀ i : Nat, i + d = l.length → (l.take i).all mayR = true →
    Ev (fun k => record_Put.l0 k (nb (linesD (l.take i))) l (l.length : Int) (i : Int)) (putD l) := by
  induction d with
  | zero =>
    intro i hi ha
    refine Ev.step (fun k => ?_) (Ev.now _)
    rw [record_Put.l0, if_neg (by omega)]
    rw [List.take_of_length_le (by omega)] at ha ⊢
    unfold putD
    rw [if_pos ha]
  | succ d ih =>
    intro i hi ha
    have hlt : i < l.length := by omega
    have hx := hs l[i] (List.getElem_mem hlt)
    unfold Small at hx
    rw [kOf_size, vOf_size] at hx
    have hln := lines_len _ ha
    have hti : (l.take i).length = i := by rw [List.length_take]; omega
    cases hm : mayR l[i] with
    | true =>
      obtain ⟨K1, h1⟩ := RLine_yes l[i].f0 l[i].f1 (by omega) (by omega) hm (lineD_is (may_len hm))
      have h3 := lineD_len (may_len hm)
      have h4 := may_len hm
      have ha2 : (l.take (i + 1)).all mayR = true := by rw [take_one l i hlt, List.all_append, ha]; simp [hm]
      obtain ⟨K2, h2⟩ := ih (i + 1) (by omega) ha2
      refine ⟨K1 + K2 + 1, fun k hk => ?_⟩
      dsimp only at *
      obtain ⟨k, rfl⟩ : ∃ m, k = m + 1 := ⟨k - 1, by omega⟩
      have h5 := h2 k (by omega)
      rw [take_one l i hlt, linesD_app, nb_app] at h5
      show record_Put.l0 (k + 1) _ _ _ _ = _
      rw [record_Put.l0, if_pos (by omega), if_pos (by omega), if_pos (by omega), rd_at l i hlt, h1 k (by omega)]
      rw [Option.bind_some]
      try dsimp only
      rw [if_pos rfl, if_pos (by
        rw [nb_len, ofB_size]
        have : (lineD (l[i].f0.data.toList) (l[i].f1.data.toList)).length ≤ 100013 := Nat.le_trans h3 (by omega)
        have : (l.take i).length * 100013 ≤ 100000 * 100013 := Nat.mul_le_mul_right _ (by omega)
        omega), wr64 (by omega)]
      have e : linesD [l[i]] = lineD (l[i].f0.data.toList) (l[i].f1.data.toList) := by rw [linesD_cons]; exact List.append_nil _
      rw [e] at h5
      exact h5
    | false =>
      obtain ⟨K1, h1⟩ := RLine_no l[i].f0 l[i].f1 (by omega) (by omega) hm
      refine ⟨K1 + 1, fun k hk => ?_⟩
      dsimp only at *
      obtain ⟨k, rfl⟩ : ∃ m, k = m + 1 := ⟨k - 1, by omega⟩
      show record_Put.l0 (k + 1) _ _ _ _ = _
      rw [record_Put.l0, if_pos (by omega), if_pos (by omega), if_pos (by omega), rd_at l i hlt, h1 k (by omega)]
      rw [Option.bind_some]
      try dsimp only
      rw [if_neg (by decide)]
      unfold putD
      rw [if_neg (by
        intro hall
        rw [List.all_eq_true] at hall
        have := hall l[i] (List.getElem_mem hlt)
        rw [hm] at this
        cases this)]
/-- **record.Put is the lines.** -/
theorem Put_eq (l : List S42) (hs : ∀ x ∈ l, Small x) (hl : l.length ≤ 100000) : Ev (fun k => record_Put.f k l) (putD l) := by
  have h := Put_loop l hs hl l.length 0 (by omega) (by simp)
  exact h
theorem ansT : bindlelaw06_answers.f = some true := rfl
theorem strOf_sz (xs : List Int) : (strOfNums xs).size = xs.length := by
  unfold strOfNums
  simp [ByteArray.size]
end Go.Proofs.YtgjkkhdjfppeiaaDoor
