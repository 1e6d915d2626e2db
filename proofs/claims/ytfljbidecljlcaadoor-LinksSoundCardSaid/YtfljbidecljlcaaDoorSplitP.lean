/-
  WHAT strings.SplitSeq(s, "/") GIVES, as plain lists of bytes.
-/
import Derived.Lib.Bytealg
import Derived.Lib.IndexBytes
import Derived.Lib.Strings
namespace Go.Proofs.YtfljbidecljlcaaDoor
/-- The pieces of a text between its bytes 47. -/
def splitB : List UInt8 → List (List UInt8)
  | [] => [[]]
  | c :: r => if c = 47 then [] :: splitB r else match splitB r with
      | [] => [[c]]
      | p :: ps => (c :: p) :: ps
theorem splitB_ne (l : List UInt8) : splitB l ≠ [] := by
  cases l with
  | nil => simp [splitB]
  | cons c r =>
    simp only [splitB]
    split
    · simp
    · split <;> simp
def ofL (l : List UInt8) : ByteArray := ⟨l.toArray⟩
def splitS (s : ByteArray) : List ByteArray := (splitB s.data.toList).map ofL
theorem indexByte_cases (l : List UInt8) : (Lib.indexByte l 47 = -1 ∧ splitB l = [l]) ∨
    ∃ i : Nat, Lib.indexByte l 47 = i ∧ i < l.length ∧ splitB l = l.take i :: splitB (l.drop (i + 1)) := by
  induction l with
  | nil => exact .inl ⟨rfl, rfl⟩
  | cons c r ih =>
    by_cases hc : c = 47
    · subst hc
      exact .inr ⟨0, by simp [Lib.indexByte], by simp, by simp [splitB]⟩
    · have hb : (c == 47) = false := by simpa using hc
      rcases ih with ⟨h1, h2⟩ | ⟨i, h1, h2, h3⟩
      · left
        refine ⟨by simp [Lib.indexByte, hb, h1], ?_⟩
        simp [splitB, hc, h2]
      · right
        refine ⟨i + 1, ?_, by simp; omega, ?_⟩
        · have : ¬ ((i : Int) = -1) := by omega
          simp [Lib.indexByte, hb, h1, this]
        · simp [splitB, hc, h3]
theorem ofL_data (s : ByteArray) : ofL s.data.toList = s := by
  cases s; simp [ofL]
theorem data_ofL (l : List UInt8) : (ofL l).data.toList = l := by simp [ofL]
theorem ofL_inj {a b : List UInt8} : ofL a = ofL b ↔ a = b := ⟨fun h => by have := congrArg (fun x => x.data.toList) h; simpa [ofL] using this, fun h => by rw [h]⟩
theorem ext_data (s : ByteArray) (a b : Nat) : (s.extract a b).data.toList = (s.data.toList.take b).drop a := by
  rw [ByteArray.data_extract]
  simp [List.extract_eq_take_drop, List.drop_take]
theorem splitS_cases (s : ByteArray) : (Lib.indexByte s.data.toList 47 = -1 ∧ splitS s = [s]) ∨
    ∃ i : Nat, Lib.indexByte s.data.toList 47 = i ∧ i < s.size ∧ splitS s = s.extract 0 i :: splitS (s.extract (i + 1) s.size) := by
  rcases indexByte_cases s.data.toList with ⟨h1, h2⟩ | ⟨i, h1, h2, h3⟩
  · exact .inl ⟨h1, by simp [splitS, h2, ofL_data]⟩
  · refine .inr ⟨i, h1, by simpa using h2, ?_⟩
    have e1 : s.extract 0 i = ofL (s.data.toList.take i) := by
      rw [← ofL_data (s.extract 0 i), ext_data]; simp
    have e2 : (s.extract (i + 1) s.size).data.toList = s.data.toList.drop (i + 1) := by
      rw [ext_data, List.take_of_length_le (by simp)]
    unfold splitS
    rw [h3, e2, List.map_cons, e1]
end Go.Proofs.YtfljbidecljlcaaDoor
