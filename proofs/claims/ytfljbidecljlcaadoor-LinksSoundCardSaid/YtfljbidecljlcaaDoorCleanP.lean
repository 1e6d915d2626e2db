/-
  path.Clean, as a plain function.
-/
import Derived.Test.YtfljbidecljlcaaDoorTabs
import Derived.Test.YtfljbidecljlcaaDoorSplitP
import Derived.Lib.Join
namespace Go.Proofs.YtfljbidecljlcaaDoor
/-- Does a part count? -/
def keepP (p : ByteArray) : Bool := !(p.toList == []) && !(p.toList == [46])
def partsOf (ps : List ByteArray) : List ByteArray := ps.filter keepP
def isUp (p : ByteArray) : Bool := p.toList == [46, 46]
def outOf (s : ByteArray) : ByteArray := ⟨(Lib.join ((partsOf (splitS s)).map (·.data.toList)) [47]).toArray⟩
/-- What Clean answers: the path and the error's number. -/
def cleanF (s : ByteArray) : ByteArray × Int :=
  if rightB s = false then (⟨#[]⟩, 9) else if Lib.hasPrefix s.data.toList [47] = true then (⟨#[]⟩, 6)
  else if (splitS s).any isUp = true then (⟨#[]⟩, 6)
  else if (outOf s).toList == [] || decide (200 < (outOf s).size) then (⟨#[]⟩, 6) else (outOf s, 0)
theorem partsOf_hit {pre : List ByteArray} {x : ByteArray} (h1 : (x.toList == []) = false) (h2 : (x.toList == [46]) = false) : partsOf (pre ++ [x]) = partsOf pre ++ [x] := by
  simp only [partsOf, List.filter_append, List.filter_cons, keepP, h1, h2]
  simp
theorem partsOf_miss {pre : List ByteArray} {x : ByteArray} (h : (x.toList == []) = true ∨ (x.toList == [46]) = true) : partsOf (pre ++ [x]) = partsOf pre := by
  simp only [partsOf, List.filter_append, List.filter_cons, keepP]
  rcases h with h | h <;> simp [h]
theorem any_snoc {pre : List ByteArray} {x : ByteArray} (h : pre.any isUp = false) (hx : (x.toList == [46, 46]) = false) : (pre ++ [x]).any isUp = false := by
  simp only [List.any_append, h, Bool.false_or, List.any_cons, List.any_nil, Bool.or_false]
  exact hx
theorem any_prefix {pre xs : List ByteArray} {x : ByteArray} (h : pre ++ [x] <+: xs) (hx : (x.toList == [46, 46]) = true) : xs.any isUp = true :=
  List.any_eq_true.2 ⟨x, h.subset (by simp), hx⟩
/-! Sizes: what is put together again is no longer than what was there. -/
theorem splitB_total (l : List UInt8) : ((splitB l).map List.length).sum + (splitB l).length = l.length + 1 := by
  induction l with
  | nil => simp [splitB]
  | cons c r ih =>
    simp only [splitB]
    split
    · simp; omega
    · have h := splitB_ne r
      cases hs : splitB r with
      | nil => exact absurd hs h
      | cons p ps => rw [hs] at ih; simp at ih ⊢; omega
theorem sum_filter_le (f : ByteArray → Bool) (l : List ByteArray) : ((l.filter f).map (fun x => x.data.toList.length)).sum + (l.filter f).length ≤ (l.map (fun x => x.data.toList.length)).sum + l.length := by
  induction l with
  | nil => simp
  | cons x l ih =>
    simp only [List.filter_cons, List.map_cons, List.sum_cons, List.length_cons]
    split
    · simp only [List.map_cons, List.sum_cons, List.length_cons]; omega
    · omega
theorem join_len (xs : List (List UInt8)) : (Lib.join xs [47]).length ≤ (xs.map List.length).sum + xs.length := by
  unfold Lib.join
  induction xs with
  | nil => simp [List.intercalate]
  | cons a xs ih =>
    cases xs with
    | nil => simp [List.intercalate]
    | cons b xs =>
      simp [List.intercalate, List.intersperse] at ih ⊢
      omega
theorem splitS_total (s : ByteArray) : ((splitS s).map (fun x => x.data.toList.length)).sum + (splitS s).length = s.size + 1 := by
  have h := splitB_total s.data.toList
  have e : (splitS s).map (fun x => x.data.toList.length) = (splitB s.data.toList).map List.length := by
    simp only [splitS, List.map_map, Function.comp_def, data_ofL]
  rw [e]
  simp only [splitS, List.length_map]
  simpa using h
theorem parts_total (s : ByteArray) : ((partsOf (splitS s)).map (fun x => x.data.toList.length)).sum + (partsOf (splitS s)).length ≤ s.size + 1 := by
  have h1 := sum_filter_le keepP (splitS s)
  have h2 := splitS_total s
  unfold partsOf
  omega
theorem parts_len (s : ByteArray) : (partsOf (splitS s)).length ≤ s.size + 1 := by have := parts_total s; omega
theorem prefix_len {pre : List ByteArray} {s : ByteArray} (h : pre <+: splitS s) : (partsOf pre).length ≤ s.size + 1 := by
  have h1 : (partsOf pre).length ≤ pre.length := List.length_filter_le _ _
  have h2 := h.length_le
  have h3 := splitS_total s
  omega
theorem out_len (s : ByteArray) : (Lib.join ((partsOf (splitS s)).map (·.data.toList)) [47]).length ≤ s.size + 1 := by
  refine Nat.le_trans (join_len _) ?_
  have := parts_total s
  simpa [List.map_map, Function.comp_def] using this
end Go.Proofs.YtfljbidecljlcaaDoor
