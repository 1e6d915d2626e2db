/-
  path.Clean over lists of bytes: its laws.
-/
import Derived.Test.YtfljbidecljlcaaDoorCleanP
import Derived.Test.YtfljbidecljlcaaDoorGoodP
namespace Go.Proofs.YtfljbidecljlcaaDoor
def keepL (p : List UInt8) : Bool := !(p == []) && !(p == [46])
def kept (l : List UInt8) : List (List UInt8) := (splitB l).filter keepL
def joinL (ps : List (List UInt8)) : List UInt8 := Lib.join ps [47]
/-- Clean, over lists. -/
def cleanL (l : List UInt8) : List UInt8 × Int :=
  if goodL l = false then ([], 9) else if l.head? = some 47 then ([], 6)
  else if (splitB l).any (· == [46, 46]) = true then ([], 6)
  else if joinL (kept l) = [] ∨ 200 < (joinL (kept l)).length then ([], 6) else (joinL (kept l), 0)
theorem partsOf_ofL (ps : List (List UInt8)) : partsOf (ps.map ofL) = (ps.filter keepL).map ofL := by
  unfold partsOf
  rw [List.filter_map]
  congr 1
  apply List.filter_congr
  intro p _
  simp only [Function.comp_apply, keepP, keepL, Lib.toList_data, data_ofL]
theorem any_ofL (ps : List (List UInt8)) : (ps.map ofL).any isUp = ps.any (· == [46, 46]) := by
  rw [List.any_map]
  congr 1
  funext p
  simp only [Function.comp_apply, isUp, Lib.toList_data, data_ofL]
theorem outOf_ofL (s : ByteArray) : outOf s = ofL (joinL (kept s.data.toList)) := by
  unfold outOf splitS kept joinL
  rw [partsOf_ofL, List.map_map]
  have e : (fun x : ByteArray => x.data.toList) ∘ ofL = id := by funext x; simp [data_ofL]
  rw [e, List.map_id]
  rfl
theorem prefix_head (l : List UInt8) : Lib.hasPrefix l [47] = decide (l.head? = some 47) := by
  cases l with
  | nil => rfl
  | cons a t =>
    simp only [Lib.hasPrefix, List.isPrefixOf, List.head?_cons, Option.some.injEq]
    by_cases h : a = 47
    · subst h; simp
    · have : (47 == a) = false := by simpa using fun e => h e.symm
      simp [this, h]
theorem size_ofL (l : List UInt8) : (ofL l).size = l.length := by simp [ofL, ByteArray.size]
/-- **cleanF is cleanL.** -/
theorem cleanF_L (s : ByteArray) : cleanF s = (ofL (cleanL s.data.toList).1, (cleanL s.data.toList).2) := by
  have e0 : (⟨#[]⟩ : ByteArray) = ofL [] := rfl
  have eg : rightB s = goodL s.data.toList := rightB_good s
  have eu : (splitS s).any isUp = (splitB s.data.toList).any (· == [46, 46]) := any_ofL _
  unfold cleanF cleanL
  rw [eg, prefix_head, eu, outOf_ofL, Lib.toList_data, data_ofL, size_ofL]
  split
  · exact Prod.ext e0 rfl
  · by_cases h1 : s.data.toList.head? = some 47
    · rw [if_pos (by simpa using h1), if_pos h1]; exact Prod.ext e0 rfl
    · rw [if_neg (by simpa using h1), if_neg h1]
      split
      · exact Prod.ext e0 rfl
      · by_cases h2 : joinL (kept s.data.toList) = [] ∨ 200 < (joinL (kept s.data.toList)).length
        · rw [if_pos h2, if_pos (by simpa using h2)]; exact Prod.ext e0 rfl
        · rw [if_neg h2, if_neg (by simpa using h2)]
/-! As one goes along: a part more. -/
def addP (out p : List UInt8) : List UInt8 := if keepL p = true then (if out = [] then p else out ++ 47 :: p) else out
def finC (out : List UInt8) : List UInt8 × Int := if out = [] ∨ 200 < out.length then ([], 6) else (out, 0)
def foldC (out : List UInt8) (ps : List (List UInt8)) : List UInt8 × Int := if ps.any (· == [46, 46]) = true then ([], 6) else finC (ps.foldl addP out)
theorem foldC_nil (out : List UInt8) : foldC out [] = finC out := rfl
theorem foldC_up (out p : List UInt8) (ps : List (List UInt8)) (h : p = [46, 46]) : foldC out (p :: ps) = ([], 6) := by subst h; rfl
theorem foldC_cons (out p : List UInt8) (ps : List (List UInt8)) (h : p ≠ [46, 46]) : foldC out (p :: ps) = foldC (addP out p) ps := by
  have : (p == [46, 46]) = false := by simpa using h
  simp [foldC, this]
theorem foldl_add (ps : List (List UInt8)) : ∀ out : List UInt8, out ≠ [] → ps.foldl addP out = out ++ Lib.joinTail [47] (ps.filter keepL) := by
  induction ps with
  | nil => intro out _; simp [Lib.joinTail]
  | cons p ps ih =>
    intro out h
    rw [List.foldl_cons, List.filter_cons]
    by_cases hk : keepL p = true
    · have e : addP out p = out ++ 47 :: p := by simp [addP, hk, h]
      rw [e, ih _ (by simp), if_pos hk]
      simp [Lib.joinTail]
    · have e : addP out p = out := by simp [addP, hk]
      rw [e, ih _ h, if_neg hk]
theorem foldl_join (ps : List (List UInt8)) : ps.foldl addP [] = joinL (ps.filter keepL) := by
  induction ps with
  | nil => rfl
  | cons p ps ih =>
    rw [List.foldl_cons, List.filter_cons]
    by_cases hk : keepL p = true
    · have e : addP [] p = p := by simp [addP, hk]
      have hp : p ≠ [] := by rintro rfl; simp [keepL] at hk
      rw [e, foldl_add _ _ hp, if_pos hk]
      unfold joinL
      rw [Lib.join_cons]
    · have e : addP [] p = [] := by simp [addP, hk]
      rw [e, ih, if_neg hk]
theorem cleanL_fold (l : List UInt8) : cleanL l = if goodL l = false then ([], 9) else if l.head? = some 47 then ([], 6) else foldC [] (splitB l) := by
  unfold cleanL foldC finC kept
  rw [foldl_join]
theorem splitB_no (p : List UInt8) (h : ∀ c ∈ p, c ≠ 47) : splitB p = [p] := by
  induction p with
  | nil => rfl
  | cons a p ih =>
    have ha : a ≠ 47 := h a (by simp)
    simp only [splitB, if_neg ha, ih (fun c hc => h c (by simp [hc]))]
theorem splitB_app (p q : List UInt8) (h : ∀ c ∈ p, c ≠ 47) : splitB (p ++ 47 :: q) = p :: splitB q := by
  induction p with
  | nil => simp [splitB]
  | cons a p ih =>
    have ha : a ≠ 47 := h a (by simp)
    simp only [List.cons_append, splitB, if_neg ha, ih (fun c hc => h c (by simp [hc]))]
end Go.Proofs.YtfljbidecljlcaaDoor
