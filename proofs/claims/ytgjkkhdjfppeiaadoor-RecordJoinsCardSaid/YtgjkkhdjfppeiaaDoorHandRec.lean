/-
  path.right and five functions of Go's library in the form in which printed functions are told.
-/
import Derived.Test.YtgjkkhdjfppeiaaDoorTabs
import Derived.Test.YtgjkkhdjfppeiaaDoorWWords
import Derived.Test.YtgjkkhdjfppeiaaDoorPrint0
import Derived.Lib.SmallJoins
import Derived.Shelf.Strings.SlTrimAscii
namespace Go.Proofs.YtgjkkhdjfppeiaaDoor.Print
open Go.RowKit Go.Shelf Go.Proofs.YtgjkkhdjfppeiaaDoorW.PrintWords
def ofB (l : List UInt8) : ByteArray := ⟨l.toArray⟩
def path_right.f (a0 : ByteArray) : Option (Bool) := if a0.size ≤ 8000000000000 then some (rightB a0) else none
theorem path_right.calls (a0 : ByteArray) (r : Bool) (w : World) (hT : Aside0 (Tabs w)) (h : path_right.f a0 = some r) :
    Calls Tryd.prog 67 #[.string a0] w fun e w' => e = .returned (.bool r) ∧ Below w.heap.size w w' := by
  unfold path_right.f at h
  split at h
  · cases h
    exact right_calls a0 w (by omega) hT.out
  · cases h
/-- strings.Cut, at texts that are not too long. -/
def strings_Cut.f (a0 a1 : ByteArray) : Option (ByteArray × ByteArray × Bool) :=
  if a0.size < 4294967281 then some (ofB (Lib.cut a0.data.toList a1.data.toList).1, ofB (Lib.cut a0.data.toList a1.data.toList).2.1, (Lib.cut a0.data.toList a1.data.toList).2.2) else none
theorem strings_Cut.calls (a0 a1 : ByteArray) (r1 r2 : ByteArray) (r3 : Bool) (w : World) (hT : Aside0 (Tabs w)) (h : strings_Cut.f a0 a1 = some (r1, r2, r3)) :
    Calls Tryd.prog 41 #[.string a0, .string a1] w fun e w' => e = .returned (.tuple #[.string r1, .string r2, .bool r3]) ∧ Below w.heap.size w w' := by
  unfold strings_Cut.f at h
  split at h
  · rename_i hs
    simp only [Option.some.injEq, Prod.mk.injEq] at h
    obtain ⟨rfl, rfl, rfl⟩ := h
    obtain ⟨m, hm⟩ := hT.out.len
    refine (Tryd.strings_Cut a0 a1 m w hs hm).mono ?_
    rintro e w' ⟨he, n, rfl⟩
    exact ⟨he, pw_below_drewN (Below.refl _ _) n⟩
  · cases h
/-- strings.Trim, of signs below 128. -/
def strings_Trim.f (a0 a1 : ByteArray) : Option (ByteArray) :=
  if a0.size ≤ 8000000000000 ∧ a1.size < 4294967281 ∧ a1.data.toList.all (fun b => decide (b.toNat < 128)) = true then some (ofB (Lib.trimS a0.data.toList a1.data.toList)) else none
theorem strings_Trim.calls (a0 a1 : ByteArray) (r : ByteArray) (w : World) (h : strings_Trim.f a0 a1 = some r) :
    Calls Tryd.prog 49 #[.string a0, .string a1] w fun e w' => e = .returned (.string r) ∧ Below w.heap.size w w' := by
  unfold strings_Trim.f at h
  split at h
  · rename_i hs
    cases h
    exact Any.strings_Trim_laid Tryd.laysTrim (by kernel_rfl) a0 a1 w (by omega) hs.2.1 (ascii_of_all hs.2.2)
  · cases h
/-- strings.Contains, of one byte. -/
def strings_Contains.f (a0 a1 : ByteArray) : Option (Bool) := if a1.data.toList.length = 1 then some (decide (0 ≤ Lib.indexByte a0.data.toList (a1.data.toList.headD 0))) else none
theorem strings_Contains.calls (a0 a1 : ByteArray) (r : Bool) (w : World) (h : strings_Contains.f a0 a1 = some r) :
    Calls Tryd.prog 45 #[.string a0, .string a1] w fun e w' => e = .returned (.bool r) ∧ Below w.heap.size w w' := by
  unfold strings_Contains.f at h
  split at h
  · rename_i hs
    cases h
    obtain ⟨⟨l⟩⟩ := a1
    match l, hs with
    | [c], _ =>
      refine (Tryd.strings_Contains_one a0 c w).mono ?_
      rintro e w' ⟨he, rfl⟩
      exact ⟨he, Below.refl _ _⟩
  · cases h
/-- strconv.Itoa. -/
def strconv_Itoa.f (a0 : Int) : Option (ByteArray) := if -9223372036854775808 ≤ a0 ∧ a0 ≤ 9223372036854775807 then some (ofB (Lib.itoa a0)) else none
theorem strconv_Itoa.calls (a0 : Int) (r : ByteArray) (w : World) (hT : Aside0 (Tabs w)) (h : strconv_Itoa.f a0 = some r) :
    Calls Tryd.prog 37 #[.int .i64 a0] w fun e w' => e = .returned (.string r) ∧ Below w.heap.size w w' := by
  unfold strconv_Itoa.f at h
  split at h
  · rename_i hs
    cases h
    refine (Tryd.strconv_Itoa a0 hs.1 hs.2 w hT.out.pow).mono ?_
    rintro e w' ⟨he, k, os, rfl⟩
    refine ⟨he, rfl, rfl, rfl, ?_, fun i hi => ?_⟩
    · show w.heap.size ≤ ((w.drewN k).heap ++ os).size
      rw [Array.size_append]
      exact Nat.le_add_right _ _
    show ((w.drewN k).heap ++ os)[i]? = _
    rw [Array.getElem?_append_left (by show i < w.heap.size; omega)]
    rfl
  · cases h
/-- strconv.Atoi, of at most 18 bytes that are a number. -/
def strconv_Atoi.f (a0 : ByteArray) : Option (Int × Option Int) := if a0.size ≤ 18 then (Lib.atoi a0.data.toList).map fun n => (n, none) else none
theorem strconv_Atoi.calls (a0 : ByteArray) (r1 : Int) (r2 : Option Int) (w : World) (h : strconv_Atoi.f a0 = some (r1, r2)) :
    Calls Tryd.prog 39 #[.string a0] w fun e w' => e = .returned (.tuple #[.int .i64 r1, errW r2]) ∧ Below w.heap.size w w' := by
  unfold strconv_Atoi.f at h
  split at h
  · rename_i hs
    obtain ⟨n, hn, he⟩ := Option.map_eq_some_iff.1 h
    cases he
    refine (Tryd.strconv_Atoi a0 r1 hs hn w).mono ?_
    rintro e w' ⟨he, t, rfl⟩
    exact ⟨he, bytes_below (Below.refl _ _) (Nat.le_refl _) _ _⟩
  · cases h
end Go.Proofs.YtgjkkhdjfppeiaaDoor.Print
