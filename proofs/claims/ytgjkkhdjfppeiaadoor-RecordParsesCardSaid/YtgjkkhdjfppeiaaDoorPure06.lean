/-
  The statements' functions of bindlelaw06, as printed, answer true.
-/
import Derived.Test.YtgjkkhdjfppeiaaDoorRecLn
import Derived.Test.YtgjkkhdjfppeiaaDoorRecRef
import Derived.Test.YtgjkkhdjfppeiaaDoorPrint28
namespace Go.Proofs.YtgjkkhdjfppeiaaDoor
open Go.RowKit Go.Proofs.YtgjkkhdjfppeiaaDoor.Print Go.Proofs.YtgjkkhdjfppeiaaDoorW.PrintWords
theorem ans06 : bindlelaw06_answers.f = some true := rfl
theorem strOf_size (xs : List Int) : (strOfNums xs).size = xs.length := by
  unfold strOfNums
  simp [ByteArray.size]
theorem parseN_len (n : Nat) : ∀ l : List UInt8, (parseN n l).1.length ≤ n := by
  induction n with
  | zero => intro l; simp [parseN]
  | succ n ih =>
    intro l
    rw [parseN]
    split
    · simp
    · split
      · simp
      · split
        · simp
        · have := ih (oneL l).2.2.1
          simp only [List.length_cons]; omega
theorem parseL_len (l : List UInt8) : (parseL l).1.length ≤ l.length := parseN_len _ _
theorem recs_len (x : List (List UInt8 × List UInt8)) : (recs x).length = x.length := by simp [recs]
/-! RecordParses -/
theorem RecordParses_true (xs : List Int) : Ev (fun k => bindlelaw06_RecordParses.f k xs) true := by
  by_cases h : (xs.length : Int) > 3000
  · exact Ev.congr (fun k => by unfold bindlelaw06_RecordParses.f; rw [if_pos h, ans06]; rfl) (Ev.now true)
  · have hz := strOf_size xs
    have h1 := Parse_eq xs (by omega)
    have h2 := Records_eq xs (by omega)
    have hl := parseL_len (strOfNums xs).data.toList
    have hd : (strOfNums xs).data.toList.length = (strOfNums xs).size := by simp
    have h3 := Same_self (recs (parseL (strOfNums xs).data.toList).1) (by rw [recs_len]; omega)
    generalize recs (parseL (strOfNums xs).data.toList).1 = r at *
    generalize (parseL (strOfNums xs).data.toList).2 = e at *
    refine Ev.congr (f := fun k => (record_Parse.f k xs).bind fun bt179 => ((bindleref01_Records.f k xs).bind fun bt183 => ((bindlelaw06_answers.f).bind fun t187 => (if t187 = true then ((bindleref01_SameRecords.f k bt179.1 bt183.1).bind fun t188 => (if t188 = true then (some (bt179.2 == bt183.2)) else (some false))) else (some false))))) (fun k => ?_) ?_
    · unfold bindlelaw06_RecordParses.f
      rw [if_neg h, Option.bind_some, if_pos (by simp only [List.length_nil]; omega), List.nil_append]
    · refine Ev.bind h1 (Ev.bind h2 ?_)
      refine Ev.congr (f := fun k => (bindleref01_SameRecords.f k r r).bind fun t188 => (if t188 = true then (some (e == e)) else (some false))) (fun k => by rw [ans06, Option.bind_some, if_pos rfl]) ?_
      refine Ev.bind h3 ?_
      exact Ev.congr (fun k => by rw [if_pos rfl, beq_self_eq_true]) (Ev.now true)
end Go.Proofs.YtgjkkhdjfppeiaaDoor
