/-
  record.one and record.Parse, as printed, are oneL and parseL.
-/
import Derived.Test.YtgjkkhdjfppeiaaDoorRecP
import Derived.Test.YtgjkkhdjfppeiaaDoorHandRec
import Derived.Test.YtgjkkhdjfppeiaaDoorPrint24
namespace Go.Proofs.YtgjkkhdjfppeiaaDoor
open Go.RowKit Go.Proofs.YtgjkkhdjfppeiaaDoor.Print Go.Proofs.YtgjkkhdjfppeiaaDoorW.PrintWords
theorem ofB_data (l : List UInt8) : (ofB l).data.toList = l := by simp [ofB]
theorem ofB_toList (l : List UInt8) : (ofB l).toList = l := by rw [Lib.toList_data, ofB_data]
theorem ofB_size (l : List UInt8) : (ofB l).size = l.length := by simp [ofB, ByteArray.size]
theorem ofB_of (s : ByteArray) : ofB s.data.toList = s := by
  cases s; simp [ofB]
theorem ext_list (s : ByteArray) (a b : Nat) : s.extract a b = ofB ((s.data.toList.take b).drop a) := by
  rw [← ofB_of (s.extract a b)]
  congr 1
  rw [ByteArray.data_extract]
  simp [List.extract_eq_take_drop, List.drop_take]
theorem bt_ofB (l : List UInt8) (i : Nat) : bt (ofB l) (i : Int) = ((l.getD i 0).toNat : Int) := by rw [bt_getD, ofB_data]
theorem cut_f (s : ByteArray) (c : UInt8) (hs : s.size < 4294967281) : strings_Cut.f s ⟨#[c]⟩ = some (ofB (Lib.cut s.data.toList [c]).1, ofB (Lib.cut s.data.toList [c]).2.1, (Lib.cut s.data.toList [c]).2.2) := by
  unfold strings_Cut.f
  rw [if_pos hs]
theorem size_eq (s : ByteArray) (hs : s.size ≤ 100000000) :
    (headBad s.data.toList (s.data.toList.takeWhile isDig) = true ∧ record_size.f s = some (0, 0, false)) ∨
    (headBad s.data.toList (s.data.toList.takeWhile isDig) = false ∧ record_size.f s = some ((decOf (s.data.toList.takeWhile isDig) : Int), ((s.data.toList.takeWhile isDig).length : Int) + 1,
      decide (decOf (s.data.toList.takeWhile isDig) ≤ s.size) && decide ((s.data.toList.takeWhile isDig).length + 4 ≤ decOf (s.data.toList.takeWhile isDig)))) := by
  unfold record_size.f
  rw [cut_f s 32 (by omega)]
  rcases decAt s.data.toList 32 with h | ⟨p, q, e, h⟩
  · left
    rw [cut_none _ _ h]
    exact ⟨headBad_none _ h, rfl⟩
  · have hlen : p.length ≤ s.size := by
      have : s.data.toList.length = s.size := by simp
      rw [e] at this
      simp only [List.length_append] at this
      omega
    rw [e, cut_app _ _ _ h]
    simp only [Option.bind_some, if_true, ofB_size]
    have hbt : 1 ≤ p.length → bt (ofB p) 0 = ((p.getD 0 0).toNat : Int) := fun _ => bt_ofB p 0
    have htrim : strings_Trim.f (ofB p) ⟨#[48, 49, 50, 51, 52, 53, 54, 55, 56, 57]⟩ = some (ofB (Lib.trimS p digits10)) := by
      unfold strings_Trim.f
      rw [ofB_data, if_pos ⟨by rw [ofB_size]; omega, by decide, by decide⟩]
      rfl
    by_cases ha : p.all isDig = true
    · have htw : (p ++ 32 :: q).takeWhile isDig = p := takeWhile_app p q 32 ha (by decide)
      rw [htw]
      have hd : ((p ++ 32 :: q).drop p.length).head? = some 32 := by rw [List.drop_left]; rfl
      by_cases h1 : p.length < 1
      · left
        refine ⟨by simp [headBad, h1], by rw [if_pos (by omega)]⟩
      · rw [if_neg (by omega)]
        by_cases h2 : 7 < p.length
        · left
          refine ⟨by simp [headBad, h2], by rw [if_pos (by omega)]⟩
        · rw [if_neg (by omega), if_pos (by omega), hbt (by omega)]
          have hh : (p ++ 32 :: q).head? = some (p.getD 0 0) := by
            cases p with
            | nil => exact absurd (show ([] : List UInt8).length < 1 by decide) h1
            | cons a t => rfl
          by_cases h3 : p.getD 0 0 = 48
          · left
            rw [h3]
            refine ⟨by unfold headBad; rw [hh, h3]; simp, by rw [if_pos (by decide)]⟩
          · right
            have h3' : ¬ ((p.getD 0 0).toNat : Int) = 48 := fun e => h3 (UInt8.toNat_inj.1 (by show (p.getD 0 0).toNat = 48; omega))
            have hne : p ≠ [] := by rintro rfl; exact h1 (by decide)
            have hat : strconv_Atoi.f (ofB p) = some ((decOf p : Int), none) := by
              unfold strconv_Atoi.f
              rw [ofB_data, ofB_size, if_pos (by omega), atoi_digits p hne ha]
              rfl
            refine ⟨?_, ?_⟩
            · unfold headBad
              rw [hd, hh]
              simp only [decide_true, Bool.not_true, Bool.or_false, Bool.or_eq_false_iff, decide_eq_false_iff_not, Option.some.injEq]
              exact ⟨⟨h1, h2⟩, h3⟩
            · rw [if_neg h3', htrim, Option.bind_some, (trim_digits p).2 ha, if_pos (by rw [ofB_toList]), hat, Option.bind_some]
              have w1 : wrap64 ((p.length : Int) + 1) = (p.length : Int) + 1 := w64 (by omega) (by omega)
              have w2 : wrap64 ((p.length : Int) + 1 + 3) = (p.length : Int) + 1 + 3 := w64 (by omega) (by omega)
              rw [w1, w2]
              by_cases h4 : decOf p ≤ s.size
              · rw [if_pos (by omega), decide_eq_true h4, Bool.true_and]
                congr 3
                apply decide_eq_decide.2
                omega
              · rw [if_neg (by omega), decide_eq_false h4]
                rfl
    · left
      refine ⟨headBad_bad p q h ha, ?_⟩
      by_cases h1 : (p.length : Int) < 1
      · rw [if_pos h1]
      · rw [if_neg h1]
        by_cases h2 : (p.length : Int) > 7
        · rw [if_pos h2]
        · rw [if_neg h2, if_pos (by omega)]
          by_cases h3 : bt (ofB p) 0 = 48
          · rw [if_pos h3]
          · rw [if_neg h3, htrim, Option.bind_some, if_neg]
            rw [ofB_toList]
            exact fun e => ha ((trim_digits p).1 e)
theorem wrapn (n : Nat) (h : n ≤ 200000000) : wrap64 ((n : Int) - 1) = (n : Int) - 1 := by unfold wrap64; omega
/-- What record.one answers of it. -/
def rec3 (x : Rec3) : ByteArray × ByteArray × ByteArray × Int := (ofB x.1, ofB x.2.1, ofB x.2.2.1, x.2.2.2)
theorem right_f (s : ByteArray) (hs : s.size ≤ 100000000) : record_right.f s = some (goodL s.data.toList) := by
  unfold record_right.f path_Target.f path_right.f
  rw [if_pos (by omega), show rightB s = goodL s.data.toList from rightB_good s, Option.bind_some]
  cases goodL s.data.toList with
  | false => rfl
  | true =>
    rw [if_pos rfl]
    split
    · rfl
    · split <;> rfl
theorem one_split (s line : ByteArray) (x5 x6 : Int) (rest : List UInt8) (hs : s.size ≤ 100000000) (h0 : 0 ≤ x6) (h1 : x6 ≤ x5 - 1) (h2 : x5 ≤ s.size) (h3 : 1 ≤ x5) (hl : line = s.extract x6.toNat (x5 - 1).toNat) (hr : ofB rest = s.extract x5.toNat s.size) :
    Ev (fun k => record_one.j0 k s x5 x6 false) (rec3 (splitL line.data.toList rest)) := by
  have w1 : wrap64 (x5 - 1) = x5 - 1 := by unfold wrap64; omega
  have hz : line.size ≤ s.size := by rw [hl, ByteArray.size_extract]; omega
  have hlen : line.data.toList.length = line.size := by simp
  refine Ev.step (f := fun k => (strings_Cut.f line ⟨#[61]⟩).bind fun bt152 => (if bt152.2.2 = true then (record_one.j1 k s x5 line bt152.1 bt152.2.1 (bt152.1.toList == ([] : List UInt8))) else (record_one.j1 k s x5 line bt152.1 bt152.2.1 true))) (fun k => ?_) ?_
  · rw [record_one.j0, if_neg (by decide), w1, if_pos h0, if_pos h1, if_pos (by omega), ← hl]
  · rw [cut_f line 61 (by omega)]
    unfold splitL
    rcases decAt line.data.toList 61 with h | ⟨p, q, e, h⟩
    · rw [cut_none _ _ h, indexByte_none _ _ h, if_pos (by decide)]
      refine Ev.congr (f := fun k => record_one.j1 k s x5 line (ofB line.data.toList) (ofB []) true) (fun k => by rw [Option.bind_some, if_neg (by simp)]) ?_
      exact Ev.step (fun k => by rw [record_one.j1, if_pos rfl]; rfl) (Ev.now _)
    · rw [e, cut_app _ _ _ h, indexByte_app _ _ _ h]
      refine Ev.congr (f := fun k => record_one.j1 k s x5 line (ofB p) (ofB q) ((ofB p).toList == ([] : List UInt8))) (fun k => by rw [Option.bind_some, if_pos rfl]) ?_
      rw [ofB_toList]
      by_cases hp : p = []
      · subst hp
        rw [if_pos (by decide)]
        exact Ev.step (fun k => by rw [record_one.j1, if_pos (by decide)]; rfl) (Ev.now _)
      · have hb : (p == ([] : List UInt8)) = false := by simpa using hp
        have hpl := List.length_pos_iff.2 hp
        rw [hb, if_neg (by omega)]
        cases hg : goodL (p ++ 61 :: q) with
        | false =>
          rw [if_pos rfl]
          refine Ev.step (fun k => ?_) (Ev.now _)
          rw [record_one.j1, if_neg (by decide), right_f line (by omega), e, hg, Option.bind_some, if_neg (by decide)]
          rfl
        | true =>
          rw [if_neg (by decide)]
          refine Ev.step (fun k => ?_) (Ev.now _)
          rw [record_one.j1, if_neg (by decide), right_f line (by omega), e, hg, Option.bind_some, if_pos rfl, if_pos (by omega), if_pos h2, ← hr]
          unfold rec3
          simp
theorem one_eq (s : ByteArray) (hs : s.size ≤ 100000000) : Ev (fun k => record_one.f k s) (rec3 (oneL s.data.toList)) := by
  have hlen : s.data.toList.length = s.size := by simp
  have hbad : Ev (fun k => record_one.j0 k s 0 0 true) (rec3 (err3 5)) := Ev.step (fun k => by rw [record_one.j0, if_pos rfl]; rfl) (Ev.now _)
  unfold oneL
  rcases size_eq s hs with ⟨h1, h2⟩ | ⟨h1, h2⟩
  · rw [if_pos h1]
    exact Ev.congr (fun k => by unfold record_one.f; rw [h2, Option.bind_some, if_neg (by decide)]) hbad
  · rw [if_neg (by rw [h1]; decide)]
    generalize hh : s.data.toList.takeWhile isDig = h at *
    generalize hn : decOf h = n at *
    by_cases h3 : n ≤ s.size ∧ h.length + 4 ≤ n
    · have w1 : wrap64 ((n : Int) - 1) = (n : Int) - 1 := by unfold wrap64; omega
      have hb := bt_getD s (n - 1)
      rw [show ((n - 1 : Nat) : Int) = (n : Int) - 1 by omega] at hb
      refine Ev.congr (f := fun k => record_one.j0 k s n ((h.length : Int) + 1) ((bt s ((n : Int) - 1)) != 10)) (fun k => ?_) ?_
      · unfold record_one.f
        rw [h2, Option.bind_some, decide_eq_true h3.1, decide_eq_true h3.2]
        simp only [Bool.and_self, if_true]
        rw [w1, if_pos (by omega), if_pos (by omega)]
      · by_cases h4 : s.data.toList.getD (n - 1) 0 = 10
        · have hb2 : (bt s ((n : Int) - 1) != 10) = false := by rw [hb, h4]; rfl
          have hsb : sizeBad s.data.toList h n = false := by
            unfold sizeBad
            rw [h4, hlen]
            simp only [decide_true, Bool.not_true, Bool.or_false, Bool.or_eq_false_iff, decide_eq_false_iff_not]
            omega
          rw [hb2, if_neg (by rw [hsb]; decide)]
          have hx : (s.extract ((h.length : Int) + 1).toNat ((n : Int) - 1).toNat).data.toList = lineL s.data.toList h n := by
            rw [ext_list, ofB_data]
            unfold lineL
            rw [show ((h.length : Int) + 1).toNat = h.length + 1 by omega, show ((n : Int) - 1).toNat = n - 1 by omega]
          rw [← hx]
          refine one_split s _ n ((h.length : Int) + 1) _ hs (by omega) (by omega) (by omega) (by omega) rfl ?_
          rw [ext_list, show ((n : Int)).toNat = n by omega, List.take_of_length_le (by omega)]
        · have hb2 : (bt s ((n : Int) - 1) != 10) = true := by
            rw [hb]
            simp only [bne_iff_ne, ne_eq]
            intro e
            exact h4 (UInt8.toNat_inj.1 (by show (s.data.toList.getD (n - 1) 0).toNat = 10; omega))
          have hsb : sizeBad s.data.toList h n = true := by
            unfold sizeBad
            rw [decide_eq_false h4]; simp
          rw [hb2, if_pos hsb]
          exact Ev.step (fun k => by rw [record_one.j0, if_pos rfl]; rfl) (Ev.now _)
    · have hsb : sizeBad s.data.toList h n = true := by
        unfold sizeBad
        rw [hlen]
        simp only [Bool.or_eq_true, decide_eq_true_eq]
        omega
      have hf : (decide (n ≤ s.size) && decide (h.length + 4 ≤ n)) = false := by
        rw [Bool.and_eq_false_iff, decide_eq_false_iff_not, decide_eq_false_iff_not]
        omega
      rw [if_pos hsb]
      refine Ev.congr (f := fun k => record_one.j0 k s n ((h.length : Int) + 1) true) (fun k => ?_) (Ev.step (fun k => by rw [record_one.j0, if_pos rfl]; rfl) (Ev.now _))
      unfold record_one.f
      rw [h2, Option.bind_some, hf, if_neg (by simp)]
/-! record.Parse -/
theorem parseN_err (n : Nat) (l : List UInt8) (h : ¬ (parseN n l).2 = 0) : (parseN n l).1 = [] := by
  cases n with
  | zero => rfl
  | succ n =>
    simp only [parseN] at h ⊢
    split
    · rfl
    · rename_i h0
      rw [if_neg h0] at h
      split
      · rfl
      · rename_i h1
        rw [if_neg h1] at h
        split
        · rfl
        · rename_i h2
          rw [if_neg h2] at h
          exact absurd rfl h
def recs (l : List (List UInt8 × List UInt8)) : List S42 := l.map fun p => ⟨ofB p.1, ofB p.2⟩
theorem parseN_0 (n : Nat) : parseN n [] = ([], 0) := by cases n <;> simp [parseN]
theorem parseN_1 {n : Nat} {l : List UInt8} (h0 : l ≠ []) (h : ¬ (oneL l).2.2.2 = 0) : parseN (n + 1) l = ([], (oneL l).2.2.2) := by
  rw [parseN, if_neg h0, if_pos h]
theorem parseN_2 {n : Nat} {l : List UInt8} (h0 : l ≠ []) (h : (oneL l).2.2.2 = 0) (h2 : ¬ (parseN n (oneL l).2.2.1).2 = 0) : parseN (n + 1) l = ([], (parseN n (oneL l).2.2.1).2) := by
  rw [parseN, if_neg h0, if_neg (fun e => e h), if_pos h2]
theorem parseN_3 {n : Nat} {l : List UInt8} (h0 : l ≠ []) (h : (oneL l).2.2.2 = 0) (h2 : (parseN n (oneL l).2.2.1).2 = 0) : parseN (n + 1) l = (((oneL l).1, (oneL l).2.1) :: (parseN n (oneL l).2.2.1).1, 0) := by
  rw [parseN, if_neg h0, if_neg (fun e => e h), if_neg (fun e => e h2)]
/-- What is told behind records that are there. -/
def parseR (acc : List S42) (x : List (List UInt8 × List UInt8) × Int) : List S42 × Int := if x.2 = 0 then (acc ++ recs x.1, 0) else ([], x.2)
theorem parseR_bad (acc : List S42) (y : List (List UInt8 × List UInt8)) {e : Int} (h : ¬ e = 0) : parseR acc (y, e) = ([], e) := by unfold parseR; rw [if_neg h]
theorem parseR_more (acc : List S42) (x : List UInt8 × List UInt8) (y : List (List UInt8 × List UInt8)) : parseR acc (x :: y, 0) = parseR (acc ++ [⟨ofB x.1, ofB x.2⟩]) (y, 0) := by
  unfold parseR
  rw [if_pos rfl, if_pos rfl, List.append_assoc]
  rfl
theorem Parse_loop (n : Nat) : ∀ (l : List UInt8) (acc : List S42), l.length ≤ n → l.length ≤ 100000000 → acc.length + n ≤ 100000000 →
    Ev (fun k => record_Parse.l0 k acc (ofB l)) (parseR acc (parseN n l)) := by
  have hnil : ∀ (n : Nat) (acc : List S42), Ev (fun k => record_Parse.l0 k acc (ofB [])) (parseR acc (parseN n [])) := by
    intro n acc
    rw [parseN_0]
    refine Ev.step (fun k => ?_) (Ev.now _)
    rw [record_Parse.l0, if_pos (by rw [ofB_toList])]
    simp [parseR, recs]
  induction n with
  | zero =>
    intro l acc h _ _
    have : l = [] := List.length_eq_zero_iff.1 (by omega)
    subst this
    exact hnil _ _
  | succ n ih =>
    intro l acc h hl ha
    by_cases h0 : l = []
    · subst h0; exact hnil _ _
    · have h1 := one_eq (ofB l) (by rw [ofB_size]; omega)
      rw [ofB_data] at h1
      refine Ev.step (f := fun k => (record_one.f k (ofB l)).bind fun bt156 => (if bt156.2.2.2 = 0 then (if acc.length < 4398046511104 then (record_Parse.l0 k (acc ++ [(⟨bt156.1, bt156.2.1⟩ : S42)]) bt156.2.2.1) else (none)) else (some (([] : List (S42)), bt156.2.2.2)))) (fun k => by rw [record_Parse.l0, if_neg (by rw [ofB_toList]; exact h0)]) ?_
      refine Ev.bind h1 ?_
      unfold rec3
      by_cases he : (oneL l).2.2.2 = 0
      · have hr := oneL_rest l he h0
        refine Ev.congr (f := fun k => record_Parse.l0 k (acc ++ [(⟨ofB (oneL l).1, ofB (oneL l).2.1⟩ : S42)]) (ofB (oneL l).2.2.1)) (fun k => by rw [if_pos he, if_pos (by omega)]) ?_
        have hi := ih (oneL l).2.2.1 (acc ++ [(⟨ofB (oneL l).1, ofB (oneL l).2.1⟩ : S42)]) (by omega) (by omega) (by rw [List.length_append]; simp only [List.length_cons, List.length_nil]; omega)
        by_cases hp : (parseN n (oneL l).2.2.1).2 = 0
        · rw [parseN_3 h0 he hp, parseR_more]
          have hx : parseN n (oneL l).2.2.1 = ((parseN n (oneL l).2.2.1).1, 0) := Prod.ext rfl hp
          rw [hx] at hi
          exact hi
        · rw [parseN_2 h0 he hp, parseR_bad _ _ hp]
          have hx : parseN n (oneL l).2.2.1 = ((parseN n (oneL l).2.2.1).1, (parseN n (oneL l).2.2.1).2) := rfl
          rw [hx, parseR_bad _ _ hp] at hi
          exact hi
      · rw [parseN_1 h0 he, parseR_bad _ _ he]
        exact Ev.congr (fun k => by rw [if_neg he]) (Ev.now _)
theorem parseR_nil (l : List UInt8) : parseR [] (parseN l.length l) = (recs (parseL l).1, (parseL l).2) := by
  unfold parseR parseL
  by_cases hp : (parseN l.length l).2 = 0
  · rw [if_pos hp, hp]; rfl
  · rw [if_neg hp, parseN_err _ _ hp]; rfl
/-- **record.Parse is parseL.** -/
theorem Parse_eq (xs : List Int) (hx : (strOfNums xs).size ≤ 50000000) :
    Ev (fun k => record_Parse.f k xs) (recs (parseL (strOfNums xs).data.toList).1, (parseL (strOfNums xs).data.toList).2) := by
  have hlen : (strOfNums xs).data.toList.length = (strOfNums xs).size := by simp
  have h := Parse_loop (strOfNums xs).data.toList.length (strOfNums xs).data.toList [] (Nat.le_refl _) (by omega) (by simp only [List.length_nil]; omega)
  rw [ofB_of] at h
  rw [parseR_nil] at h
  exact Ev.congr (f := fun k => record_Parse.l0 k [] (strOfNums xs)) (fun k => rfl) h
end Go.Proofs.YtgjkkhdjfppeiaaDoor
