/-
  bindleref01.Whole and .Records, as printed: the number that digits say; parseL.
-/
import Derived.Test.YtgjkkhdjfppeiaaDoorRecEq
import Derived.Test.YtgjkkhdjfppeiaaDoorPrint26
import Derived.Test.YtgjkkhdjfppeiaaDoorPrint12
namespace Go.Proofs.YtgjkkhdjfppeiaaDoor
open Go.RowKit Go.Proofs.YtgjkkhdjfppeiaaDoor.Print Go.Proofs.YtgjkkhdjfppeiaaDoorW.PrintWords
def decF (n : Nat) (b : UInt8) : Nat := n * 10 + (b.toNat - 48)
theorem isDig_iff (b : UInt8) : isDig b = true ↔ 48 ≤ b.toNat ∧ b.toNat ≤ 57 := by simp [isDig]
theorem Whole_loop (h : List UInt8) (ha : h.all isDig = true) (hl : h.length ≤ 15) (d : Nat) : ∀ (i acc : Nat), i + d = h.length → acc < 10 ^ i →
    Ev (fun k => bindleref01_Whole.l0 k (ofB h) (acc : Int) (i : Int)) ((((h.drop i).foldl decF acc : Nat) : Int), true) := by
  induction d with
  | zero =>
    intro i acc hi _
    rw [List.drop_eq_nil_of_le (by omega)]
    exact Ev.step (fun k => by rw [bindleref01_Whole.l0, if_neg (by rw [ofB_size]; omega)]; rfl) (Ev.now _)
  | succ d ih =>
    intro i acc hi hacc
    have hb := bt_ofB h i
    have hg : h.getD i 0 = h[i]'(by omega) := by rw [List.getD_eq_getElem?_getD, List.getElem?_eq_getElem (by omega)]; rfl
    have hdig := (isDig_iff _).1 ((List.all_eq_true.1 ha) (h[i]'(by omega)) (List.getElem_mem _))
    rw [hg] at hb
    rw [List.drop_eq_getElem_cons (by omega), List.foldl_cons]
    have hp : 10 ^ i ≤ 10 ^ 14 := Nat.pow_le_pow_right (by decide) (by omega)
    have hn : decF acc (h[i]'(by omega)) < 10 ^ (i + 1) := by unfold decF; rw [Nat.pow_succ]; omega
    have w1 : wrap64 ((acc : Int) * 10) = (acc : Int) * 10 := by unfold wrap64; omega
    have w2 : wrap64 ((acc : Int) * 10 + (bt (ofB h) (i : Int) - 48) % 256) = ((decF acc (h[i]'(by omega)) : Nat) : Int) := by
      rw [hb]; unfold decF wrap64; omega
    refine Ev.step (f := fun k => bindleref01_Whole.l0 k (ofB h) ((decF acc (h[i]'(by omega)) : Nat) : Int) ((i + 1 : Nat) : Int)) (fun k => ?_) (ih (i + 1) _ (by omega) hn)
    rw [bindleref01_Whole.l0, if_pos (by rw [ofB_size]; omega), if_pos (by omega), if_neg (by rw [hb]; omega), if_neg (by rw [hb]; omega), w1, w2, w64 (by omega) (by omega)]
    rfl
theorem Whole_eq (h : List UInt8) (ha : h.all isDig = true) (h1 : 1 ≤ h.length) (hl : h.length ≤ 15) : Ev (fun k => bindleref01_Whole.f k (ofB h)) ((decOf h : Int), true) := by
  have hw := Whole_loop h ha hl h.length 0 0 (by omega) (by decide)
  rw [List.drop_zero] at hw
  refine Ev.congr (f := fun k => bindleref01_Whole.j0 k (ofB h) 0 (decide (((ofB h).size : Int) > 18))) (fun k => ?_) ?_
  · unfold bindleref01_Whole.f
    rw [if_neg (by rw [ofB_size]; omega)]
  · refine Ev.step (f := fun k => bindleref01_Whole.l0 k (ofB h) ((0 : Nat) : Int) ((0 : Nat) : Int)) (fun k => ?_) hw
    rw [bindleref01_Whole.j0, decide_eq_false (by rw [ofB_size]; omega), if_neg (by decide)]
    rfl
/-! The records. -/
abbrev RR := List S42 × Int
def Out (acc : List S42) (x : Rec3) (R : RR) : Prop :=
  if x.2.2.2 = 0 then Ev (fun k => bindleref01_Records.l0 k (acc ++ [⟨ofB x.1, ofB x.2.1⟩]) (ofB x.2.2.1)) R else R = ([], x.2.2.2)
theorem Out_err {acc : List S42} {e : Int} {R : RR} (h : Out acc (err3 e) R) (he : e ≠ 0) : R = ([], e) := by
  unfold Out err3 at h
  rw [if_neg he] at h
  exact h
section
variable {acc : List S42} {l : List UInt8} {R : RR} (hl : l.length ≤ 100000000) (hacc : acc.length ≤ 100000000)
include hl hacc
theorem Rec_j6 {line : List UInt8} {n : Nat} (hn : n ≤ l.length) (hz : line.length ≤ l.length) (h : Out acc (splitL line (l.drop n)) R) :
    Ev (fun k => bindleref01_Records.j6 k acc (ofB l) (n : Int) (ofB line) (Lib.indexByte line 61)) R := by
  unfold splitL at h
  by_cases h1 : Lib.indexByte line 61 < 1
  · rw [if_pos h1] at h
    rw [Out_err h (by decide)]
    exact Ev.step (fun k => by rw [bindleref01_Records.j6, if_pos h1]) (Ev.now _)
  · rw [if_neg h1] at h
    have hix : Lib.indexByte line 61 < line.length := by
      rcases decAt line 61 with h2 | ⟨p, q, e, h2⟩
      · rw [indexByte_none _ _ h2] at h1; omega
      · rw [e, indexByte_app _ _ _ h2]; simp only [List.length_append, List.length_cons]; omega
    have ht := Text_eq (ofB line) (by rw [ofB_size]; omega)
    rw [show rightB (ofB line) = goodL line by rw [← ofB_data line]; exact (rightB_good _).trans (by rw [ofB_data]; rfl)] at ht
    refine Ev.step (f := fun k => (bindleref01_Text.f k (ofB line)).bind fun t166 => (if t166 = true then (if 0 ≤ Lib.indexByte line 61 then (if Lib.indexByte line 61 ≤ ((ofB line).size : Int) then (if 0 ≤ (wrap64 (Lib.indexByte line 61 + 1)) then (if (wrap64 (Lib.indexByte line 61 + 1)) ≤ ((ofB line).size : Int) then (if acc.length < 4398046511104 then (if 0 ≤ (n : Int) then (if (n : Int) ≤ ((ofB l).size : Int) then (bindleref01_Records.l0 k (acc ++ [(⟨(ofB line).extract 0 (Lib.indexByte line 61 : Int).toNat, (ofB line).extract ((wrap64 (Lib.indexByte line 61 + 1)) : Int).toNat (ofB line).size⟩ : S42)]) ((ofB l).extract ((n : Int) : Int).toNat (ofB l).size)) else (none)) else (none)) else (none)) else (none)) else (none)) else (none)) else (none)) else (some (([] : List (S42)), 9)))) (fun k => by rw [bindleref01_Records.j6, if_neg h1]) ?_
    refine Ev.bind ht ?_
    cases hg : goodL line with
    | false =>
      rw [hg, if_pos rfl] at h
      rw [Out_err h (by decide)]
      exact Ev.congr (fun k => by rw [if_neg (by decide)]) (Ev.now _)
    | true =>
      rw [hg, if_neg (by decide)] at h
      unfold Out at h
      simp only [if_true] at h
      have w : wrap64 (Lib.indexByte line 61 + 1) = Lib.indexByte line 61 + 1 := by unfold wrap64; omega
      refine Ev.congr (fun k => ?_) h
      rw [if_pos rfl, if_pos (by omega), if_pos (by rw [ofB_size]; omega), w, if_pos (by omega), if_pos (by rw [ofB_size]; omega), if_pos (by omega), if_pos (by omega), if_pos (by rw [ofB_size]; omega)]
      rw [ext_list, ext_list, ext_list, ofB_data, ofB_data, ofB_size, ofB_size, List.take_of_length_le (Nat.le_refl line.length), List.take_of_length_le (Nat.le_refl l.length), List.drop_zero, show (Lib.indexByte line 61 + 1).toNat = (Lib.indexByte line 61).toNat + 1 by omega, show ((n : Int)).toNat = n by omega]
theorem Rec_l2 {line : List UInt8} {n : Nat} (hn : n ≤ l.length) (hz : line.length ≤ l.length) (h : Out acc (splitL line (l.drop n)) R) (d : Nat) : ∀ i : Nat, i + d = line.length → (∀ b ∈ line.take i, b ≠ 61) →
    Ev (fun k => bindleref01_Records.l2 k acc (ofB l) (n : Int) (ofB line) (-1) (i : Int)) R := by
  have h6 := Rec_j6 hl hacc hn hz h
  induction d with
  | zero =>
    intro i hi hno
    rw [List.take_of_length_le (by omega)] at hno
    rw [indexByte_none _ _ hno] at h6
    exact Ev.step (fun k => by rw [bindleref01_Records.l2, if_neg (by rw [ofB_size]; omega)]) h6
  | succ d ih =>
    intro i hi hno
    have hb := bt_ofB line i
    have hg : line.getD i 0 = line[i]'(by omega) := by rw [List.getD_eq_getElem?_getD, List.getElem?_eq_getElem (by omega)]; rfl
    rw [hg] at hb
    by_cases h1 : line[i]'(by omega) = 61
    · have e : Lib.indexByte line 61 = (i : Int) := by
        have hs : line = line.take i ++ 61 :: line.drop (i + 1) := by
          rw [← h1, ← List.drop_eq_getElem_cons (by omega), List.take_append_drop]
        have := indexByte_app (line.take i) 61 (line.drop (i + 1)) hno
        rw [← hs, List.length_take] at this
        rw [this]; omega
      rw [e] at h6
      exact Ev.step (fun k => by rw [bindleref01_Records.l2, if_pos (by rw [ofB_size]; omega), if_pos (by omega), if_pos (by rw [hb, h1]; rfl)]) h6
    · have hne : ¬ bt (ofB line) (i : Int) = 61 := by
        rw [hb]
        intro e
        exact h1 (UInt8.toNat_inj.1 (show (line[i]'(by omega)).toNat = 61 by omega))
      refine Ev.step (f := fun k => bindleref01_Records.l2 k acc (ofB l) (n : Int) (ofB line) (-1) ((i + 1 : Nat) : Int)) (fun k => ?_) (ih (i + 1) (by omega) ?_)
      · rw [bindleref01_Records.l2, if_pos (by rw [ofB_size]; omega), if_pos (by omega), if_neg hne, w64 (by omega) (by omega)]
        rfl
      · intro b hb'
        rw [List.take_succ_eq_append_getElem (by omega)] at hb'
        rcases List.mem_append.1 hb' with hb' | hb'
        · exact hno b hb'
        · rw [List.mem_singleton.1 hb']; exact h1
theorem Rec_j3 {h : List UInt8} (hh : h = l.takeWhile isDig) (h1 : 1 ≤ h.length) (h7 : h.length ≤ 7)
    (ho : Out acc (if sizeBad l h (decOf h) = true then err3 5 else splitL (lineL l h (decOf h)) (l.drop (decOf h))) R) :
    Ev (fun k => bindleref01_Records.j3 k acc (ofB l) (h.length : Int) false) R := by
  have hall : h.all isDig = true := by rw [hh, List.all_eq_true]; exact takeWhile_all l
  have hpre : l.take h.length = h := by
    have e : l.takeWhile isDig ++ l.dropWhile isDig = l := List.takeWhile_append_dropWhile
    rw [← hh] at e
    conv => lhs; rw [← e]
    rw [List.take_left]
  have hle : h.length ≤ l.length := by have := congrArg List.length hpre; rw [List.length_take] at this; omega
  have hw := Whole_eq h hall h1 (by omega)
  generalize hn : decOf h = n at *
  refine Ev.step (f := fun k => (bindleref01_Whole.f k (ofB h)).bind fun bt164 => (if bt164.1 > ((ofB l).size : Int) then (bindleref01_Records.j4 k acc (ofB l) (h.length : Int) bt164.1 true) else (if bt164.1 < (wrap64 ((h.length : Int) + 4)) then (bindleref01_Records.j4 k acc (ofB l) (h.length : Int) bt164.1 true) else (if 0 ≤ (wrap64 (bt164.1 - 1)) then (if (wrap64 (bt164.1 - 1)) < ((ofB l).size : Int) then (bindleref01_Records.j4 k acc (ofB l) (h.length : Int) bt164.1 ((bt (ofB l) (wrap64 (bt164.1 - 1))) != 10)) else (none)) else (none))))) (fun k => ?_) ?_
  · rw [bindleref01_Records.j3, if_neg (by decide), if_pos (by omega), if_pos (by rw [ofB_size]; omega), ext_list, ofB_data, show ((h.length : Int)).toNat = h.length by omega, List.drop_zero, hpre]
  · refine Ev.bind hw ?_
    have hbad : sizeBad l h n = true → ∀ g : Nat → Option RR, (∀ k, g k = bindleref01_Records.j4 k acc (ofB l) (h.length : Int) (n : Int) true) → Ev g R := by
      intro hb g hg
      rw [if_pos hb] at ho
      rw [Out_err ho (by decide)]
      exact Ev.congr hg (Ev.step (fun k => by rw [bindleref01_Records.j4, if_pos rfl]) (Ev.now _))
    have w1 : wrap64 ((h.length : Int) + 4) = (h.length : Int) + 4 := w64 (by omega) (by omega)
    by_cases h3 : l.length < n
    · exact hbad (by unfold sizeBad; rw [decide_eq_true h3]; rfl) _ (fun k => by rw [if_pos (by rw [ofB_size]; omega)])
    · by_cases h4 : n < h.length + 4
      · exact hbad (by unfold sizeBad; rw [decide_eq_true h4]; simp) _ (fun k => by rw [if_neg (by rw [ofB_size]; omega), w1, if_pos (by omega)])
      · have w2 : wrap64 ((n : Int) - 1) = ((n - 1 : Nat) : Int) := by unfold wrap64; omega
        have hbt := bt_ofB l (n - 1)
        by_cases h5 : l.getD (n - 1) 0 = 10
        · have hs : sizeBad l h n = false := by unfold sizeBad; rw [decide_eq_false h3, decide_eq_false h4, decide_eq_true h5]; rfl
          rw [hs, if_neg (by decide)] at ho
          refine Ev.congr (f := fun k => bindleref01_Records.j4 k acc (ofB l) (h.length : Int) (n : Int) false) (fun k => ?_) ?_
          · rw [if_neg (by rw [ofB_size]; omega), w1, if_neg (by omega), w2, if_pos (by omega), if_pos (by rw [ofB_size]; omega), hbt, h5]
            rfl
          · have hlz : (lineL l h n).length ≤ l.length := by unfold lineL; rw [List.length_drop, List.length_take]; omega
            refine Ev.step (f := fun k => bindleref01_Records.l2 k acc (ofB l) (n : Int) (ofB (lineL l h n)) (-1) ((0 : Nat) : Int)) (fun k => ?_) (Rec_l2 hl hacc (by omega) hlz ho (lineL l h n).length 0 (by omega) (by simp))
            rw [bindleref01_Records.j4, if_neg (by decide), w64 (by omega) (by omega), w2, if_pos (by omega), if_pos (by omega), if_pos (by rw [ofB_size]; omega), ext_list, ofB_data]
            unfold lineL
            rw [show ((h.length : Int) + 1).toNat = h.length + 1 by omega, show (((n - 1 : Nat) : Int)).toNat = n - 1 by omega]
            rfl
        · have hne : (bt (ofB l) ((n - 1 : Nat) : Int) != 10) = true := by
            rw [hbt, bne_iff_ne, ne_eq]
            intro e
            exact h5 (UInt8.toNat_inj.1 (by show (l.getD (n - 1) 0).toNat = 10; omega))
          exact hbad (by unfold sizeBad; rw [decide_eq_false h5]; simp) _ (fun k => by rw [if_neg (by rw [ofB_size]; omega), w1, if_neg (by omega), w2, if_pos (by omega), if_pos (by rw [ofB_size]; omega), hne])
theorem Rec_j2 (h0 : l ≠ []) (ho : Out acc (oneL l) R) : Ev (fun k => bindleref01_Records.j2 k acc (ofB l) ((l.takeWhile isDig).length : Int)) R := by
  have hlp := List.length_pos_iff.2 h0
  unfold oneL at ho
  generalize hh : l.takeWhile isDig = h at *
  have hle : h.length ≤ l.length := by
    have e : l.takeWhile isDig ++ l.dropWhile isDig = l := List.takeWhile_append_dropWhile
    have := congrArg List.length e
    rw [List.length_append, hh] at this
    omega
  have hbad : headBad l h = true → ∀ g : Nat → Option RR, (∀ k, g (k + 1) = bindleref01_Records.j3 k acc (ofB l) (h.length : Int) true) → Ev g R := by
    intro hb g hg
    rw [if_pos hb] at ho
    rw [Out_err ho (by decide)]
    exact Ev.step hg (Ev.step (fun k => by rw [bindleref01_Records.j3, if_pos rfl]) (Ev.now _))
  have hb0 := bt_ofB l 0
  have hhd : l.head? = some (l.getD 0 0) := by cases l with | nil => exact absurd rfl h0 | cons a t => rfl
  by_cases h1 : h.length < 1
  · exact hbad (by unfold headBad; rw [decide_eq_true h1]; rfl) _ (fun k => by rw [bindleref01_Records.j2, if_pos (by omega)])
  · by_cases h7 : 7 < h.length
    · exact hbad (by unfold headBad; rw [decide_eq_true h7]; simp) _ (fun k => by rw [bindleref01_Records.j2, if_neg (by omega), if_pos (by omega)])
    · by_cases h48 : l.getD 0 0 = 48
      · exact hbad (by unfold headBad; rw [hhd, h48]; simp) _ (fun k => by rw [bindleref01_Records.j2, if_neg (by omega), if_neg (by omega), if_pos (by rw [ofB_size]; omega), if_pos (by rw [show (0 : Int) = ((0 : Nat) : Int) from rfl, hb0, h48]; rfl)])
      · have hn48 : ¬ bt (ofB l) 0 = 48 := by
          rw [show (0 : Int) = ((0 : Nat) : Int) from rfl, hb0]
          intro e
          exact h48 (UInt8.toNat_inj.1 (by show (l.getD 0 0).toNat = 48; omega))
        by_cases hz : h.length = l.length
        · exact hbad (by unfold headBad; rw [hz, List.drop_length]; simp) _ (fun k => by rw [bindleref01_Records.j2, if_neg (by omega), if_neg (by omega), if_pos (by rw [ofB_size]; omega), if_neg hn48, if_pos (by rw [ofB_size]; omega)])
        · have hbt := bt_ofB l h.length
          have hd : (l.drop h.length).head? = some (l.getD h.length 0) := by
            rw [List.drop_eq_getElem_cons (by omega), List.getD_eq_getElem?_getD, List.getElem?_eq_getElem (by omega)]; rfl
          by_cases h32 : l.getD h.length 0 = 32
          · have hok : headBad l h = false := by
              unfold headBad
              rw [hd, h32, hhd, decide_eq_false h1, decide_eq_false h7, decide_eq_false (by simpa using h48)]
              rfl
            rw [hok, if_neg (by decide)] at ho
            refine Ev.step (fun k => ?_) (Rec_j3 hl hacc hh.symm (by omega) (by omega) ho)
            rw [bindleref01_Records.j2, if_neg (by omega), if_neg (by omega), if_pos (by rw [ofB_size]; omega), if_neg hn48, if_neg (by rw [ofB_size]; omega), if_pos (by omega), if_pos (by rw [ofB_size]; omega), hbt, h32]
            rfl
          · have hne : (bt (ofB l) (h.length : Int) != 32) = true := by
              rw [hbt, bne_iff_ne, ne_eq]
              intro e
              exact h32 (UInt8.toNat_inj.1 (by show (l.getD h.length 0).toNat = 32; omega))
            exact hbad (by unfold headBad; rw [hd, show decide (some (l.getD h.length 0) = some 32) = false from decide_eq_false (fun e => h32 (Option.some.inj e)), Bool.not_false, Bool.or_true]) _ (fun k => by rw [bindleref01_Records.j2, if_neg (by omega), if_neg (by omega), if_pos (by rw [ofB_size]; omega), if_neg hn48, if_neg (by rw [ofB_size]; omega), if_pos (by omega), if_pos (by rw [ofB_size]; omega), hne])
theorem Rec_l1 (h0 : l ≠ []) (ho : Out acc (oneL l) R) (d : Nat) : ∀ i : Nat, i + d = (l.takeWhile isDig).length → Ev (fun k => bindleref01_Records.l1 k acc (ofB l) (i : Int)) R := by
  have h2 := Rec_j2 hl hacc h0 ho
  have e : l.takeWhile isDig ++ l.dropWhile isDig = l := List.takeWhile_append_dropWhile
  have hlen := congrArg List.length e
  rw [List.length_append] at hlen
  induction d with
  | zero =>
    intro i hi
    have hi' : i = (l.takeWhile isDig).length := by omega
    subst hi'
    by_cases hz : (l.takeWhile isDig).length < l.length
    · have hb := bt_ofB l (l.takeWhile isDig).length
      have hnd : isDig (l.getD (l.takeWhile isDig).length 0) = false := by
        have hd := drop_takeWhile l
        rw [List.drop_eq_getElem_cons hz] at hd
        have hg : l.getD (l.takeWhile isDig).length 0 = l[(l.takeWhile isDig).length] := by rw [List.getD_eq_getElem?_getD, List.getElem?_eq_getElem hz]; rfl
        rw [hg]
        generalize l[(l.takeWhile isDig).length] = b at *
        generalize l.drop ((l.takeWhile isDig).length + 1) = r at *
        exact dropWhile_head hd.symm
      have hnd' : ¬ (48 ≤ (l.getD (l.takeWhile isDig).length 0).toNat ∧ (l.getD (l.takeWhile isDig).length 0).toNat ≤ 57) := fun h => by rw [(isDig_iff _).2 h] at hnd; cases hnd
      refine Ev.step (fun k => ?_) h2
      rw [bindleref01_Records.l1, if_pos (by rw [ofB_size]; omega), if_pos (by omega), hb]
      by_cases h48 : ((l.getD (l.takeWhile isDig).length 0).toNat : Int) ≥ 48
      · rw [if_pos h48, if_neg (by omega)]
      · rw [if_neg h48]
    · exact Ev.step (fun k => by rw [bindleref01_Records.l1, if_neg (by rw [ofB_size]; omega)]) h2
  | succ d ih =>
    intro i hi
    have hb := bt_ofB l i
    have hg : l.getD i 0 = (l.takeWhile isDig)[i]'(by omega) := by
      rw [List.getD_eq_getElem?_getD]
      conv => lhs; rw [← e]
      rw [List.getElem?_append_left (by omega), List.getElem?_eq_getElem (by omega)]
      rfl
    have hdig := (isDig_iff _).1 (takeWhile_all l _ (List.getElem_mem (l := l.takeWhile isDig) (n := i) (by omega)))
    rw [hg] at hb
    refine Ev.step (f := fun k => bindleref01_Records.l1 k acc (ofB l) ((i + 1 : Nat) : Int)) (fun k => ?_) (ih (i + 1) (by omega))
    rw [bindleref01_Records.l1, if_pos (by rw [ofB_size]; omega), if_pos (by omega), if_pos (by rw [hb]; omega), if_pos (by rw [hb]; omega), w64 (by omega) (by omega)]
    rfl
end
theorem Rec_loop (n : Nat) : ∀ (l : List UInt8) (acc : List S42), l.length ≤ n → l.length ≤ 100000000 → acc.length + n ≤ 100000000 →
    Ev (fun k => bindleref01_Records.l0 k acc (ofB l)) (parseR acc (parseN n l)) := by
  have hnil : ∀ (n : Nat) (acc : List S42), Ev (fun k => bindleref01_Records.l0 k acc (ofB [])) (parseR acc (parseN n [])) := by
    intro n acc
    rw [parseN_0]
    refine Ev.step (fun k => ?_) (Ev.now _)
    rw [bindleref01_Records.l0, if_neg (by rw [ofB_size]; simp)]
    simp [parseR, recs]
  induction n with
  | zero =>
    intro l acc h _ _
    have : l = [] := List.length_eq_zero_iff.1 (by omega)
    subst this
    exact hnil _ _
  | succ n ih =>
    intro l acc h hl ha
    by_cases h0 : l = []
    · subst h0; exact hnil _ _
    · have hlp := List.length_pos_iff.2 h0
      refine Ev.step (f := fun k => bindleref01_Records.l1 k acc (ofB l) ((0 : Nat) : Int)) (fun k => by rw [bindleref01_Records.l0, if_pos (by rw [ofB_size]; omega)]; rfl) (Rec_l1 hl (by omega) h0 ?_ (l.takeWhile isDig).length 0 (by omega))
      unfold Out
      by_cases he : (oneL l).2.2.2 = 0
      · rw [if_pos he]
        have hr := oneL_rest l he h0
        have hi := ih (oneL l).2.2.1 (acc ++ [(⟨ofB (oneL l).1, ofB (oneL l).2.1⟩ : S42)]) (by omega) (by omega) (by rw [List.length_append]; simp only [List.length_cons, List.length_nil]; omega)
        by_cases hp : (parseN n (oneL l).2.2.1).2 = 0
        · rw [parseN_3 h0 he hp, parseR_more]
          have hx : parseN n (oneL l).2.2.1 = ((parseN n (oneL l).2.2.1).1, 0) := Prod.ext rfl hp
          rw [hx] at hi
          exact hi
        · rw [parseN_2 h0 he hp, parseR_bad _ _ hp]
          have hx : parseN n (oneL l).2.2.1 = ((parseN n (oneL l).2.2.1).1, (parseN n (oneL l).2.2.1).2) := rfl
          rw [hx, parseR_bad _ _ hp] at hi
          exact hi
      · rw [if_neg he, parseN_1 h0 he, parseR_bad _ _ he]
/-- **bindleref01.Records is parseL.** -/
theorem Records_eq (xs : List Int) (hx : (strOfNums xs).size ≤ 50000000) :
    Ev (fun k => bindleref01_Records.f k xs) (recs (parseL (strOfNums xs).data.toList).1, (parseL (strOfNums xs).data.toList).2) := by
  have hlen : (strOfNums xs).data.toList.length = (strOfNums xs).size := by simp
  have h := Rec_loop (strOfNums xs).data.toList.length (strOfNums xs).data.toList [] (Nat.le_refl _) (by omega) (by simp only [List.length_nil]; omega)
  rw [ofB_of, parseR_nil] at h
  exact Ev.congr (f := fun k => bindleref01_Records.l0 k [] (strOfNums xs)) (fun k => rfl) h
end Go.Proofs.YtgjkkhdjfppeiaaDoor
