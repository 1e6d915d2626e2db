/-
  bindleref01.Clean, as printed, is path.Clean.
-/
import Derived.Test.YtfljbidecljlcaaDoorRefText
import Derived.Test.YtfljbidecljlcaaDoorCleanL
import Derived.Test.YtfljbidecljlcaaDoorPrint12
namespace Go.Proofs.YtfljbidecljlcaaDoor
open Go.RowKit Go.Proofs.YtfljbidecljlcaaDoor.Print Go.Proofs.YtfljbidecljlcaaDoorW.PrintWords
theorem ofL_app (a b : List UInt8) : ofL a ++ ofL b = ofL (a ++ b) := by
  have : (ofL a ++ ofL b).data.toList = a ++ b := by rw [ByteArray.data_append]; simp [ofL]
  rw [← ofL_data (ofL a ++ ofL b), this]
theorem toL_ofL (a : List UInt8) : (ofL a).toList = a := by rw [Lib.toList_data, data_ofL]
theorem ext_ofL (s : ByteArray) (a b : Nat) : s.extract a b = ofL ((s.data.toList.take b).drop a) := by rw [← ofL_data (s.extract a b), ext_data]
theorem w64_succ (i : Nat) (h : i < 8999999999999999999) : wrap64 ((i : Int) + 1) = ((i + 1 : Nat) : Int) := w64_1 i h
section
variable {s : ByteArray} {out : List UInt8} {a i : Nat} {r : ByteArray × Int}
theorem C_l0_end (h : ¬ (i : Int) ≤ (s.size : Int)) : Ev (fun k => bindleref01_Clean.l0 k s (ofL out) (a : Int) (i : Int)) (ofL (finC out).1, (finC out).2) := by
  unfold finC
  by_cases h1 : out = []
  · rw [if_pos (.inl h1)]
    exact Ev.step (f := fun _ => some (⟨#[]⟩, 6)) (fun k => by rw [bindleref01_Clean.l0, if_neg h, toL_ofL, if_pos h1]) (Ev.now _)
  · by_cases h2 : 200 < out.length
    · rw [if_pos (.inr h2)]
      exact Ev.step (f := fun _ => some (⟨#[]⟩, 6)) (fun k => by rw [bindleref01_Clean.l0, if_neg h, toL_ofL, if_neg h1, size_ofL, if_pos (by omega)]) (Ev.now _)
    · rw [if_neg (by simp [h1]; omega)]
      exact Ev.step (f := fun _ => some (ofL out, 0)) (fun k => by rw [bindleref01_Clean.l0, if_neg h, toL_ofL, if_neg h1, size_ofL, if_neg (by omega)]) (Ev.now _)
theorem C_l0_in (h : (i : Int) < (s.size : Int)) (k : Ev (fun k => bindleref01_Clean.j2 k s (ofL out) (a : Int) (i : Int) (bt s (i : Int) != 47)) r) : Ev (fun k => bindleref01_Clean.l0 k s (ofL out) (a : Int) (i : Int)) r :=
  Ev.step (fun k => by rw [bindleref01_Clean.l0, if_pos (by omega), if_pos h, if_pos (by omega)]) k
theorem C_l0_at (h : (i : Int) = (s.size : Int)) (k : Ev (fun k => bindleref01_Clean.j2 k s (ofL out) (a : Int) (i : Int) false) r) : Ev (fun k => bindleref01_Clean.l0 k s (ofL out) (a : Int) (i : Int)) r :=
  Ev.step (fun k => by rw [bindleref01_Clean.l0, if_pos (by omega), if_neg (by omega)]) k
theorem C_j2_on (hi : i < 8999999999999999999) (k : Ev (fun k => bindleref01_Clean.l0 k s (ofL out) (a : Int) ((i + 1 : Nat) : Int)) r) : Ev (fun k => bindleref01_Clean.j2 k s (ofL out) (a : Int) (i : Int) true) r :=
  Ev.step (fun k => by rw [bindleref01_Clean.j2, if_pos rfl, w64_succ i hi]) k
theorem C_piece (ha : a ≤ i) (hl : i ≤ s.size) (hi : i < 8999999999999999) (ho : out.length ≤ a) (hp : ∀ p, p = (s.data.toList.take i).drop a → p ≠ [46, 46] → Ev (fun k => bindleref01_Clean.l0 k s (ofL (addP out p)) ((i + 1 : Nat) : Int) ((i + 1 : Nat) : Int)) r)
    (hu : (s.data.toList.take i).drop a = [46, 46] → r = (⟨#[]⟩, 6)) : Ev (fun k => bindleref01_Clean.j2 k s (ofL out) (a : Int) (i : Int) false) r := by
  have hx : s.extract a i = ofL ((s.data.toList.take i).drop a) := ext_ofL s a i
  have hpl : ((s.data.toList.take i).drop a).length = i - a := by rw [List.length_drop, List.length_take]; simp; omega
  generalize (s.data.toList.take i).drop a = p at hx hp hu hpl
  have hp' := hp p rfl
  clear hp
  have W := w64_succ i (by omega)
  by_cases c1 : p = [46, 46]
  · rw [hu c1]
    exact Ev.step (f := fun _ => some (⟨#[]⟩, 6)) (fun k => by rw [bindleref01_Clean.j2, if_neg (by decide), if_pos (Int.natCast_nonneg _), if_pos (Int.ofNat_le.2 ha), if_pos (Int.ofNat_le.2 hl), Int.toNat_natCast, Int.toNat_natCast, hx, toL_ofL, if_pos c1]) (Ev.now _)
  have Q := hp' c1
  by_cases c2 : p = []
  · refine Ev.step (f := fun k => bindleref01_Clean.j3 k s (ofL out) ((i + 1 : Nat) : Int) (i : Int) (ofL p) true) (fun k => by
      rw [bindleref01_Clean.j2, if_neg (by decide), if_pos (Int.natCast_nonneg _), if_pos (Int.ofNat_le.2 ha), if_pos (Int.ofNat_le.2 hl), Int.toNat_natCast, Int.toNat_natCast, hx, toL_ofL, if_neg c1, if_pos c2, W]) ?_
    have e : addP out p = out := by subst c2; rfl
    rw [e] at Q
    exact Ev.step (fun k => by rw [bindleref01_Clean.j3, if_pos rfl, W]) Q
  refine Ev.step (f := fun k => bindleref01_Clean.j3 k s (ofL out) ((i + 1 : Nat) : Int) (i : Int) (ofL p) (p == [46])) (fun k => by
      rw [bindleref01_Clean.j2, if_neg (by decide), if_pos (Int.natCast_nonneg _), if_pos (Int.ofNat_le.2 ha), if_pos (Int.ofNat_le.2 hl), Int.toNat_natCast, Int.toNat_natCast, hx, toL_ofL, if_neg c1, if_neg c2, W]) ?_
  by_cases c3 : p = [46]
  · have e : addP out p = out := by subst c3; rfl
    rw [e] at Q
    exact Ev.step (fun k => by rw [bindleref01_Clean.j3, if_pos (by simpa using c3), W]) Q
  have hk : keepL p = true := by simp [keepL, c2, c3]
  have sp := size_ofL p
  have so := size_ofL out
  by_cases c4 : out = []
  · have e : addP out p = out ++ p := by simp [addP, hk, c4]
    rw [e] at Q
    exact Ev.step (fun k => by rw [bindleref01_Clean.j3, if_neg (by simpa using c3), toL_ofL, if_pos c4, if_pos (by omega), ofL_app, W]) Q
  · have e : addP out p = (out ++ [47]) ++ p := by simp [addP, hk, c4]
    rw [e] at Q
    have h47 : (⟨#[47]⟩ : ByteArray) = ofL [47] := rfl
    have s1 := size_ofL (out ++ [47])
    rw [List.length_append] at s1
    simp only [List.length_singleton] at s1
    exact Ev.step (fun k => by rw [bindleref01_Clean.j3, if_neg (by simpa using c3), toL_ofL, if_neg c4, if_pos (by omega), h47, ofL_app, if_pos (by omega), ofL_app, W]) Q
end
theorem addP_len (out p : List UInt8) (a i : Nat) (h : out.length ≤ a) (hp : p.length = i - a) (ha : a ≤ i) : (addP out p).length ≤ i + 1 := by
  unfold addP
  split
  · split
    · omega
    · simp; omega
  · omega
theorem Clean_loop (s : ByteArray) (hs : s.size ≤ 8000000000000000) : ∀ (n i a : Nat) (out : List UInt8), i + n = s.size → a ≤ i → out.length ≤ a → (∀ c ∈ (s.data.toList.take i).drop a, c ≠ 47) →
    Ev (fun k => bindleref01_Clean.l0 k s (ofL out) (a : Int) (i : Int)) (ofL (foldC out (splitB (s.data.toList.drop a))).1, (foldC out (splitB (s.data.toList.drop a))).2) := by
  intro n
  have hl : s.data.toList.length = s.size := by simp
  induction n with
  | zero =>
    intro i a out hn ha ho hno
    have hdrop : (s.data.toList.take i).drop a = s.data.toList.drop a := by rw [List.take_of_length_le (by omega)]
    rw [hdrop] at hno
    rw [splitB_no _ hno]
    refine C_l0_at (by omega) (C_piece ha (by omega) (by omega) ho ?_ ?_)
    · intro p hp hne
      rw [hdrop] at hp
      rw [← hp, foldC_cons _ _ _ hne, foldC_nil]
      exact C_l0_end (by omega)
    · intro e
      rw [hdrop] at e
      rw [foldC_up _ _ _ e]
      rfl
  | succ n ih =>
    intro i a out hn ha ho hno
    have hbt := bt_getD s i
    have hget : s.data.toList.getD i 0 = s.data.toList[i]'(by omega) := by rw [List.getD_eq_getElem?_getD, List.getElem?_eq_getElem (by omega)]; rfl
    refine C_l0_in (by omega) ?_
    by_cases c : s.data.toList[i]'(by omega) = 47
    · have hf : (bt s (i : Int) != 47) = false := by rw [hbt, hget, c]; rfl
      rw [hf]
      have hsp : s.data.toList.drop a = (s.data.toList.take i).drop a ++ 47 :: s.data.toList.drop (i + 1) := by
        rw [← c, ← List.drop_eq_getElem_cons (by omega)]
        conv => lhs; rw [← List.take_append_drop i s.data.toList]
        rw [List.drop_append_of_le_length (by rw [List.length_take]; omega)]
      have hpl : ((s.data.toList.take i).drop a).length = i - a := by rw [List.length_drop, List.length_take]; omega
      rw [hsp, splitB_app _ _ hno]
      refine C_piece ha (by omega) (by omega) ho ?_ ?_
      · intro p hp hne
        rw [← hp, foldC_cons _ _ _ hne]
        refine ih (i + 1) (i + 1) _ (by omega) (Nat.le_refl _) (addP_len _ _ a i ho (by rw [hp]; exact hpl) ha) ?_
        intro x hx
        rw [List.drop_eq_nil_of_le (by rw [List.length_take]; omega)] at hx
        simp at hx
      · intro e
        rw [foldC_up _ _ _ e]
        rfl
    · have hf : (bt s (i : Int) != 47) = true := by
        rw [hbt, hget]
        simp only [bne_iff_ne, ne_eq]
        intro e
        exact c (UInt8.toNat_inj.1 (show (s.data.toList[i]'(by omega)).toNat = 47 by omega))
      rw [hf]
      refine C_j2_on (by omega) (ih (i + 1) a out (by omega) (by omega) ho ?_)
      intro x hx
      rw [List.take_succ_eq_append_getElem (by omega), List.drop_append_of_le_length (by rw [List.length_take]; omega)] at hx
      rcases List.mem_append.1 hx with hx | hx
      · exact hno x hx
      · rw [List.mem_singleton.1 hx]; exact c
/-- **bindleref01.Clean is path.Clean.** -/
theorem RefClean_eq (s : ByteArray) (hs : s.size ≤ 8000000000000000) : Ev (fun k => bindleref01_Clean.f k s) (cleanF s) := by
  have hT := Text_eq s (by omega)
  have hL := Clean_loop s hs s.size 0 0 [] (by omega) (by omega) (by simp) (by simp)
  rw [cleanF_L, cleanL_fold]
  have eg : rightB s = goodL s.data.toList := rightB_good s
  rw [← eg]
  refine Ev.congr (f := fun k => (bindleref01_Text.f k s).bind fun t109 => (if t109 = true then (if s.toList = ([] : List UInt8) then (bindleref01_Clean.j0 k s true) else (if 0 < (s.size : Int) then (bindleref01_Clean.j0 k s ((bt s 0) == 47)) else (none))) else (some ((⟨#[]⟩ : ByteArray), 9)))) (fun k => rfl) ?_
  refine Ev.bind hT ?_
  cases rightB s with
  | false => exact Ev.congr (fun k => rfl) (Ev.now _)
  | true =>
    simp only [if_true]
    rw [if_neg (by simp)]
    by_cases h0 : s.data.toList = []
    · have e : s.toList = [] := by rw [Lib.toList_data]; exact h0
      refine Ev.congr (f := fun k => bindleref01_Clean.j0 k s true) (fun k => by rw [if_pos e]) ?_
      rw [h0]
      exact Ev.step (f := fun _ => some (⟨#[]⟩, 6)) (fun k => by rw [bindleref01_Clean.j0, if_pos rfl]) (Ev.now _)
    · have e : ¬ s.toList = [] := by rw [Lib.toList_data]; exact h0
      have hpos : 0 < s.size := by have := List.length_pos_iff.2 h0; simpa using this
      refine Ev.congr (f := fun k => bindleref01_Clean.j0 k s ((bt s 0) == 47)) (fun k => by rw [if_neg e, if_pos (by omega)]) ?_
      have hb := bt_getD s 0
      cases hd : s.data.toList with
      | nil => exact absurd hd h0
      | cons c t =>
        rw [hd] at hb hL
        have hb' : bt s 0 = (c.toNat : Int) := by simpa using hb
        by_cases hc : c = 47
        · subst hc
          have : (bt s 0 == 47) = true := by rw [hb']; rfl
          rw [this, if_pos (by rfl)]
          exact Ev.step (f := fun _ => some (⟨#[]⟩, 6)) (fun k => by rw [bindleref01_Clean.j0, if_pos rfl]) (Ev.now _)
        · have : (bt s 0 == 47) = false := by
            rw [hb']
            simp only [beq_eq_false_iff_ne, ne_eq]
            intro e
            exact hc (by simpa using (UInt8.toNat_inj (b := 47)).1 (by simpa using (show c.toNat = 47 by omega)))
          rw [this, if_neg (by simpa using hc)]
          refine Ev.step (fun k => by rw [bindleref01_Clean.j0, if_neg (by decide)]) ?_
          simp only [List.drop_zero] at hL
          exact hL
end Go.Proofs.YtfljbidecljlcaaDoor
