/-
  bindleref01.Text, as printed, is path.right.
-/
import Derived.Test.YtfljbidecljlcaaDoorTextP
import Derived.Lib.Hide
import Derived.Test.YtfljbidecljlcaaDoorPrint11
namespace Go.Proofs.YtfljbidecljlcaaDoor
open Go.RowKit Go.Proofs.YtfljbidecljlcaaDoor.Print Go.Proofs.YtfljbidecljlcaaDoorW.PrintWords
theorem bt_getD (s : ByteArray) (i : Nat) : bt s (i : Int) = ((s.data.toList.getD i 0).toNat : Int) := by
  unfold bt
  rw [Lib.getD_get!']
  split
  · rename_i h
    simp only [Int.toNat_natCast] at h ⊢
    congr 2
    exact (getElem!_pos s.data i h).symm
  · rename_i h
    simp only [Int.toNat_natCast] at h
    have : s.get! i = 0 := by
      show s.data[i]! = 0
      rw [getElem!_neg s.data i h]; rfl
    rw [this]; rfl
theorem goodF_fuel : ∀ (n m : Nat) (l : List UInt8), l.length ≤ n → l.length ≤ m → goodF n l = goodF m l := by
  intro n
  induction n with
  | zero =>
    intro m l h _
    have : l = [] := List.length_eq_zero_iff.1 (by omega)
    subst this
    cases m <;> simp [goodF]
  | succ n ih =>
    intro m l h h2
    cases m with
    | zero =>
      have : l = [] := List.length_eq_zero_iff.1 (by omega)
      subst this
      simp [goodF]
    | succ m =>
      simp only [goodF]
      split
      · rfl
      · split
        · rfl
        · exact ih _ _ (by rw [List.length_drop]; omega) (by rw [List.length_drop]; omega)
theorem w64 {x : Int} (h0 : 0 ≤ x) (h : x < 9000000000000000000) : wrap64 x = x := by unfold wrap64; omega
section
variable {s : ByteArray} {x3 x4 x5 x6 : Int} {r : Bool}
theorem T_l1_more (h : x6 < x5) (h0 : 0 ≤ wrap64 (x3 + x6)) (h1 : wrap64 (x3 + x6) < (s.size : Int)) (c1 : ¬ bt s (wrap64 (x3 + x6)) < 128) (c2 : ¬ bt s (wrap64 (x3 + x6)) > 191)
    (k : Ev (fun k => bindleref01_Text.l1 k s x3 x4 x5 (wrap64 (x6 + 1))) r) : Ev (fun k => bindleref01_Text.l1 k s x3 x4 x5 x6) r :=
  Ev.step (fun k => by rw [bindleref01_Text.l1, if_pos h, if_pos h0, if_pos h1, if_neg c1, if_neg c2]) k
theorem T_l1_low (h : x6 < x5) (h0 : 0 ≤ wrap64 (x3 + x6)) (h1 : wrap64 (x3 + x6) < (s.size : Int)) (c1 : bt s (wrap64 (x3 + x6)) < 128) : Ev (fun k => bindleref01_Text.l1 k s x3 x4 x5 x6) false :=
  Ev.step (f := fun _ => some false) (fun k => by rw [bindleref01_Text.l1, if_pos h, if_pos h0, if_pos h1, if_pos c1]) (Ev.now _)
theorem T_l1_high (h : x6 < x5) (h0 : 0 ≤ wrap64 (x3 + x6)) (h1 : wrap64 (x3 + x6) < (s.size : Int)) (c1 : ¬ bt s (wrap64 (x3 + x6)) < 128) (c2 : bt s (wrap64 (x3 + x6)) > 191) : Ev (fun k => bindleref01_Text.l1 k s x3 x4 x5 x6) false :=
  Ev.step (f := fun _ => some false) (fun k => by rw [bindleref01_Text.l1, if_pos h, if_pos h0, if_pos h1, if_neg c1, if_pos c2]) (Ev.now _)
theorem T_l1_end (h : ¬ x6 < x5) (n3 : ¬ x5 = 3) (n4 : ¬ x5 = 4) (k : Ev (fun k => bindleref01_Text.l0 k s (wrap64 (x3 + x5))) r) : Ev (fun k => bindleref01_Text.l1 k s x3 x4 x5 x6) r :=
  Ev.step (fun k => by rw [bindleref01_Text.l1, if_neg h, if_neg n3, if_neg n4]) k
theorem T_l1_3a (h : ¬ x6 < 3) (e : x4 = 224) (h0 : 0 ≤ wrap64 (x3 + 1)) (h1 : wrap64 (x3 + 1) < (s.size : Int)) (c : bt s (wrap64 (x3 + 1)) < 160) : Ev (fun k => bindleref01_Text.l1 k s x3 x4 3 x6) false :=
  Ev.step (f := fun _ => some false) (fun k => by rw [bindleref01_Text.l1, if_neg h, if_pos rfl, if_pos e, if_pos h0, if_pos h1, if_pos c]) (Ev.now _)
theorem T_l1_3b (h : ¬ x6 < 3) (e : x4 = 224) (h0 : 0 ≤ wrap64 (x3 + 1)) (h1 : wrap64 (x3 + 1) < (s.size : Int)) (c : ¬ bt s (wrap64 (x3 + 1)) < 160) (k : Ev (fun k => bindleref01_Text.l0 k s (wrap64 (x3 + 3))) r) : Ev (fun k => bindleref01_Text.l1 k s x3 x4 3 x6) r :=
  Ev.step (fun k => by rw [bindleref01_Text.l1, if_neg h, if_pos rfl, if_pos e, if_pos h0, if_pos h1, if_neg c, if_neg (show ¬ x4 = 237 by omega), if_neg (by decide)]) k
theorem T_l1_3c (h : ¬ x6 < 3) (e : x4 = 237) (h0 : 0 ≤ wrap64 (x3 + 1)) (h1 : wrap64 (x3 + 1) < (s.size : Int)) (c : bt s (wrap64 (x3 + 1)) > 159) : Ev (fun k => bindleref01_Text.l1 k s x3 x4 3 x6) false :=
  Ev.step (f := fun _ => some false) (fun k => by rw [bindleref01_Text.l1, if_neg h, if_pos rfl, if_neg (show ¬ x4 = 224 by omega), if_pos e, if_pos h0, if_pos h1, if_pos c]) (Ev.now _)
theorem T_l1_3d (h : ¬ x6 < 3) (e : x4 = 237) (h0 : 0 ≤ wrap64 (x3 + 1)) (h1 : wrap64 (x3 + 1) < (s.size : Int)) (c : ¬ bt s (wrap64 (x3 + 1)) > 159) (k : Ev (fun k => bindleref01_Text.l0 k s (wrap64 (x3 + 3))) r) : Ev (fun k => bindleref01_Text.l1 k s x3 x4 3 x6) r :=
  Ev.step (fun k => by rw [bindleref01_Text.l1, if_neg h, if_pos rfl, if_neg (show ¬ x4 = 224 by omega), if_pos e, if_pos h0, if_pos h1, if_neg c, if_neg (by decide)]) k
theorem T_l1_3e (h : ¬ x6 < 3) (e : ¬ x4 = 224) (e2 : ¬ x4 = 237) (k : Ev (fun k => bindleref01_Text.l0 k s (wrap64 (x3 + 3))) r) : Ev (fun k => bindleref01_Text.l1 k s x3 x4 3 x6) r :=
  Ev.step (fun k => by rw [bindleref01_Text.l1, if_neg h, if_pos rfl, if_neg e, if_neg e2, if_neg (by decide)]) k
theorem T_l1_4a (h : ¬ x6 < 4) (e : x4 = 240) (h0 : 0 ≤ wrap64 (x3 + 1)) (h1 : wrap64 (x3 + 1) < (s.size : Int)) (c : bt s (wrap64 (x3 + 1)) < 144) : Ev (fun k => bindleref01_Text.l1 k s x3 x4 4 x6) false :=
  Ev.step (f := fun _ => some false) (fun k => by rw [bindleref01_Text.l1, if_neg h, if_neg (by decide), if_pos rfl, if_pos e, if_pos h0, if_pos h1, if_pos c]) (Ev.now _)
theorem T_l1_4b (h : ¬ x6 < 4) (e : x4 = 240) (h0 : 0 ≤ wrap64 (x3 + 1)) (h1 : wrap64 (x3 + 1) < (s.size : Int)) (c : ¬ bt s (wrap64 (x3 + 1)) < 144) (k : Ev (fun k => bindleref01_Text.l0 k s (wrap64 (x3 + 4))) r) : Ev (fun k => bindleref01_Text.l1 k s x3 x4 4 x6) r :=
  Ev.step (fun k => by rw [bindleref01_Text.l1, if_neg h, if_neg (by decide), if_pos rfl, if_pos e, if_pos h0, if_pos h1, if_neg c, if_neg (show ¬ x4 = 244 by omega)]) k
theorem T_l1_4c (h : ¬ x6 < 4) (e : x4 = 244) (h0 : 0 ≤ wrap64 (x3 + 1)) (h1 : wrap64 (x3 + 1) < (s.size : Int)) (c : bt s (wrap64 (x3 + 1)) > 143) : Ev (fun k => bindleref01_Text.l1 k s x3 x4 4 x6) false :=
  Ev.step (f := fun _ => some false) (fun k => by rw [bindleref01_Text.l1, if_neg h, if_neg (by decide), if_pos rfl, if_neg (show ¬ x4 = 240 by omega), if_pos e, if_pos h0, if_pos h1, if_pos c]) (Ev.now _)
theorem T_l1_4d (h : ¬ x6 < 4) (e : x4 = 244) (h0 : 0 ≤ wrap64 (x3 + 1)) (h1 : wrap64 (x3 + 1) < (s.size : Int)) (c : ¬ bt s (wrap64 (x3 + 1)) > 143) (k : Ev (fun k => bindleref01_Text.l0 k s (wrap64 (x3 + 4))) r) : Ev (fun k => bindleref01_Text.l1 k s x3 x4 4 x6) r :=
  Ev.step (fun k => by rw [bindleref01_Text.l1, if_neg h, if_neg (by decide), if_pos rfl, if_neg (show ¬ x4 = 240 by omega), if_pos e, if_pos h0, if_pos h1, if_neg c]) k
theorem T_l1_4e (h : ¬ x6 < 4) (e : ¬ x4 = 240) (e2 : ¬ x4 = 244) (k : Ev (fun k => bindleref01_Text.l0 k s (wrap64 (x3 + 4))) r) : Ev (fun k => bindleref01_Text.l1 k s x3 x4 4 x6) r :=
  Ev.step (fun k => by rw [bindleref01_Text.l1, if_neg h, if_neg (by decide), if_pos rfl, if_neg e, if_neg e2]) k
theorem T_j3_short (h : wrap64 ((s.size : Int) - x3) < x5) : Ev (fun k => bindleref01_Text.j3 k s x3 x4 x5) false :=
  Ev.step (f := fun _ => some false) (fun k => by rw [bindleref01_Text.j3, if_pos h]) (Ev.now _)
theorem T_j3 (h : ¬ wrap64 ((s.size : Int) - x3) < x5) (k : Ev (fun k => bindleref01_Text.l1 k s x3 x4 x5 1) r) : Ev (fun k => bindleref01_Text.j3 k s x3 x4 x5) r :=
  Ev.step (fun k => by rw [bindleref01_Text.j3, if_neg h]) k
/-- The head byte decides how many follow. -/
theorem T_head {i : Int} (hi : 0 ≤ i) (hl : i < (s.size : Int)) {b : Nat} (hb : wrap64 (bt s i) = (b : Int)) (hz : b ≠ 0) (hlt : b < 245) (h194 : b < 128 ∨ 194 ≤ b)
    (k : Ev (fun k => bindleref01_Text.j3 k s i (b : Int) (if b < 128 then 1 else if b < 224 then 2 else if b < 240 then 3 else 4)) r) : Ev (fun k => bindleref01_Text.l0 k s i) r := by
  by_cases c1 : b < 128
  · rw [if_pos c1] at k
    exact Ev.step (fun k => by rw [bindleref01_Text.l0, if_pos hl, if_pos hi, hb, if_neg (by omega), if_pos (by omega)]) k
  rw [if_neg c1] at k
  refine Ev.step (f := fun k => bindleref01_Text.j1 k s i b (decide ((b : Int) < 224))) (fun k => by rw [bindleref01_Text.l0, if_pos hl, if_pos hi, hb, if_neg (by omega), if_neg (by omega), if_pos (by omega)]) ?_
  by_cases c2 : b < 224
  · rw [if_pos c2] at k
    exact Ev.step (fun k => by rw [bindleref01_Text.j1, if_pos (decide_eq_true (by omega))]) k
  rw [if_neg c2] at k
  refine Ev.step (f := fun k => bindleref01_Text.j2 k s i b (decide ((b : Int) < 240))) (fun k => by rw [bindleref01_Text.j1, if_neg (by rw [decide_eq_false (by omega)]; decide), if_pos (by omega)]) ?_
  by_cases c3 : b < 240
  · rw [if_pos c3] at k
    exact Ev.step (fun k => by rw [bindleref01_Text.j2, if_pos (decide_eq_true (by omega))]) k
  · rw [if_neg c3] at k
    exact Ev.step (fun k => by rw [bindleref01_Text.j2, if_neg (by rw [decide_eq_false (by omega)]; decide), if_pos (by omega), if_pos (by omega)]) k
theorem T_headbad {i : Int} (hi : 0 ≤ i) (hl : i < (s.size : Int)) {b : Nat} (hb : wrap64 (bt s i) = (b : Int)) (h : b = 0 ∨ (128 ≤ b ∧ b < 194) ∨ 245 ≤ b) : Ev (fun k => bindleref01_Text.l0 k s i) false := by
  by_cases c0 : b = 0
  · exact Ev.step (f := fun _ => some false) (fun k => by rw [bindleref01_Text.l0, if_pos hl, if_pos hi, hb, if_pos (by omega)]) (Ev.now _)
  by_cases c1 : b < 194
  · refine Ev.step (f := fun k => bindleref01_Text.j1 k s i b false) (fun k => by rw [bindleref01_Text.l0, if_pos hl, if_pos hi, hb, if_neg (by omega), if_neg (by omega), if_neg (by omega)]) ?_
    refine Ev.step (f := fun k => bindleref01_Text.j2 k s i b false) (fun k => by rw [bindleref01_Text.j1, if_neg (by decide), if_neg (by omega)]) ?_
    exact Ev.step (f := fun _ => some false) (fun k => by rw [bindleref01_Text.j2, if_neg (by decide), if_neg (by omega)]) (Ev.now _)
  · refine Ev.step (f := fun k => bindleref01_Text.j1 k s i b (decide ((b : Int) < 224))) (fun k => by rw [bindleref01_Text.l0, if_pos hl, if_pos hi, hb, if_neg (by omega), if_neg (by omega), if_pos (by omega)]) ?_
    refine Ev.step (f := fun k => bindleref01_Text.j2 k s i b (decide ((b : Int) < 240))) (fun k => by rw [bindleref01_Text.j1, if_neg (by rw [decide_eq_false (by omega)]; decide), if_pos (by omega)]) ?_
    exact Ev.step (f := fun _ => some false) (fun k => by rw [bindleref01_Text.j2, if_neg (by rw [decide_eq_false (by omega)]; decide), if_pos (by omega), if_neg (by omega)]) (Ev.now _)
end
theorem w64_1 (i : Nat) (h : i < 8999999999999999999) : wrap64 ((i : Int) + 1) = ((i + 1 : Nat) : Int) := by unfold wrap64; omega
theorem w64_2 (i : Nat) (h : i < 8999999999999999999) : wrap64 ((i : Int) + 2) = ((i + 2 : Nat) : Int) := by unfold wrap64; omega
theorem w64_3 (i : Nat) (h : i < 8999999999999999999) : wrap64 ((i : Int) + 3) = ((i + 3 : Nat) : Int) := by unfold wrap64; omega
theorem w64_4 (i : Nat) (h : i < 8999999999999999999) : wrap64 ((i : Int) + 4) = ((i + 4 : Nat) : Int) := by unfold wrap64; omega
theorem w64_sub (a b n : Nat) (h : b + n = a) (h2 : a < 8999999999999999999) : wrap64 ((a : Int) - (b : Int)) = (n : Int) := by unfold wrap64; omega
theorem w64_byte (b : Nat) (h : b < 256) : wrap64 (b : Int) = (b : Int) := by unfold wrap64; omega
set_option maxHeartbeats 1000000 in
theorem Text_loop (s : ByteArray) (hs : s.size ≤ 8000000000000000000) : ∀ (n i : Nat), i + n = s.size → Ev (fun k => bindleref01_Text.l0 k s (i : Int)) (goodF n (s.data.toList.drop i)) := by
  intro n
  induction n using Nat.strongRecOn with
  | _ n ih =>
  intro i hn
  have hlen : (s.data.toList.drop i).length = n := by rw [List.length_drop]; simp; omega
  cases n with
  | zero =>
    have hz : s.data.toList.drop i = [] := List.length_eq_zero_iff.1 hlen
    rw [hz]
    exact Ev.step (f := fun _ => some true) (fun k => by rw [bindleref01_Text.l0, if_neg (by omega)]) (Ev.now _)
  | succ n =>
    have hne : s.data.toList.drop i ≠ [] := fun e => by rw [e] at hlen; simp at hlen
    have hg : goodF (n + 1) (s.data.toList.drop i) = if step (s.data.toList.drop i) = 0 then false else goodF n (s.data.toList.drop (i + step (s.data.toList.drop i))) := by
      simp only [goodF, if_neg hne, List.drop_drop]
    have hst : step (s.data.toList.drop i) = stepN (n + 1) (s.data.toList.getD i 0).toNat (s.data.toList.getD (i + 1) 0).toNat (s.data.toList.getD (i + 2) 0).toNat (s.data.toList.getD (i + 3) 0).toNat := by
      unfold step
      rw [hlen, Lib.getD_dropU, Lib.getD_dropU, Lib.getD_dropU, Lib.getD_dropU]
      rfl
    have next : ∀ (w : Nat), 1 ≤ w → w ≤ n + 1 → Ev (fun k => bindleref01_Text.l0 k s ((i + w : Nat) : Int)) (goodF n (s.data.toList.drop (i + w))) := by
      intro w h1 h2
      have := ih (n + 1 - w) (by omega) (i + w) (by omega)
      rwa [goodF_fuel (n + 1 - w) n _ (by rw [List.length_drop]; simp; omega) (by rw [List.length_drop]; simp; omega)] at this
    obtain ⟨fin, hfin⟩ : ∃ fin : Nat → Bool, fin = fun w => if w = 0 then false else goodF n (s.data.toList.drop (i + w)) := ⟨_, rfl⟩
    have F0 : fin 0 = false := by rw [hfin]; rfl
    have nextF : ∀ (w : Nat), 1 ≤ w → w ≤ n + 1 → Ev (fun k => bindleref01_Text.l0 k s ((i + w : Nat) : Int)) (fin w) := by
      intro w h1 h2
      rw [hfin]
      simp only
      rw [if_neg (by omega)]
      exact next w h1 h2
    have hgf : goodF (n + 1) (s.data.toList.drop i) = fin (step (s.data.toList.drop i)) := by rw [hfin, hg]
    rw [hgf, hst]
    clear hgf hfin next
    have e0 := bt_getD s i
    have e1 := bt_getD s (i + 1)
    have e2 := bt_getD s (i + 2)
    have e3 := bt_getD s (i + 3)
    have r0 := byte_lt (s.data.toList.getD i 0)
    have r1 := byte_lt (s.data.toList.getD (i + 1) 0)
    have r2 := byte_lt (s.data.toList.getD (i + 2) 0)
    have r3 := byte_lt (s.data.toList.getD (i + 3) 0)
    generalize (s.data.toList.getD i 0).toNat = b0 at *
    generalize (s.data.toList.getD (i + 1) 0).toNat = b1 at *
    generalize (s.data.toList.getD (i + 2) 0).toNat = b2 at *
    generalize (s.data.toList.getD (i + 3) 0).toNat = b3 at *
    clear hg hst hne hlen ih
    have hw0 := Lib.hid (show wrap64 (bt s (i : Int)) = (b0 : Int) by rw [e0]; exact w64_byte _ r0)
    have hsz := Lib.hid (w64_sub s.size i (n + 1) hn (by omega))
    have ha1 := Lib.hid (w64_1 i (by omega))
    have ha2 := Lib.hid (w64_2 i (by omega))
    have ha3 := Lib.hid (w64_3 i (by omega))
    have ha4 := Lib.hid (w64_4 i (by omega))
    have w2 := Lib.hid (show wrap64 (1 + 1 : Int) = 2 by unfold wrap64; omega)
    have w3 := Lib.hid (show wrap64 (2 + 1 : Int) = 3 by unfold wrap64; omega)
    have w4 := Lib.hid (show wrap64 (3 + 1 : Int) = 4 by unfold wrap64; omega)
    have hlt : (i : Int) < (s.size : Int) := by omega
    have hge : (0 : Int) ≤ (i : Int) := by omega
    unfold stepN
    by_cases hbad : b0 = 0 ∨ (128 ≤ b0 ∧ b0 < 194) ∨ 245 ≤ b0
    · have := T_headbad hge hlt hw0.out hbad
      have hz : (if b0 = 0 then 0 else if b0 < 128 then 1 else if b0 < 194 then 0 else if b0 < 224 then (if 2 ≤ n + 1 ∧ 128 ≤ b1 ∧ b1 ≤ 191 then 2 else 0)
          else if b0 < 240 then (if 3 ≤ n + 1 ∧ 128 ≤ b1 ∧ b1 ≤ 191 ∧ 128 ≤ b2 ∧ b2 ≤ 191 ∧ ¬ (b0 = 224 ∧ b1 < 160) ∧ ¬ (b0 = 237 ∧ 159 < b1) then 3 else 0)
          else if b0 < 245 then (if 4 ≤ n + 1 ∧ 128 ≤ b1 ∧ b1 ≤ 191 ∧ 128 ≤ b2 ∧ b2 ≤ 191 ∧ 128 ≤ b3 ∧ b3 ≤ 191 ∧ ¬ (b0 = 240 ∧ b1 < 144) ∧ ¬ (b0 = 244 ∧ 143 < b1) then 4 else 0)
          else 0) = 0 := by
        repeat' split
        all_goals omega
      rw [hz, F0]
      exact this
    have hnz : ¬ b0 = 0 := fun e => hbad (.inl e)
    refine T_head hge hlt hw0.out hnz (by omega) (by omega) ?_
    rw [if_neg hnz]
    by_cases c1 : b0 < 128
    · rw [if_pos c1, if_pos c1]
      refine T_j3 (by rw [hsz.out]; omega) (T_l1_end (by omega) (by omega) (by omega) ?_)
      rw [ha1.out]
      exact nextF 1 (by omega) (by omega)
    rw [if_neg c1, if_neg c1, if_neg (show ¬ b0 < 194 by omega)]
    by_cases c2 : b0 < 224
    · rw [if_pos c2, if_pos c2]
      by_cases c4 : 2 ≤ n + 1
      · refine T_j3 (by rw [hsz.out]; omega) ?_
        by_cases c5 : 128 ≤ b1
        · by_cases c6 : b1 ≤ 191
          · refine T_l1_more (by omega) (by rw [ha1.out]; omega) (by rw [ha1.out]; omega) (by rw [ha1.out, e1]; omega) (by rw [ha1.out, e1]; omega) ?_
            rw [w2.out]
            refine T_l1_end (by omega) (by omega) (by omega) ?_
            rw [if_pos ⟨c4, c5, c6⟩, ha2.out]
            exact nextF 2 (by omega) (by omega)
          · rw [if_neg (fun h => c6 h.2.2), F0]
            exact T_l1_high (by omega) (by rw [ha1.out]; omega) (by rw [ha1.out]; omega) (by rw [ha1.out, e1]; omega) (by rw [ha1.out, e1]; omega)
        · rw [if_neg (fun h => c5 h.2.1), F0]
          exact T_l1_low (by omega) (by rw [ha1.out]; omega) (by rw [ha1.out]; omega) (by rw [ha1.out, e1]; omega)
      · rw [if_neg (fun h => c4 h.1), F0]
        exact T_j3_short (by rw [hsz.out]; omega)
    rw [if_neg c2, if_neg c2]
    by_cases c3 : b0 < 240
    · rw [if_pos c3, if_pos c3]
      by_cases c4 : 3 ≤ n + 1
      · refine T_j3 (by rw [hsz.out]; omega) ?_
        by_cases c5 : 128 ≤ b1
        · by_cases c6 : b1 ≤ 191
          · refine T_l1_more (by omega) (by rw [ha1.out]; omega) (by rw [ha1.out]; omega) (by rw [ha1.out, e1]; omega) (by rw [ha1.out, e1]; omega) ?_
            rw [w2.out]
            by_cases c7 : 128 ≤ b2
            · by_cases c8 : b2 ≤ 191
              · refine T_l1_more (by omega) (by rw [ha2.out]; omega) (by rw [ha2.out]; omega) (by rw [ha2.out, e2]; omega) (by rw [ha2.out, e2]; omega) ?_
                rw [w3.out]
                have N := nextF 3 (by omega) (by omega)
                by_cases d1 : b0 = 224
                · by_cases d2 : b1 < 160
                  · rw [if_neg (fun h => h.2.2.2.2.2.1 ⟨d1, d2⟩), F0]
                    exact T_l1_3a (by omega) (by omega) (by rw [ha1.out]; omega) (by rw [ha1.out]; omega) (by rw [ha1.out, e1]; omega)
                  · rw [if_pos ⟨c4, c5, c6, c7, c8, fun h => d2 h.2, fun h => by omega⟩]
                    exact T_l1_3b (by omega) (by omega) (by rw [ha1.out]; omega) (by rw [ha1.out]; omega) (by rw [ha1.out, e1]; omega) (by rw [ha3.out]; exact N)
                · by_cases d3 : b0 = 237
                  · by_cases d4 : 159 < b1
                    · rw [if_neg (fun h => h.2.2.2.2.2.2 ⟨d3, d4⟩), F0]
                      exact T_l1_3c (by omega) (by omega) (by rw [ha1.out]; omega) (by rw [ha1.out]; omega) (by rw [ha1.out, e1]; omega)
                    · rw [if_pos ⟨c4, c5, c6, c7, c8, fun h => d1 h.1, fun h => d4 h.2⟩]
                      exact T_l1_3d (by omega) (by omega) (by rw [ha1.out]; omega) (by rw [ha1.out]; omega) (by rw [ha1.out, e1]; omega) (by rw [ha3.out]; exact N)
                  · rw [if_pos ⟨c4, c5, c6, c7, c8, fun h => d1 h.1, fun h => d3 h.1⟩]
                    exact T_l1_3e (by omega) (by omega) (by omega) (by rw [ha3.out]; exact N)
              · rw [if_neg (fun h => c8 h.2.2.2.2.1), F0]
                exact T_l1_high (by omega) (by rw [ha2.out]; omega) (by rw [ha2.out]; omega) (by rw [ha2.out, e2]; omega) (by rw [ha2.out, e2]; omega)
            · rw [if_neg (fun h => c7 h.2.2.2.1), F0]
              exact T_l1_low (by omega) (by rw [ha2.out]; omega) (by rw [ha2.out]; omega) (by rw [ha2.out, e2]; omega)
          · rw [if_neg (fun h => c6 h.2.2.1), F0]
            exact T_l1_high (by omega) (by rw [ha1.out]; omega) (by rw [ha1.out]; omega) (by rw [ha1.out, e1]; omega) (by rw [ha1.out, e1]; omega)
        · rw [if_neg (fun h => c5 h.2.1), F0]
          exact T_l1_low (by omega) (by rw [ha1.out]; omega) (by rw [ha1.out]; omega) (by rw [ha1.out, e1]; omega)
      · rw [if_neg (fun h => c4 h.1), F0]
        exact T_j3_short (by rw [hsz.out]; omega)
    rw [if_neg c3, if_neg c3, if_pos (show b0 < 245 by omega)]
    by_cases c4 : 4 ≤ n + 1
    · refine T_j3 (by rw [hsz.out]; omega) ?_
      by_cases c5 : 128 ≤ b1
      · by_cases c6 : b1 ≤ 191
        · refine T_l1_more (by omega) (by rw [ha1.out]; omega) (by rw [ha1.out]; omega) (by rw [ha1.out, e1]; omega) (by rw [ha1.out, e1]; omega) ?_
          rw [w2.out]
          by_cases c7 : 128 ≤ b2
          · by_cases c8 : b2 ≤ 191
            · refine T_l1_more (by omega) (by rw [ha2.out]; omega) (by rw [ha2.out]; omega) (by rw [ha2.out, e2]; omega) (by rw [ha2.out, e2]; omega) ?_
              rw [w3.out]
              by_cases c9 : 128 ≤ b3
              · by_cases c10 : b3 ≤ 191
                · refine T_l1_more (by omega) (by rw [ha3.out]; omega) (by rw [ha3.out]; omega) (by rw [ha3.out, e3]; omega) (by rw [ha3.out, e3]; omega) ?_
                  rw [w4.out]
                  have N := nextF 4 (by omega) (by omega)
                  by_cases d1 : b0 = 240
                  · by_cases d2 : b1 < 144
                    · rw [if_neg (fun h => h.2.2.2.2.2.2.2.1 ⟨d1, d2⟩), F0]
                      exact T_l1_4a (by omega) (by omega) (by rw [ha1.out]; omega) (by rw [ha1.out]; omega) (by rw [ha1.out, e1]; omega)
                    · rw [if_pos ⟨c4, c5, c6, c7, c8, c9, c10, fun h => d2 h.2, fun h => by omega⟩]
                      exact T_l1_4b (by omega) (by omega) (by rw [ha1.out]; omega) (by rw [ha1.out]; omega) (by rw [ha1.out, e1]; omega) (by rw [ha4.out]; exact N)
                  · by_cases d3 : b0 = 244
                    · by_cases d4 : 143 < b1
                      · rw [if_neg (fun h => h.2.2.2.2.2.2.2.2 ⟨d3, d4⟩), F0]
                        exact T_l1_4c (by omega) (by omega) (by rw [ha1.out]; omega) (by rw [ha1.out]; omega) (by rw [ha1.out, e1]; omega)
                      · rw [if_pos ⟨c4, c5, c6, c7, c8, c9, c10, fun h => d1 h.1, fun h => d4 h.2⟩]
                        exact T_l1_4d (by omega) (by omega) (by rw [ha1.out]; omega) (by rw [ha1.out]; omega) (by rw [ha1.out, e1]; omega) (by rw [ha4.out]; exact N)
                    · rw [if_pos ⟨c4, c5, c6, c7, c8, c9, c10, fun h => d1 h.1, fun h => d3 h.1⟩]
                      exact T_l1_4e (by omega) (by omega) (by omega) (by rw [ha4.out]; exact N)
                · rw [if_neg (fun h => c10 h.2.2.2.2.2.2.1), F0]
                  exact T_l1_high (by omega) (by rw [ha3.out]; omega) (by rw [ha3.out]; omega) (by rw [ha3.out, e3]; omega) (by rw [ha3.out, e3]; omega)
              · rw [if_neg (fun h => c9 h.2.2.2.2.2.1), F0]
                exact T_l1_low (by omega) (by rw [ha3.out]; omega) (by rw [ha3.out]; omega) (by rw [ha3.out, e3]; omega)
            · rw [if_neg (fun h => c8 h.2.2.2.2.1), F0]
              exact T_l1_high (by omega) (by rw [ha2.out]; omega) (by rw [ha2.out]; omega) (by rw [ha2.out, e2]; omega) (by rw [ha2.out, e2]; omega)
          · rw [if_neg (fun h => c7 h.2.2.2.1), F0]
            exact T_l1_low (by omega) (by rw [ha2.out]; omega) (by rw [ha2.out]; omega) (by rw [ha2.out, e2]; omega)
        · rw [if_neg (fun h => c6 h.2.2.1), F0]
          exact T_l1_high (by omega) (by rw [ha1.out]; omega) (by rw [ha1.out]; omega) (by rw [ha1.out, e1]; omega) (by rw [ha1.out, e1]; omega)
      · rw [if_neg (fun h => c5 h.2.1), F0]
        exact T_l1_low (by omega) (by rw [ha1.out]; omega) (by rw [ha1.out]; omega) (by rw [ha1.out, e1]; omega)
    · rw [if_neg (fun h => c4 h.1), F0]
      exact T_j3_short (by rw [hsz.out]; omega)
/-- **bindleref01.Text is path.right.** -/
theorem Text_eq (s : ByteArray) (hs : s.size ≤ 8000000000000000000) : Ev (fun k => bindleref01_Text.f k s) (rightB s) := by
  have h := Text_loop s hs s.size 0 (by omega)
  rw [rightB_good]
  have e : s.data.toList.length = s.size := by simp
  rw [e]
  simpa [bindleref01_Text.f] using h
end Go.Proofs.YtfljbidecljlcaaDoor
