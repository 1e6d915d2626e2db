/-
  LinksSound, as printed, answers true.
-/
import Derived.Test.YtfljbidecljlcaaDoorGoodM
import Derived.Test.YtfljbidecljlcaaDoorPrint21
namespace Go.Proofs.YtfljbidecljlcaaDoor
open Go.RowKit Go.Proofs.YtfljbidecljlcaaDoor.Print Go.Proofs.YtfljbidecljlcaaDoorW.PrintWords
theorem rdM_nat (l : List Mem) (j : Nat) (h : j < l.length) : rd_T45 l (j : Int) = l[j] := by rw [rdM_at l j (by omega) (by omega)]; simp
theorem wr64 {n : Nat} (h : n ≤ 4611686018427387904) : wrap64 ((n : Int) + 1) = ((n + 1 : Nat) : Int) := by unfold wrap64; omega
theorem wadd {a b : Nat} (h : a + b ≤ 4611686018427387904) : wrap64 ((a : Int) + (b : Int)) = ((a + b : Nat) : Int) := by unfold wrap64; omega
theorem answers11 : bindlelaw11_answers.f = some true := by kernel_rfl
/-! The reference for soundness. -/
/-- Kinds by paths, of the first i. -/
def kindsF (l : List Mem) (i : Nat) : List (List UInt8 × Int) := ((l.take i).map (fun m => (m.f0.data.toList, m.f2))).reverse
theorem kindsF_succ (l : List Mem) (i : Nat) (h : i < l.length) : kindsF l (i + 1) = (l[i].f0.data.toList, l[i].f2) :: kindsF l i := by
  unfold kindsF
  rw [List.take_add_one, List.getElem?_eq_getElem h, List.map_append, List.reverse_append]
  rfl
theorem lkI_some (f : List (List UInt8 × Int)) (s : List UInt8) {v : Int} (h : lkI f s = some v) : ∃ p ∈ f, p.1 = s := by
  induction f with
  | nil => cases h
  | cons p r ih =>
    rw [lkI] at h
    split at h
    · rename_i e; exact ⟨p, List.mem_cons_self, e.symm⟩
    · obtain ⟨q, hq, e⟩ := ih h; exact ⟨q, List.mem_cons_of_mem _ hq, e⟩
theorem lkI_mem (f : List (List UInt8 × Int)) {p : List UInt8 × Int} (h : p ∈ f) : (lkI f p.1).isSome = true := by
  induction f with
  | nil => cases h
  | cons q r ih =>
    rw [lkI]
    split
    · rfl
    · rename_i e
      rcases List.mem_cons.1 h with rfl | h
      · exact absurd rfl e
      · exact ih h
theorem stepS_some {f g : List (List UInt8 × Int)} {m : Mem} (h : stepS f m = some g) : g = (m.f0.data.toList, m.f2) :: f ∧ lkI f m.f0.data.toList = none := by
  unfold stepS at h
  split at h
  · cases h
  · rename_i hn
    simp only [Option.some.injEq] at h
    exact ⟨h.symm, by cases hk : lkI f m.f0.data.toList with | none => rfl | some v => exact absurd (.inl (by rw [hk]; rfl)) hn⟩
theorem foldS (l : List Mem) (i : Nat) (hi : i ≤ l.length) {f : List (List UInt8 × Int)} (h : (l.take i).foldlM stepS [] = some f) : f = kindsF l i ∧ ∀ (j : Nat) (hj : j < l.length), j < i → lkI (kindsF l j) l[j].f0.data.toList = none := by
  induction i generalizing f with
  | zero => cases h; exact ⟨rfl, fun j hj h => absurd h (by omega)⟩
  | succ i ih =>
    cases hp : (l.take i).foldlM stepS [] with
    | none =>
      rw [List.take_add_one, List.foldlM_append, hp] at h
      cases h
    | some g =>
      obtain ⟨rfl, hn⟩ := ih (by omega) hp
      rw [sound_take l i (by omega) hp] at h
      obtain ⟨rfl, h2⟩ := stepS_some h
      refine ⟨(kindsF_succ l i (by omega)).symm, fun j hj hji => ?_⟩
      rcases Nat.lt_or_ge j i with h3 | h3
      · exact hn j hj h3
      · obtain rfl : j = i := by omega
        exact h2
/-- What the inner loop knows at j. -/
def bAt (l : List Mem) (m : Mem) (j : Nat) : Bool := m.f2 != 49 || decide ((lkI (kindsF l j) m.f1.data.toList).getD 0 = 48)
theorem inner_f (l : List Mem) (hz : ∀ x ∈ l, MemR x) (hlen : l.length ≤ 1000000000000) (i : Nat) (hi : i < l.length) (hd : ∀ (j : Nat) (hj : j < l.length), j < i → lkI (kindsF l j) l[j].f0.data.toList = none)
    (hf : (l.take i).foldlM stepS [] = some (kindsF l i)) (hrest : ∀ f, (l.take (i + 1)).foldlM stepS [] = some f → Ev (fun k => bindlelaw11_sound.l0 k l ((i + 1 : Nat) : Int)) (soundF l)) (d : Nat) :
    ∀ j : Nat, j + d = i → (∀ (t : Nat) (ht : t < l.length), t < j → l[t].f0.toList ≠ l[i].f0.toList) → Ev (fun k => bindlelaw11_sound.l1 k l (i : Int) (bAt l l[i] j) (j : Int)) (soundF l) := by
  have hstep := sound_take l i hi hf
  induction d with
  | zero =>
    intro j hj hno
    obtain rfl : j = i := by omega
    have hnone : lkI (kindsF l j) l[j].f0.data.toList = none := by
      cases hk : lkI (kindsF l j) l[j].f0.data.toList with
      | none => rfl
      | some v =>
        obtain ⟨p, hp, e⟩ := lkI_some _ _ hk
        unfold kindsF at hp
        rw [List.mem_reverse, List.mem_map] at hp
        obtain ⟨m, hm, rfl⟩ := hp
        obtain ⟨t, ht, rfl⟩ := List.getElem_of_mem hm
        rw [List.length_take] at ht
        rw [List.getElem_take] at e
        rw [← Lib.toList_data, ← Lib.toList_data] at e
        exact absurd e (hno t (by omega) (by omega))
    cases hb : bAt l l[j] j with
    | false =>
      have hs : stepS (kindsF l j) l[j] = none := by
        unfold stepS
        unfold bAt at hb
        rw [Bool.or_eq_false_iff, bne_eq_false_iff_eq, decide_eq_false_iff_not] at hb
        rw [if_pos (.inr (.inr hb))]
      rw [sound_stop l j hi hf hs]
      exact Ev.step (f := fun _ => some false) (fun k => by rw [bindlelaw11_sound.l1, if_neg (by omega), if_neg (by decide)]) (Ev.now _)
    | true =>
      refine Ev.step (f := fun k => (bindleref08_Good.f k (l[j].f0) (l[j].f1) (l[j].f2) (l[j].f3.f0) (l[j].f3.f1) (l[j].f3.f2) (l[j].f3.f3) (l[j].f4)).bind fun t186 => (if t186 = true then (bindlelaw11_sound.l0 k l (((j + 1 : Nat)) : Int)) else (some false))) (fun k => ?_) ?_
      · rw [bindlelaw11_sound.l1, if_neg (by omega), if_pos rfl, if_pos (by omega), if_pos (by omega), rdM_nat l j hi, wr64 (by omega)]
      refine Ev.bind (refGood_eq l[j] (hz _ (List.getElem_mem hi))) ?_
      cases hg : goodM l[j] with
      | false =>
        have hs : stepS (kindsF l j) l[j] = none := by unfold stepS; rw [if_pos (.inr (.inl hg))]
        rw [sound_stop l j hi hf hs]
        exact Ev.congr (fun k => by rw [if_neg (by decide)]) (Ev.now _)
      | true =>
        have hs : stepS (kindsF l j) l[j] = some ((l[j].f0.data.toList, l[j].f2) :: kindsF l j) := by
          unfold stepS
          unfold bAt at hb
          rw [Bool.or_eq_true, bne_iff_ne, decide_eq_true_iff] at hb
          rw [if_neg]
          rintro (h | h | ⟨h, h2⟩)
          · rw [hnone] at h; cases h
          · rw [hg] at h; cases h
          · exact hb.elim (fun h3 => h3 h) h2
        exact Ev.congr (fun k => by rw [if_pos rfl]) (hrest _ (by rw [hstep, hs]))
  | succ d ih =>
    intro j hj hno
    have hjl : j < l.length := by omega
    by_cases he : l[j].f0.toList = l[i].f0.toList
    · have hs : stepS (kindsF l i) l[i] = none := by
        unfold stepS
        have hm : (l[j].f0.data.toList, l[j].f2) ∈ kindsF l i := by
          unfold kindsF
          rw [List.mem_reverse, List.mem_map]
          exact ⟨l[j], List.mem_take_iff_getElem.2 ⟨j, by omega, rfl⟩, rfl⟩
        have := lkI_mem _ hm
        dsimp only at this
        rw [Lib.toList_data, Lib.toList_data] at he
        rw [he] at this
        rw [if_pos (.inl this)]
      rw [sound_stop l i hi hf hs]
      exact Ev.step (f := fun _ => some false) (fun k => by rw [bindlelaw11_sound.l1, if_pos (by omega), if_pos (by omega), if_pos (by omega), if_pos (by omega), if_pos (by omega), rdM_nat l j hjl, rdM_nat l i hi, if_pos he]) (Ev.now _)
    · have hnext := ih (j + 1) (by omega) (fun t ht h => by
        rcases Nat.lt_or_ge t j with h3 | h3
        · exact hno t ht h3
        · obtain rfl : t = j := by omega
          exact he)
      have hk := kindsF_succ l j hjl
      refine Ev.step (f := fun k => bindlelaw11_sound.l1 k l (i : Int) (bAt l l[i] (j + 1)) ((j + 1 : Nat) : Int)) (fun k => ?_) hnext
      rw [bindlelaw11_sound.l1, if_pos (by omega), if_pos (by omega), if_pos (by omega), if_pos (by omega), if_pos (by omega), rdM_nat l j hjl, rdM_nat l i hi, if_neg he, wr64 (by omega)]
      have hdj := hd j hjl (by omega)
      cases hb : bAt l l[i] j with
      | true =>
        rw [if_pos rfl]
        have : bAt l l[i] (j + 1) = true := by
          unfold bAt at hb ⊢
          rw [Bool.or_eq_true, bne_iff_ne, decide_eq_true_iff] at hb ⊢
          rcases hb with h | h
          · exact .inl h
          · refine .inr ?_
            rw [hk, lkI]
            by_cases e : l[i].f1.data.toList = l[j].f0.data.toList
            · rw [e, hdj] at h; cases h
            · rw [if_neg e]; exact h
        rw [this]
      | false =>
        rw [if_neg (by decide)]
        unfold bAt at hb
        rw [Bool.or_eq_false_iff, bne_eq_false_iff_eq, decide_eq_false_iff_not] at hb
        by_cases e : l[j].f0.toList = l[i].f1.toList
        · rw [if_pos e]
          have : bAt l l[i] (j + 1) = (l[j].f2 == 48) := by
            unfold bAt
            rw [hb.1, hk, lkI, if_pos (by rw [Lib.toList_data, Lib.toList_data] at e; exact e.symm), Option.getD_some]
            rw [show ((49 : Int) != 49) = false from rfl, Bool.false_or, Bool.eq_iff_iff, decide_eq_true_iff, beq_iff_eq]
          rw [this]
        · rw [if_neg e]
          have : bAt l l[i] (j + 1) = false := by
            unfold bAt
            rw [hb.1, hk, lkI, if_neg (fun h => e (by rw [Lib.toList_data, Lib.toList_data]; exact h.symm)), decide_eq_false hb.2]
            rfl
          rw [this]
theorem outer_f (l : List Mem) (hz : ∀ x ∈ l, MemR x) (hlen : l.length ≤ 1000000000000) (d : Nat) : ∀ (i : Nat) (f : List (List UInt8 × Int)), i + d = l.length → (l.take i).foldlM stepS [] = some f → Ev (fun k => bindlelaw11_sound.l0 k l (i : Int)) (soundF l) := by
  induction d with
  | zero =>
    intro i f hi hf
    rw [sound_end l (f := f) (by rw [show l.length = i from by omega]; exact hf)]
    exact Ev.step (f := fun _ => some true) (fun k => by rw [bindlelaw11_sound.l0, if_neg (by omega)]) (Ev.now _)
  | succ d ih =>
    intro i f hi hf
    have hil : i < l.length := by omega
    obtain ⟨rfl, hd⟩ := foldS l i (by omega) hf
    have h := inner_f l hz hlen i hil hd hf (fun g hg => ih (i + 1) g (by omega) hg) i 0 (by omega) (fun t ht h => absurd h (by omega))
    refine Ev.step (fun k => ?_) h
    have hb : bAt l l[i] 0 = (l[i].f2 != 49) := by
      unfold bAt
      rw [show lkI (kindsF l 0) l[i].f1.data.toList = none from rfl]
      simp
    rw [bindlelaw11_sound.l0, if_pos (by omega), if_pos (by omega), rdM_nat l i hil, hb]
    rfl
theorem Sound_eq (l : List Mem) (hz : ∀ x ∈ l, MemR x) (hlen : l.length ≤ 1000000000000) : Ev (fun k => bindlelaw11_sound.f k l) (soundF l) := outer_f l hz hlen l.length 0 [] (by omega) rfl
/-! LinksSound. -/
theorem sum_mem (l : List Nat) {n : Nat} (h : n ∈ l) : n ≤ l.sum := by
  induction l with
  | nil => cases h
  | cons m r ih =>
    rw [List.sum_cons]
    rcases List.mem_cons.1 h with rfl | h
    · omega
    · have := ih h; omega
def sizesM (l : List Mem) : Nat := (l.map (fun m => m.f4.length + m.f0.size + m.f1.size)).sum
theorem LinksSound_true (l : List Mem) (hz : ∀ x ∈ l, MemR x) (hlen : l.length ≤ 140737488351232) : Ev (fun k => bindlelaw11_LinksSound.f k l) true := by
  unfold bindlelaw11_LinksSound.f
  by_cases h60 : (l.length : Int) > 60
  · have hb : ∀ (d i : Nat) (x : Int), i + d = l.length → Ev (fun k => bindlelaw11_LinksSound.l0 k l x (i : Int)) true := by
      intro d
      induction d with
      | zero =>
        intro i x hi
        refine Ev.step (f := fun k => bindlelaw11_LinksSound.j1 k l true) (fun k => by rw [bindlelaw11_LinksSound.l0, if_neg (by omega), if_pos h60]) ?_
        exact Ev.step (f := fun _ => some true) (fun k => by rw [bindlelaw11_LinksSound.j1, if_pos rfl, answers11]; rfl) (Ev.now _)
      | succ d ih =>
        intro i x hi
        exact Ev.step (fun k => by rw [bindlelaw11_LinksSound.l0, if_pos (by omega), if_pos (by omega), wr64 (by omega)]) (ih (i + 1) _ (by omega))
    exact hb l.length 0 0 (by omega)
  · have hb : ∀ (d i : Nat), i + d = l.length → Ev (fun k => bindlelaw11_LinksSound.l0 k l ((sizesM (l.take i) : Nat) : Int) (i : Int)) true := by
      intro d
      induction d with
      | zero =>
        intro i hi
        rw [List.take_of_length_le (by omega)]
        by_cases hs : ((sizesM l : Nat) : Int) > 200000
        · refine Ev.step (f := fun k => bindlelaw11_LinksSound.j1 k l true) (fun k => by rw [bindlelaw11_LinksSound.l0, if_neg (by omega), if_neg h60, decide_eq_true hs]) ?_
          exact Ev.step (f := fun _ => some true) (fun k => by rw [bindlelaw11_LinksSound.j1, if_pos rfl, answers11]; rfl) (Ev.now _)
        · refine Ev.step (f := fun k => bindlelaw11_LinksSound.j1 k l false) (fun k => by rw [bindlelaw11_LinksSound.l0, if_neg (by omega), if_neg h60, decide_eq_false hs]) ?_
          have hms : memsZ l = true := by
            rw [memsZ_iff]
            refine ⟨by omega, fun x hx => ?_⟩
            have h1 : x.f4.length + x.f0.size + x.f1.size ≤ sizesM l := sum_mem _ (List.mem_map_of_mem (f := fun m : Mem => m.f4.length + m.f0.size + m.f1.size) hx)
            exact ⟨by omega, by omega, by omega⟩
          have hsd : links_Sound.f l = some (soundF l) := by unfold links_Sound.f; rw [if_pos hms]
          refine Ev.step (f := fun k => (bindlelaw11_sound.f k l).bind fun t250 => (some (soundF l == t250))) (fun k => by rw [bindlelaw11_LinksSound.j1, if_neg (by decide), answers11, Option.bind_some, if_pos rfl, hsd]; rfl) ?_
          refine Ev.bind (Sound_eq l hz (by omega)) ?_
          exact Ev.congr (fun k => by rw [beq_self_eq_true]) (Ev.now _)
      | succ d ih =>
        intro i hi
        have hil : i < l.length := by omega
        have hzx := hz l[i] (List.getElem_mem hil)
        have hle : sizesM (l.take i) ≤ i * 422212465053696 := by
          have : ∀ (n : Nat) (l : List Mem), l.length ≤ n → (∀ x ∈ l, MemR x) → sizesM l ≤ n * 422212465053696 := by
            intro n
            induction n with
            | zero => intro l hl _; have : l = [] := List.eq_nil_of_length_eq_zero (by omega); subst this; exact Nat.zero_le _
            | succ n ih =>
              intro l hl hz
              cases l with
              | nil => exact Nat.zero_le _
              | cons x r =>
                have h1 := ih r (by simp at hl; omega) (fun y hy => hz y (List.mem_cons_of_mem _ hy))
                have h2 := hz x List.mem_cons_self
                unfold sizesM at h1 ⊢
                rw [List.map_cons, List.sum_cons]
                have := h2.1; have := h2.2.1; have := h2.2.2
                omega
          exact this i _ (by rw [List.length_take]; omega) (fun x hx => hz x (List.mem_of_mem_take hx))
        have hst : sizesM (l.take (i + 1)) = sizesM (l.take i) + l[i].f4.length + l[i].f0.size + l[i].f1.size := by
          unfold sizesM
          rw [List.take_add_one, List.getElem?_eq_getElem hil, List.map_append, List.sum_append]
          simp
          omega
        have h1 := hzx.1
        have h2 := hzx.2.1
        have h3 := hzx.2.2
        refine Ev.step (fun k => ?_) (ih (i + 1) (by omega))
        rw [bindlelaw11_LinksSound.l0, if_pos (by omega), if_pos (by omega), rdM_nat l i hil, wr64 (by omega), wadd (by omega), wadd (by omega), wadd (by omega), hst]
    exact hb l.length 0 (by omega)
end Go.Proofs.YtfljbidecljlcaaDoor
