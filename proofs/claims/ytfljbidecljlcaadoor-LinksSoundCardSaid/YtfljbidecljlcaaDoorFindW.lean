/-
  tree.Find's contract: it answers findF, of a tree whose paths rise.
-/
import Derived.Test.YtfljbidecljlcaaDoorCloneW
import Derived.Test.YtfljbidecljlcaaDoorOrderP
namespace Go.Proofs.YtfljbidecljlcaaDoor
open Go.RowKit Go.Maps Go.Proofs.YtfljbidecljlcaaDoor.Print Go.Proofs.YtfljbidecljlcaaDoorW.PrintWords Go.Proofs.YtfljbidecljlcaaDoorW.PrintLast Go.Proofs.YtfljbidecljlcaaDoorW.PrintMore
set_option linter.unusedVariables false
set_option linter.unusedSimpArgs false
/-- The comparison that is handed over. -/
theorem Find1_calls (x : Node) (A : Option Addr) (n c : Nat) (p : ByteArray) (W : World) :
    Calls Tryd.prog 57 #[.agg #[.string x.f0, .string x.f1, .string x.f2, .int .u8 x.f3, .int .i64 x.f4.f0, .int .i64 x.f4.f1, .int .i64 x.f4.f2, .int .i64 x.f4.f3, .slice A n c], .string p] W fun e W' =>
      e = .returned (.int .i64 (Lib.compareBytes x.f0.data.toList p.data.toList)) ∧ Below W.heap.size W W' := by
  go_enter Tryd.func57, Tryd.ntmps57
  go_wp2_with (go_at_call 58; refine (Tryd.strings_Compare _ _ _).mono ?_; rintro e w' ⟨rfl, rfl⟩)
  go_ret
  exact ⟨rfl, (Below.refl _ _).alloc (Nat.le_refl _) _⟩
theorem rdN_at (l : List Node) (i : Int) (h0 : 0 ≤ i) (h1 : i < l.length) : rd_T40 l i = l[i.toNat]'(by omega) := by
  unfold rd_T40
  rw [List.getD_eq_getElem?_getD, List.getElem?_eq_getElem (by omega)]
  rfl
/-- What a search answers. -/
def FoundAt (l : List Node) (p : ByteArray) (n : Int) (b : Bool) : Prop :=
  0 ≤ n ∧ n ≤ l.length ∧ (b = true ↔ ∃ h : n.toNat < l.length, l[n.toNat].f0.toList = p.toList) ∧ (b = false → ∀ (i : Nat) (hi : i < l.length), l[i].f0.toList ≠ p.toList)
def SearchRel (l : List Node) (p : ByteArray) (W : World) (i j : Int) (wr : World) : Prop :=
  0 ≤ i ∧ i ≤ j ∧ j ≤ l.length ∧ (∀ (t : Nat) (ht : t < l.length), (t : Int) < i → lt l[t].f0 p = true) ∧ (∀ (t : Nat) (ht : t < l.length), j ≤ (t : Int) → lt l[t].f0 p = false) ∧ Below W.heap.size W wr
set_option maxRecDepth 100000 in
set_option maxHeartbeats 2000000 in
theorem Search_calls (A0 : Option Addr) (c0 : Nat) (l : List Node) (p : ByteArray) (W : World) (hC : Kd.C k40 W A0 l.length l) (hr : riseB l = true) (hz : NodesZ l) :
    Calls Tryd.prog 56 #[.slice A0 l.length c0, .string p, .func (.func 57) #[] #[]] W fun e W' => ∃ n b, e = .returned (.tuple #[.int .i64 n, .bool b]) ∧ FoundAt l p n b ∧ Below W.heap.size W W' := by
  have HC := Aside0.mk hC
  have HZ := Aside0.mk hz
  have HRI := Aside0.mk hr
  have hlen : (l.length : Int) ≤ 1000000000000 := by have := hz.1; omega
  clear hC hr hz
  generalize hpost : (fun (e : Ending) (W' : World) => ∃ n b, e = .returned (.tuple #[.int .i64 n, .bool b]) ∧ FoundAt l p n b ∧ Below W.heap.size W W') = Q
  have hQ := Aside0.mk hpost
  clear hpost
  go_enter Tryd.func56, Tryd.ntmps56
  go_wp2
  go_loopw [9, 10] (fun i j wr => ∃ n m : Int, i = .int .i64 n ∧ j = .int .i64 m ∧ Aside0 (SearchRel l p W n m wr)) (fun i j _ => (intOf j - intOf i).toNat)
  case atStart => exact ⟨0, _, rfl, rfl, ⟨⟨by omega, by omega, by omega, fun t ht h => by omega, fun t ht h => by omega, Below.refl _ _⟩⟩⟩
  case round =>
    obtain ⟨n, m, rfl, rfl, HR⟩ := hrel
    have h0 := HR.out.1
    have h1 := HR.out.2.1
    have h2 := HR.out.2.2.1
    have HB := Aside0.mk HR.out.2.2.2.2.2
    by_cases hlt : n < m
    · have c1 : decide (n < m) = true := decide_eq_true hlt
      have hh0 : 0 ≤ (n + m) / 2 := by omega
      have hh1 : (n + m) / 2 < (l.length : Int) := by omega
      obtain ⟨ad, A7, c7, rfl, x0, x1, x2, x3, x4, x5, x6, x7, x8, hl7, hC7⟩ := at_T40 (Kd.C_below HC.out HB.out) ((n + m) / 2) hh0 hh1
      have hx := rdN_at l _ hh0 hh1
      generalize rd_T40 l ((n + m) / 2) = x at hx x0 x1 x2 x3 x4 x5 x6 x7 x8 hl7 hC7
      have HX := Aside0.mk hx
      clear hx hC7 hl7
      go_wp2_with (go_at_call 57; refine (Find1_calls x A7 x.f5.length c7 p _).mono ?_; rintro e w' ⟨rfl, hb⟩)
      · have hn : Lib.compareBytes x.f0.data.toList p.data.toList < 0 := by assumption
        have hltx : lt x.f0 p = true := by rw [lt_data]; exact (cmp_neg _ _).1 hn
        have hfin : SearchRel l p W ((n + m) / 2 + 1) m w' := by
          refine ⟨by omega, by omega, h2, fun t ht h => ?_, HR.out.2.2.2.2.1, HB.out.trans (hb.mono HB.out.size)⟩
          rcases Nat.lt_or_ge t ((n + m) / 2).toNat with h3 | h3
          · have := riseB_at HRI.out t ((n + m) / 2).toNat ht (by omega) h3
            rw [← HX.out] at this
            exact lt_trans this hltx
          · have e : t = ((n + m) / 2).toNat := by omega
            subst e
            rw [← HX.out]; exact hltx
        clear hltx hn hb
        go_roundw
        case rel => exact ⟨_, _, rfl, rfl, ⟨hfin⟩⟩
        case measure => simp [intOf]; omega
      · have hn : 0 ≤ Lib.compareBytes x.f0.data.toList p.data.toList := by assumption
        have hltx : lt x.f0 p = false := by
          rw [lt_data, Bool.eq_false_iff]
          intro h
          have := (cmp_neg _ _).2 h
          omega
        have hfin : SearchRel l p W n ((n + m) / 2) w' := by
          refine ⟨h0, by omega, by omega, HR.out.2.2.2.1, fun t ht h => ?_, HB.out.trans (hb.mono HB.out.size)⟩
          rcases Nat.lt_or_ge ((n + m) / 2).toNat t with h3 | h3
          · have := riseB_at HRI.out ((n + m) / 2).toNat t (by omega) ht h3
            rw [← HX.out] at this
            cases h4 : lt l[t].f0 p with
            | false => rfl
            | true =>
              have := lt_trans this h4
              rw [hltx] at this
              cases this
          · have e : t = ((n + m) / 2).toNat := by omega
            subst e
            rw [← HX.out]; exact hltx
        clear hltx hn hb
        go_roundw
        case rel => exact ⟨_, _, rfl, rfl, ⟨hfin⟩⟩
        case measure => simp [intOf]; omega
    · have c1 : decide (n < m) = false := decide_eq_false hlt
      obtain rfl : n = m := by omega
      by_cases hnl : n < (l.length : Int)
      · have c2 : decide (n < (l.length : Int)) = true := decide_eq_true hnl
        obtain ⟨ad, A7, c7, rfl, x0, x1, x2, x3, x4, x5, x6, x7, x8, hl7, hC7⟩ := at_T40 (Kd.C_below HC.out HB.out) n h0 hnl
        have hx := rdN_at l _ h0 hnl
        generalize rd_T40 l n = x at hx x0 x1 x2 x3 x4 x5 x6 x7 x8 hl7 hC7
        have HX := Aside0.mk hx
        clear hx hC7 hl7
        go_wp2_with (go_at_call 57; refine (Find1_calls x A7 x.f5.length c7 p _).mono ?_; rintro e w' ⟨rfl, hb⟩)
        rw [← hQ.out]
        refine ⟨n, _, rfl, ⟨h0, h2, ?_, ?_⟩, HB.out.trans (hb.mono HB.out.size)⟩
        · rw [beq_iff_eq, cmp_zero, ← Lib.toList_data, ← Lib.toList_data]
          constructor
          · intro h; exact ⟨by omega, by rw [← HX.out]; exact h⟩
          · rintro ⟨_, h⟩; rw [← HX.out] at h; exact h
        · intro h i hi he
          rw [beq_eq_false_iff_ne, ne_eq, cmp_zero, ← Lib.toList_data, ← Lib.toList_data] at h
          rcases Nat.lt_trichotomy i n.toNat with h3 | h3 | h3
          · exact lt_ne (HR.out.2.2.2.1 i hi (by omega)) he
          · subst h3; rw [← HX.out] at he; exact h he
          · have h4 := riseB_at HRI.out n.toNat i (by omega) hi h3
            have h5 := HR.out.2.2.2.2.1 n.toNat (by omega) (by omega)
            have h6 : lt l[n.toNat].f0 p = lt l[n.toNat].f0 l[i].f0 := by unfold lt; rw [he]
            rw [h6, h4] at h5
            cases h5
      · have c2 : decide (n < (l.length : Int)) = false := decide_eq_false hnl
        go_wp2
        rw [← hQ.out]
        refine ⟨n, false, rfl, ⟨h0, h2, ⟨fun h => (by cases h), fun ⟨h, _⟩ => absurd h (by omega)⟩, fun _ i hi he => ?_⟩, HB.out⟩
        exact lt_ne (HR.out.2.2.2.1 i hi (by omega)) he
theorem below_put {B : Nat} {a w : World} (h : Below B a w) (g j : Nat) (hg : B ≤ g) (u : Value) : Below B a (w.setCell ⟨g, j, none⟩ u) := h.setCell (p := ⟨g, j, none⟩) hg u
theorem row_put {α : Type} {d : Kd α} {e base B : Nat} {w : World} {v : Value} {xs : List α} (h : d.R e w base (fun k => B ≤ k) v xs) (g j : Nat) (hg : g < B) (u : Value) : d.R e (w.setCell ⟨g, j, none⟩ u) base (fun k => B ≤ k) v xs :=
  Kd.R_far h (p := ⟨g, j, none⟩) (fun k hk e => by have : k = g := e; omega) u
/-- The result's cells. -/
def nodeCells (x : Node) (v : Value) : Array Value := #[.string x.f0, .string x.f1, .string x.f2, .int .u8 x.f3, .int .i64 x.f4.f0, .int .i64 x.f4.f1, .int .i64 x.f4.f2, .int .i64 x.f4.f3, v]
set_option maxRecDepth 100000 in
set_option maxHeartbeats 2000000 in
theorem Find_calls (A0 : Option Addr) (c0 : Nat) (l : List Node) (p : ByteArray) (W : World) (hC : Kd.C k40 W A0 l.length l) (hr : riseB l = true) (hz : NodesZ l) :
    Calls Tryd.prog 36 #[.slice A0 l.length c0, .string p] W fun e W' => ∃ x b v, (match findF l p with | some y => x = y ∧ b = true | none => x = z40 ∧ b = false) ∧ e = .returned (.tuple #[.agg (nodeCells x v), .bool b]) ∧ Kd.R (Kd.int .u8) 5 W' W.heap.size (fun _ => True) v x.f5 ∧ Below W.heap.size W W' := by
  have cS := fun W2 (h : Kd.C k40 W2 A0 l.length l) => Search_calls A0 c0 l p W2 h hr hz
  have HC := Aside0.mk hC
  have HZ := Aside0.mk hz
  have HS := Aside0.mk cS
  have HRI := Aside0.mk hr
  have hlen : (l.length : Int) ≤ 1000000000000 := by have := hz.1; omega
  clear hC hz cS hr
  generalize hpost : (fun (e : Ending) (W' : World) => ∃ x b v, (match findF l p with | some y => x = y ∧ b = true | none => x = z40 ∧ b = false) ∧ e = .returned (.tuple #[.agg (nodeCells x v), .bool b]) ∧ Kd.R (Kd.int .u8) 5 W' W.heap.size (fun _ => True) v x.f5 ∧ Below W.heap.size W W') = Q
  have hQ := Aside0.mk hpost
  clear hpost
  go_enter Tryd.func36, Tryd.ntmps36
  go_wp2_with (first
    | (go_at_call 56; refine (HS.out _ (Kd.C_alloc HC.out _)).mono ?_; rintro e w1 ⟨n, b, rfl, hF, hb1⟩; have HF := Aside0.mk hF; clear hF; obtain ⟨hc1, hf1⟩ := bcell hb1; have hz1 : W.heap.size < w1.heap.size := Nat.lt_of_lt_of_le (by simp) hb1.size; have HB1 := Aside0.mk hb1; clear hb1; cases b; all_goals (first | (obtain ⟨hnl, he⟩ := HF.out.2.2.1.1 rfl; have h0 := HF.out.1; have h1 : n < (l.length : Int) := (by omega); have HE := Aside0.mk he; clear he; obtain ⟨ad, A7, c7, rfl, x0, x1, x2, x3, x4, x5, x6, x7, x8, hl7, hC7⟩ := at_T40 (Kd.C_below HC.out (((Below.refl _ _).alloc (Nat.le_refl _) _).trans (HB1.out.mono (by simp)))) n h0 h1; have hx := rdN_at l _ h0 h1; generalize rd_T40 l n = x at hx x0 x1 x2 x3 x4 x5 x6 x7 x8 hl7 hC7; have HX := Aside0.mk hx; have HC7 := Aside0.mk hC7; clear hx hC7) | skip))
    | (go_at_call 59; refine (Clone_calls A7 c7 x.f5 _ (Kd.C_alloc HC7.out _) (by rw [HX.out]; exact (HZ.out.2 _ (List.getElem_mem _)).2.2.2)).mono ?_; rintro e w2 ⟨v, rfl, hR2, hb2⟩; obtain ⟨Av, cv, rfl, hlv, hCv⟩ := Kd.R_reads hR2; clear hlv hCv; obtain ⟨hc2, hf2⟩ := bcell hb2; have HR2 := Aside0.mk hR2; have HB2 := Aside0.mk hb2; clear hR2 hb2))
  · have hB1 := ((Below.refl W.heap.size W).alloc (Nat.le_refl _) _).trans (HB1.out.mono (by simp))
    refine bodyPost_ret (v := .tuple #[.agg (nodeCells z40 (.slice none 0 0)), .bool false]) (by simp [results, Tryd.results36, go_sem, hc1, hz1, nodeCells, z40, z38]) rfl ?_
    have hfn := findF_none p (HF.out.2.2.2 rfl)
    rw [← hQ.out]
    refine ⟨z40, false, .slice none 0 0, by rw [hfn]; exact ⟨rfl, rfl⟩, rfl, Kd.R_nil _ _ _ _ _, ?_⟩
    repeat (with_reducible refine below_put ?_ _ _ (Nat.le_refl _) _)
    exact hB1
  · have hB1 := ((Below.refl W.heap.size W).alloc (Nat.le_refl _) _).trans (HB1.out.mono (by simp))
    have hB2 := (hB1.alloc (by have := hB1.size; omega) _).trans (HB2.out.mono (by have := hB1.size; simp; omega))
    have hw2 := fun j => (hc2 W.heap.size j (by simp; omega)).trans ((((Below.refl w1.heap.size w1).alloc (Nat.le_refl _) _).cell (p := ⟨W.heap.size, j, none⟩) hz1).trans (hc1 W.heap.size j (by simp)))
    have hne1 : ¬ w1.heap.size = W.heap.size := by omega
    have hne2 : ¬ W.heap.size = w1.heap.size := by omega
    clear hc1 hf1 hc2 hf2
    refine bodyPost_ret (v := .tuple #[.agg (nodeCells x (.slice Av x.f5.length cv)), .bool true]) (by simp [results, Tryd.results36, go_sem, hw2, hne1, hne2, nodeCells]) rfl ?_
    have hfn := findF_at HRI.out p n.toNat hnl HE.out
    rw [← hQ.out]
    refine ⟨x, true, .slice Av x.f5.length cv, by rw [hfn, ← HX.out]; exact ⟨rfl, rfl⟩, rfl, ?_, ?_⟩
    · have hR : (Kd.int .u8).R 5 w2 (w1.heap.size + 1) (fun k => w1.heap.size + 1 ≤ k) (.slice Av x.f5.length cv) x.f5 := Kd.R_mono (Kd.R_bound (by have := HR2.out; simpa using this)) (fun k hk => hk.2.1)
      refine Kd.R_lower (base := w1.heap.size + 1) (Kd.R_mono (ok := fun k => w1.heap.size + 1 ≤ k) ?_ (fun _ _ => trivial)) (by omega)
      repeat (with_reducible refine row_put ?_ _ _ (by omega) _)
      exact hR
    · repeat (with_reducible refine below_put ?_ _ _ (by omega) _)
      exact hB2
end Go.Proofs.YtfljbidecljlcaaDoor
