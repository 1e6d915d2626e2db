/-
  links.Members' contract: it answers membersF.
-/
import Derived.Test.YtfljbidecljlcaaDoorMembW
namespace Go.Proofs.YtfljbidecljlcaaDoor
open Go.RowKit Go.Maps Go.Proofs.YtfljbidecljlcaaDoor.Print Go.Proofs.YtfljbidecljlcaaDoorW.PrintWords Go.Proofs.YtfljbidecljlcaaDoorW.PrintLast Go.Proofs.YtfljbidecljlcaaDoorW.PrintMore
set_option linter.unusedVariables false
set_option linter.unusedSimpArgs false
/-- What the map of paths seen holds. -/
def seenV (f : List ByteArray) : List UInt8 → Option Value := fun s => if f.any (fun q => decide (q.toList = s)) = true then some (.bool true) else none
theorem seenV_put (f : List ByteArray) (p : ByteArray) (t : List UInt8) : putS (seenV f) p.data.toList (.bool true) t = seenV (p :: f) t := by
  unfold putS seenV
  rw [List.any_cons, Lib.toList_data]
  by_cases h : t = p.data.toList
  · rw [if_pos h, if_pos (by simp [h])]
  · rw [if_neg h, decide_eq_false (fun e => h e.symm), Bool.false_or]
theorem findF_some {l : List Node} {p : ByteArray} {x : Node} (h : findF l p = some x) : x ∈ l ∧ x.f0.toList = p.toList := by
  unfold findF at h
  exact ⟨List.mem_of_find?_eq_some h, by simpa using List.find?_some h⟩
theorem foldlM_take {α β : Type} (g : β → α → Option β) (z : β) (l : List α) (i : Nat) (hi : i < l.length) {f : β} (h : (l.take i).foldlM g z = some f) : (l.take (i + 1)).foldlM g z = g f l[i] := by
  rw [List.take_add_one, List.getElem?_eq_getElem hi, List.foldlM_append, h]
  simp
theorem foldlM_none {α β : Type} (g : β → α → Option β) (z : β) (l : List α) (i : Nat) (h : (l.take i).foldlM g z = none) : l.foldlM g z = none := by
  rw [← List.take_append_drop i l, List.foldlM_append, h]
  rfl
theorem members_stop (l : List Node) (order : List ByteArray) (i : Nat) (hi : i < order.length) {s : MemSt} (h : (order.take i).foldlM (stepM l) ⟨[], [], []⟩ = some s) (hs : stepM l s order[i] = none) : membersF l order = ([], 1) := by
  unfold membersF
  split
  · rfl
  · rw [foldlM_none (stepM l) _ order (i + 1) (by rw [foldlM_take _ _ _ _ hi h, hs])]
theorem members_end (l : List Node) (order : List ByteArray) (hl : order.length = l.length) {s : MemSt} (h : (order.take order.length).foldlM (stepM l) ⟨[], [], []⟩ = some s) : membersF l order = (s.out, 0) := by
  rw [List.take_length] at h
  unfold membersF
  rw [if_neg (fun e => e hl), h]
theorem memb_keep {W wr w1 w2 w3 : World} {o : Obj} {v : Value} {xs : List Mem} (hN : Kd.N k45 45 wr W.heap.size (fun k => W.heap.size + 2 ≤ k) v xs) (hB : Below W.heap.size W wr) (hw : W.heap.size + 2 ≤ wr.heap.size) (hb1 : Below wr.heap.size wr w1) (hg2 : (w1.alloc o).grownBy w2 (some (W.heap.size + 1))) (hg3 : w2.grownBy w3 (some W.heap.size)) :
    Kd.N k45 45 w3 W.heap.size (fun k => W.heap.size + 2 ≤ k) v xs ∧ Below W.heap.size W w3 ∧ wr.heap.size ≤ w2.heap.size ∧ w2.heap.size ≤ w3.heap.size ∧ (∀ k, v.ownBlock = some k → W.heap.size + 2 ≤ k ∧ k < wr.heap.size) := by
  have h1 := hb1.size
  have h2 := hg2.size
  have h3 := hg3.size
  rw [World.size_alloc] at h2
  refine ⟨Kd.N_grown (Kd.N_grown (Kd.N_alloc (Kd.N_below hN hb1) _) hg2 (fun k hk e => by cases e; omega)) hg3 (fun k hk e => by cases e; omega), ?_, by omega, h3, fun k hk => ⟨hN.1 k hk, Kd.N_lt hN k hk⟩⟩
  have hB1 := (hB.trans (hb1.mono hB.size)).alloc (by omega) o
  have hB2 := hB1.grown hg2 hB1.size (fun j hj => by cases hj; omega)
  exact hB2.grown hg3 hB2.size (fun j hj => by cases hj; exact Nat.le_refl _)
/-- The loop's relation. -/
def MembRel (l : List Node) (order : List ByteArray) (W : World) (i : Int) (v : Value) (wr : World) : Prop :=
  0 ≤ i ∧ i ≤ order.length ∧ (∃ s, (order.take i.toNat).foldlM (stepM l) ⟨[], [], []⟩ = some s ∧ s.out.length = i.toNat ∧ MapS Tryd.prog 9 wr W.heap.size i.toNat (firstV s.first) ∧
    MapS Tryd.prog 9 wr (W.heap.size + 1) i.toNat (seenV s.seen) ∧ Kd.N k45 45 wr W.heap.size (fun k => W.heap.size + 2 ≤ k) v s.out) ∧ Below W.heap.size W wr ∧ W.heap.size + 2 ≤ wr.heap.size
set_option maxRecDepth 100000 in
set_option maxHeartbeats 2000000 in
theorem Members_calls (A0 : Option Addr) (c0 : Nat) (l : List Node) (A1 : Option Addr) (c1 : Nat) (order : List ByteArray) (W : World) (hC : Kd.C k40 W A0 l.length l) (hD : Kd.C Kd.string W A1 order.length order) (hr : riseB l = true) (hz : NodesZ l) :
    Calls Tryd.prog 17 #[.slice A0 l.length c0, .slice A1 order.length c1] W fun e W' => ∃ v, e = .returned (.tuple #[v, .int .i64 (membersF l order).2]) ∧ Kd.V k45 45 W' W.heap.size (fun k => W.heap.size ≤ k) v (membersF l order).1 ∧ Below W.heap.size W W' := by
  have hmm := @run_makeMap Tryd.prog
  have cF := fun p W2 (h : Kd.C k40 W2 A0 l.length l) => Find_calls A0 c0 l p W2 h hr hz
  have HC := Aside0.mk hC
  have HD := Aside0.mk hD
  have HZ := Aside0.mk hz
  have HFN := Aside0.mk cF
  have hlen : (l.length : Int) ≤ 1000000000000 := by have := hz.1; omega
  clear hC hz cF hr hD
  generalize hpost : (fun (e : Ending) (W' : World) => ∃ v, e = .returned (.tuple #[v, .int .i64 (membersF l order).2]) ∧ Kd.V k45 45 W' W.heap.size (fun k => W.heap.size ≤ k) v (membersF l order).1 ∧ Below W.heap.size W W') = Q
  have hQ := Aside0.mk hpost
  clear hpost
  by_cases hne : order.length = l.length
  case neg =>
    have hb : ((order.length : Int) != (l.length : Int)) = true := by rw [bne_iff_ne]; omega
    have HNE := Aside0.mk hne
    clear hne
    go_enter Tryd.func17, Tryd.ntmps17
    go_wp2
    rw [← hQ.out]
    have he : membersF l order = ([], 1) := by unfold membersF; rw [if_pos HNE.out]
    exact ⟨.slice none 0 0, by rw [he]; rfl, by rw [he]; exact Kd.V_nil _ _ _ _ _, Below.refl _ _⟩
  case pos =>
    have hb : ((order.length : Int) != (l.length : Int)) = false := by rw [bne_eq_false_iff_eq]; omega
    have hlo : (order.length : Int) ≤ 1000000000000 := by omega
    have HE := Aside0.mk hne
    clear hne
    go_enter Tryd.func17, Tryd.ntmps17
    go_wp2
    go_loopw [22, 8] (fun i o wr => ∃ n : Int, i = .int .i64 n ∧ Aside0 (MembRel l order W n o wr)) (fun i _ _ => (order.length - (intOf i)).toNat)
    case atStart =>
      refine ⟨0, rfl, ⟨⟨by omega, by omega, ⟨⟨[], [], []⟩, rfl, rfl, ?_, ?_, Kd.N_nil _ _ _ _ _⟩, ?_, by simp⟩⟩⟩
      · exact ((MapS.made _ _ _).ext (fun s => rfl)).alloc _
      · have h := MapS.made Tryd.prog 9 (W.alloc (.map #[] 0))
        rw [World.size_alloc] at h
        exact h.ext (fun s => rfl)
      · exact ((Below.refl _ _).alloc (Nat.le_refl _) _).alloc (by simp) _
    case round =>
      obtain ⟨n, rfl, HR⟩ := hrel
      have h0 := HR.out.1
      have h1 := HR.out.2.1
      obtain ⟨s, hs, hsl, hM1, hM2, hN⟩ := HR.out.2.2.1
      have hB := HR.out.2.2.2.1
      have hw2 := HR.out.2.2.2.2
      have HB := Aside0.mk hB
      have HS := Aside0.mk hs
      have HM1 := Aside0.mk hM1
      have HM2 := Aside0.mk hM2
      have HNN := Aside0.mk hN
      obtain ⟨Ao, co, rfl⟩ := Kd.N_slice hN
      have HSL := Aside0.mk hsl
      clear hs hM1 hM2 hN hsl
      by_cases hlt : n < (order.length : Int)
      · have c1b : decide (n < (order.length : Int)) = true := decide_eq_true hlt
        obtain ⟨ad, rfl, x0⟩ := Kd.at_string (Kd.C_below HD.out hB) n h0 hlt
        have hx : rdOf ByteArray.empty order n = order[n.toNat]'(by omega) := by
          unfold rdOf
          rw [List.getD_eq_getElem?_getD, List.getElem?_eq_getElem (by omega)]
          rfl
        generalize rdOf ByteArray.empty order n = p at hx x0
        have HX := Aside0.mk hx
        have HCw := Aside0.mk (Kd.C_below HC.out hB)
        clear hx hB
        cases hfp : findF l p with
        | none =>
          have HFP := Aside0.mk hfp
          clear hfp
          go_wp2_with (go_at_call 36; refine (HFN.out p _ HCw.out).mono ?_; rintro e w1 ⟨x, b, v, hm, rfl, hR1, hb1⟩; rw [HFP.out] at hm; obtain ⟨rfl, rfl⟩ := hm; obtain ⟨Av, cv, rfl, hlv, hCv⟩ := Kd.R_reads hR1; clear hlv hCv hR1; have HB1 := Aside0.mk hb1; clear hb1; simp only [nodeCells])
          rw [← hQ.out]
          have he : membersF l order = ([], 1) := members_stop l order n.toNat (by omega) HS.out (by rw [← HX.out]; unfold stepM; rw [HFP.out])
          refine ⟨.slice none 0 0, by rw [he]; rfl, by rw [he]; exact Kd.V_nil _ _ _ _ _, ?_⟩
          have hB1 := HB.out.trans (HB1.out.mono HB.out.size)
          repeat (first | with_reducible refine below_put ?_ _ _ (by have := hB1.size; simp; omega) _ | with_reducible refine Below.alloc ?_ hB1.size _)
          exact hB1
        | some y =>
          obtain ⟨hyl, hyp⟩ := findF_some hfp
          have hyz := HZ.out.2 _ hyl
          have hps : p.size ≤ maxLen := by
            have h2 : p.size = y.f0.size := by
              have := congrArg List.length hyp
              rw [Lib.toList_data, Lib.toList_data] at this
              rw [Array.length_toList, Array.length_toList] at this
              exact this.symm
            have := hyz.1
            unfold maxLen; omega
          have HFP := Aside0.mk hfp
          have HYZ := Aside0.mk hyz
          clear hfp hyl hyp hyz
          cases hsn : seenV s.seen p.data.toList with
          | some u =>
            obtain rfl : u = .bool true := by
              unfold seenV at hsn
              split at hsn
              · cases hsn; rfl
              · cases hsn
            have hany : s.seen.any (fun q => decide (q.toList = p.toList)) = true := by
              unfold seenV at hsn
              rw [← Lib.toList_data] at hsn
              split at hsn
              · assumption
              · cases hsn
            have HAN := Aside0.mk hany
            have HSN := Aside0.mk hsn
            clear hany hsn
            go_wp2_with (go_at_call 36; refine (HFN.out p _ HCw.out).mono ?_; rintro e w1 ⟨x, b, v, hm, rfl, hR1, hb1⟩; rw [HFP.out] at hm; obtain ⟨rfl, rfl⟩ := hm; obtain ⟨Av, cv, rfl, hlv, hCv⟩ := Kd.R_reads hR1; clear hlv hCv hR1; have HB1 := Aside0.mk hb1; have hlook := fun o => ((HM2.out.below hb1).alloc o).look Tryd.underlying9 Tryd.underlying63 (zeroBool _) hps; simp only [HSN.out, Option.getD_some] at hlook; clear hb1; simp only [nodeCells])
            rw [← hQ.out]
            have he : membersF l order = ([], 1) := members_stop l order n.toNat (by omega) HS.out (by rw [← HX.out]; unfold stepM; rw [HFP.out]; dsimp only; rw [if_pos HAN.out])
            refine ⟨.slice none 0 0, by rw [he]; rfl, by rw [he]; exact Kd.V_nil _ _ _ _ _, ?_⟩
            have hB1 := HB.out.trans (HB1.out.mono HB.out.size)
            repeat (first | with_reducible refine below_put ?_ _ _ (by have := hB1.size; simp; omega) _ | with_reducible refine Below.alloc ?_ hB1.size _)
            exact hB1
          | none =>
            have hany : ¬ s.seen.any (fun q => decide (q.toList = p.toList)) = true := by
              unfold seenV at hsn
              rw [← Lib.toList_data] at hsn
              split at hsn
              · cases hsn
              · assumption
            have HAN := Aside0.mk hany
            have HSN := Aside0.mk hsn
            clear hany hsn
            have hne1 : ¬ W.heap.size = W.heap.size + 1 := by omega
            go_wp2_with (first
              | (go_at_call 36; refine (HFN.out p _ HCw.out).mono ?_; rintro e w1 ⟨x, b, v, hm, rfl, hR1, hb1⟩; rw [HFP.out] at hm; obtain ⟨rfl, rfl⟩ := hm; obtain ⟨Av, cv, rfl, hlv, hCv⟩ := Kd.R_reads hR1; clear hlv hR1; have hlook := fun o => ((HM2.out.below hb1).alloc o).look Tryd.underlying9 Tryd.underlying63 (zeroBool _) hps; simp only [HSN.out, Option.getD_none] at hlook; have hM2a := fun o => (HM2.out.below hb1).alloc o; have hM1a := fun o => (HM1.out.below hb1).alloc o; have HMA := Aside0.mk hM2a; have HMB := Aside0.mk hM1a; have HCV := Aside0.mk hCv; have HB1 := Aside0.mk hb1; have hz1 : W.heap.size + 2 ≤ w1.heap.size := (by have := hb1.size; omega); have hnb : ¬ w1.heap.size = W.heap.size + 1 := (by omega); clear hb1 hM2a hM1a hCv; simp only [nodeCells])
              | (at_mapUpdate; refine MapS.wpput (HMA.out _) rfl _ _ _ rfl Tryd.underlying9 Tryd.underlying63 (by unfold maxLen; omega) rfl rfl hps rfl ?_; intro w2 hM2 hturn; obtain ⟨hc2, hf2⟩ := gcell hturn.grown; have hz2 := hturn.grown.size; simp only [World.size_alloc] at hz2; have hM1c := (HMB.out _).kept hturn.grown (by simp); have hCc := int_kept (HMA.out _) hturn.grown (Kd.C_alloc HCV.out _); have HM1c := Aside0.mk hM1c; have HCc := Aside0.mk hCc; have HM2c := Aside0.mk hM2; have HG2 := Aside0.mk hturn.grown; clear hM2 hturn hM1c hCc)
              | (go_at_call 41; refine (Member_calls W.heap.size n.toNat s.first x Av cv _ HM1c.out (by omega) HCc.out HYZ.out).mono ?_; rintro e w3 ⟨v3, rfl, hR3, hM3, hg3⟩; obtain ⟨A3, c3, rfl, hl3, hC3⟩ := Kd.R_reads hR3; have HL3 := Aside0.mk hl3; clear hC3 hl3; have HR3 := Aside0.mk hR3; have HM3 := Aside0.mk hM3; have HG3 := Aside0.mk hg3; clear hR3 hM3 hg3; simp only [memCells])
              | (at_builtin; obtain ⟨hN3, hB3, hz12, hz23, hob⟩ := memb_keep HNN.out HB.out hw2 HB1.out HG2.out HG3.out; have hFK : Kd.FK k45 w3 (fun k => w2.heap.size ≤ k ∧ k < w3.heap.size) (memF s.first x).1 [.string (memF s.first x).1.f0, .string (memF s.first x).1.f1, .int .u8 (memF s.first x).1.f2, .int .i64 (memF s.first x).1.f3.f0, .int .i64 (memF s.first x).1.f3.f1, .int .i64 (memF s.first x).1.f3.f2, .int .i64 (memF s.first x).1.f3.f3, .slice A3 (memF s.first x).1.f4.length c3] := k45_mkF w3 _ _ HL3.out (Kd.R_F (Kd.R_mono (Kd.R_bound HR3.out) (fun k hk => ⟨hk.2.1, hk.2.2.1⟩))); refine Kd.N_append k45 (w0 := W) W.heap.size rfl _ _ 28 45 (.agg #[(.string ⟨#[]⟩), (.string ⟨#[]⟩), (.int .u8 0), (.int .i64 0), (.int .i64 0), (.int .i64 0), (.int .i64 0), (.slice none 0 0)]) 96 rfl Tryd.underlying28 info45 rfl (by decide) (by decide) (.slice Ao s.out.length co) s.out (memF s.first x).1 [.string (memF s.first x).1.f0, .string (memF s.first x).1.f1, .int .u8 (memF s.first x).1.f2, .int .i64 (memF s.first x).1.f3.f0, .int .i64 (memF s.first x).1.f3.f1, .int .i64 (memF s.first x).1.f3.f2, .int .i64 (memF s.first x).1.f3.f3, .slice A3 (memF s.first x).1.f4.length c3] (fun k => W.heap.size + 2 ≤ k) (fun k => w2.heap.size ≤ k ∧ k < w3.heap.size) rfl rfl hFK (fun k hk => ⟨by have := hk.1; omega, fun e => by have := (hob k e.symm).2; have := hk.1; omega⟩) (fun k hk => by omega) hN3 hB3 (by omega) (by have := HSL.out; omega) ?_; intro v4 w4 hN4 hB4 hg4 hat4; have hne : ∀ k, k < W.heap.size + 2 → some k ≠ (Value.slice Ao s.out.length co).ownBlock := (fun k hk e => by have := (hob k e.symm).1; omega); have hM4 := HM3.out.kept hg4 (hne _ (by omega)); have hM4b := (HM2c.out.kept HG3.out (by simp)).kept hg4 (hne _ (by omega)); have HN4 := Aside0.mk hN4; have HB4 := Aside0.mk hB4; have HM4 := Aside0.mk hM4; have HM4b := Aside0.mk hM4b; have hz4 : W.heap.size + 2 ≤ w4.heap.size := (by have := hg4.size; omega); clear hN4 hB4 hM4 hM4b hg4 hat4 hN3 hB3 hFK hob hne))
            have hfin : MembRel l order W (n + 1) v4 w4 := by
              refine ⟨by omega, by omega, ⟨⟨p :: s.seen, (memF s.first x).2, s.out ++ [(memF s.first x).1]⟩, ?_, ?_, ?_, ?_, HN4.out⟩, HB4.out, hz4⟩
              · rw [show (n + 1).toNat = n.toNat + 1 from by omega, foldlM_take _ _ _ n.toNat (by omega) HS.out, ← HX.out]
                unfold stepM
                rw [HFP.out]
                dsimp only
                rw [if_neg HAN.out]
              · have := HSL.out
                simp only [List.length_append, List.length_cons, List.length_nil]
                omega
              · rw [show (n + 1).toNat = n.toNat + 1 from by omega]
                exact HM4.out
              · rw [show (n + 1).toNat = n.toNat + 1 from by omega]
                exact HM4b.out.ext (fun t => seenV_put s.seen p t)
            go_roundw
            case rel => exact ⟨n + 1, by go_num, ⟨hfin⟩⟩
            case measure => simp [intOf]; omega
      · have c1b : decide (n < (order.length : Int)) = false := decide_eq_false hlt
        go_wp2
        rw [← hQ.out]
        have he : membersF l order = (s.out, 0) := members_end l order HE.out (by rw [show order.length = n.toNat from by omega]; exact HS.out)
        refine ⟨_, by rw [he], ?_, HB.out⟩
        rw [he]
        exact Kd.V_mono (Kd.N_V HNN.out) (fun k hk => by omega)
end Go.Proofs.YtfljbidecljlcaaDoor
