/-
  links.Sound's contract: it answers soundF.
-/
import Derived.Test.YtfljbidecljlcaaDoorGoodM
import Derived.Test.YtfljbidecljlcaaDoorMapV
import Derived.WalkKit
import Derived.LoopTactic
namespace Go.Proofs.YtfljbidecljlcaaDoor
open Go.RowKit Go.Maps Go.Proofs.YtfljbidecljlcaaDoor.Print Go.Proofs.YtfljbidecljlcaaDoorW.PrintWords Go.Proofs.YtfljbidecljlcaaDoorW.PrintLast Go.Proofs.YtfljbidecljlcaaDoorW.PrintMore
set_option linter.unusedVariables false
set_option linter.unusedSimpArgs false
theorem zeroU8 (w : World) : (zeroValue 5).run Tryd.prog w = .ok (.int .u8 0) w := by kernel_rfl
/-- What the map of kinds holds. -/
def kindsV (f : List (List UInt8 × Int)) : List UInt8 → Option Value := fun s => (lkI f s).map (Value.int .u8)
theorem kindsV_put (f : List (List UInt8 × Int)) (s : List UInt8) (v : Int) (t : List UInt8) : putS (kindsV f) s (.int .u8 v) t = kindsV ((s, v) :: f) t := by
  unfold putS kindsV
  rw [lkI]
  by_cases h : t = s
  · rw [if_pos h, if_pos h]; rfl
  · rw [if_neg h, if_neg h]
theorem sound_take (l : List Mem) (i : Nat) (hi : i < l.length) {f : List (List UInt8 × Int)} (h : (l.take i).foldlM stepS [] = some f) : (l.take (i + 1)).foldlM stepS [] = stepS f l[i] := by
  rw [List.take_add_one, List.getElem?_eq_getElem hi, List.foldlM_append, h]
  simp
theorem sound_none (l : List Mem) (i : Nat) (h : (l.take i).foldlM stepS [] = none) : soundF l = false := by
  unfold soundF
  rw [← List.take_append_drop i l, List.foldlM_append, h]
  rfl
theorem sound_stop (l : List Mem) (i : Nat) (hi : i < l.length) {f : List (List UInt8 × Int)} (h : (l.take i).foldlM stepS [] = some f) (hs : stepS f l[i] = none) : soundF l = false :=
  sound_none l (i + 1) (by rw [sound_take l i hi h, hs])
theorem sound_end (l : List Mem) {f : List (List UInt8 × Int)} (h : (l.take l.length).foldlM stepS [] = some f) : soundF l = true := by
  rw [List.take_length] at h
  unfold soundF
  rw [h]
  rfl
theorem rdM_at (l : List Mem) (i : Int) (h0 : 0 ≤ i) (h1 : i < l.length) : rd_T45 l i = l[i.toNat]'(by omega) := by
  unfold rd_T45
  rw [List.getD_eq_getElem?_getD, List.getElem?_eq_getElem (by omega)]
  rfl
theorem bcell {W w1 : World} (hb : Below W.heap.size W w1) : (∀ b o, b < W.heap.size → w1.cell? ⟨b, o, none⟩ = W.cell? ⟨b, o, none⟩) ∧ (∀ b o, b < W.heap.size → w1.frozen? ⟨b, o, none⟩ = W.frozen? ⟨b, o, none⟩) :=
  ⟨fun b o h => hb.cell (p := ⟨b, o, none⟩) h, fun b o h => hb.frozen (p := ⟨b, o, none⟩) h⟩
/-- The loop's relation. -/
def SoundRel (l : List Mem) (W : World) (i : Int) (wr : World) : Prop :=
  0 ≤ i ∧ i ≤ l.length ∧ (∃ f, (l.take i.toNat).foldlM stepS [] = some f ∧ MapS Tryd.prog 9 wr W.heap.size i.toNat (kindsV f)) ∧ Below W.heap.size W wr
set_option maxRecDepth 100000 in
set_option maxHeartbeats 2000000 in
theorem Sound_calls (A0 : Option Addr) (c0 : Nat) (l : List Mem) (W : World) (hT : Tabs W) (hC : Kd.C k45 W A0 l.length l) (hz : MemsZ l) :
    Calls Tryd.prog 22 #[.slice A0 l.length c0] W fun e W' => e = .returned (.bool (soundF l)) ∧ Below W.heap.size W W' := by
  have hmm := @run_makeMap Tryd.prog
  have HC := Aside0.mk hC
  have HT := Aside0.mk hT
  have HZ := Aside0.mk hz
  have hlen : (l.length : Int) ≤ 1000000000000 := by have := hz.1; omega
  clear hC hT hz
  generalize hpost : (fun (e : Ending) (W' : World) => e = .returned (.bool (soundF l)) ∧ Below W.heap.size W W') = Q
  have hQ := Aside0.mk hpost
  clear hpost
  go_enter Tryd.func22, Tryd.ntmps22
  go_wp2
  go_loopw [11] (fun i wr => ∃ n : Int, i = .int .i64 n ∧ Aside0 (SoundRel l W n wr)) (fun i _ => (l.length - (intOf i)).toNat)
  case atStart => exact ⟨0, rfl, ⟨⟨by omega, by omega, ⟨[], rfl, (MapS.made _ _ _).ext (fun s => rfl)⟩, (Below.refl _ _).alloc (Nat.le_refl _) _⟩⟩⟩
  case round =>
    obtain ⟨n, rfl, HR⟩ := hrel
    have h0 := HR.out.1
    have h1 := HR.out.2.1
    obtain ⟨f, hf, hM⟩ := HR.out.2.2.1
    have hB := HR.out.2.2.2
    have HB := Aside0.mk hB
    have HF := Aside0.mk hf
    clear hf
    by_cases hlt : n < (l.length : Int)
    · obtain ⟨ad, A7, c7, rfl, x0, x1, x2, x3, x4, x5, x6, x7, hl7, hC7⟩ := at_T45 (Kd.C_below HC.out hB) n h0 hlt
      have hx := rdM_at l n h0 hlt
      have hxz : MemZ (rd_T45 l n) := by rw [hx]; exact HZ.out.2 _ (List.getElem_mem _)
      generalize rd_T45 l n = x at hx hxz x0 x1 x2 x3 x4 x5 x6 x7 hl7 hC7
      have hlen7 : x.f4.length ≤ c7 := hl7
      have HX := Aside0.mk hx
      have HXZ := Aside0.mk hxz
      have HC7 := Aside0.mk hC7
      have hs0 : x.f0.size ≤ maxLen := by have := hxz.1; unfold maxLen; omega
      have hs1 : x.f1.size ≤ maxLen := by have := hxz.2.1; unfold maxLen; omega
      have HM := Aside0.mk hM
      have hlook := fun o => (hM.alloc o).look_ok Tryd.underlying9 Tryd.underlying66 (zeroU8 _) hs0
      have c1b : decide (n < (l.length : Int)) = true := decide_eq_true hlt
      clear hx hxz hC7 hl7 hB hM hs0 hs1
      cases ht : (kindsV f x.f0.data.toList) with
      | some v =>
        simp only [ht, Option.getD_some, Option.isSome_some] at hlook
        obtain ⟨vi, rfl⟩ : ∃ vi, v = Value.int .u8 vi := by
          unfold kindsV at ht
          cases hk : lkI f x.f0.data.toList with
          | none => rw [hk] at ht; cases ht
          | some q => rw [hk] at ht; cases ht; exact ⟨q, rfl⟩
        have HTW := Aside0.mk ht
        clear ht
        go_wp2
        rw [← hQ.out]
        refine ⟨?_, HB.out.alloc HB.out.size _⟩
        rw [sound_stop l n.toNat (by omega) HF.out (by rw [← HX.out]; unfold stepS; rw [if_pos (.inl (by unfold kindsV at HTW; have := HTW.out; cases hk : lkI f x.f0.data.toList with | none => rw [hk] at this; cases this | some q => rfl))])]
        rfl
      | none =>
        simp only [ht, Option.getD_none, Option.isSome_none] at hlook
        have hnone : lkI f x.f0.data.toList = none := by
          unfold kindsV at ht
          cases hk : lkI f x.f0.data.toList with
          | none => rfl
          | some q => rw [hk] at ht; cases ht
        have HN := Aside0.mk hnone
        clear hnone ht
        obtain ⟨kk, hkk⟩ := Ev.rounds (member_Good_eq x HXZ.out)
        have hTa : ∀ o, Aside0 (Tabs (wr.alloc o)) := fun o => ⟨Tabs.below HT.out (HB.out.alloc HB.out.size _)⟩
        have hCa : ∀ o, Kd.C (Kd.int .u8) (wr.alloc o) A7 x.f4.length x.f4 := fun o => Kd.C_alloc HC7.out o
        cases hg : goodM x with
        | false =>
          rw [hg] at hkk
          have HG := Aside0.mk hg
          have HK := Aside0.mk hkk
          have HTA := Aside0.mk hTa
          have HCA := Aside0.mk hCa
          clear hg hkk hTa hCa
          go_wp2_with (go_at_call 43; (with_reducible refine (member_Good.calls kk x.f0 x.f1 x.f2 x.f3.f0 x.f3.f1 x.f3.f2 x.f3.f3 A7 c7 x.f4 false _ (HTA.out _) (HCA.out _) hlen7 HK.out).mono ?_); rintro e w5 ⟨rfl, hb5⟩)
          rw [← hQ.out]
          refine ⟨?_, (HB.out.alloc HB.out.size _).trans (hb5.mono (by simp; have := HB.out.size; omega))⟩
          rw [sound_stop l n.toNat (by omega) HF.out (by rw [← HX.out]; unfold stepS; rw [if_pos (.inr (.inl HG.out))])]
          rfl
        | true =>
          rw [hg] at hkk
          have HG := Aside0.mk hg
          have HK := Aside0.mk hkk
          have HTA := Aside0.mk hTa
          have HCA := Aside0.mk hCa
          clear hg hkk hTa hCa
          have hs0 : x.f0.size ≤ maxLen := by have := HXZ.out.1; unfold maxLen; omega
          have hs1 : x.f1.size ≤ maxLen := by have := HXZ.out.2.1; unfold maxLen; omega
          by_cases h49 : x.f2 = 49
          · have e49 : (x.f2 == 49) = true := beq_iff_eq.2 h49
            have H49 := Aside0.mk h49
            clear h49
            cases ht1 : (kindsV f x.f1.data.toList) with
            | none =>
              have HV := Aside0.mk ht1
              clear ht1
              go_wp2_with (go_at_call 43; (with_reducible refine (member_Good.calls kk x.f0 x.f1 x.f2 x.f3.f0 x.f3.f1 x.f3.f2 x.f3.f3 A7 c7 x.f4 true _ (HTA.out _) (HCA.out _) hlen7 HK.out).mono ?_); rintro e w5 ⟨rfl, hb5⟩; obtain ⟨hc5, hf5⟩ := bcell hb5; have hM5 := (HM.out.alloc _).below hb5; have HB5 := Aside0.mk ((HB.out.alloc HB.out.size _).trans (hb5.mono (by simp; have := HB.out.size; omega))); have hl5 := hM5.look Tryd.underlying9 Tryd.underlying66 (zeroU8 _) hs1; rw [HV.out] at hl5; simp only [Option.getD_none] at hl5)
              rw [← hQ.out]
              refine ⟨?_, HB5.out⟩
              rw [sound_stop l n.toNat (by omega) HF.out (by rw [← HX.out]; unfold stepS; rw [if_pos (.inr (.inr ⟨H49.out, by rw [show lkI f x.f1.data.toList = none from by have := HV.out; unfold kindsV at this; cases hk : lkI f x.f1.data.toList with | none => rfl | some q => rw [hk] at this; cases this]; decide⟩))])]
              rfl
            | some v =>
              obtain ⟨q, rfl, hq⟩ : ∃ q, v = Value.int .u8 q ∧ lkI f x.f1.data.toList = some q := by
                unfold kindsV at ht1
                cases hk : lkI f x.f1.data.toList with
                | none => rw [hk] at ht1; cases ht1
                | some q => rw [hk] at ht1; cases ht1; exact ⟨q, rfl, rfl⟩
              have HV := Aside0.mk ht1
              have HVL := Aside0.mk hq
              clear ht1 hq
              by_cases hq48 : q = 48
              · subst hq48
                go_wp2_with (first | (go_at_call 43; (with_reducible refine (member_Good.calls kk x.f0 x.f1 x.f2 x.f3.f0 x.f3.f1 x.f3.f2 x.f3.f3 A7 c7 x.f4 true _ (HTA.out _) (HCA.out _) hlen7 HK.out).mono ?_); rintro e w5 ⟨rfl, hb5⟩; obtain ⟨hc5, hf5⟩ := bcell hb5; have hM5 := (HM.out.alloc _).below hb5; have HB5 := Aside0.mk ((HB.out.alloc HB.out.size _).trans (hb5.mono (by simp; have := HB.out.size; omega))); have hl5 := hM5.look Tryd.underlying9 Tryd.underlying66 (zeroU8 _) hs1; rw [HV.out] at hl5; simp only [Option.getD_some] at hl5) | (at_mapUpdate; refine MapS.wpput hM5 rfl _ _ _ rfl Tryd.underlying9 Tryd.underlying66 (by unfold maxLen; omega) rfl rfl hs0 rfl ?_; intro w6 hM6 hturn6))
                have HB6 := HB5.out.grown hturn6.grown HB5.out.size (fun j hj => by cases hj; exact Nat.le_refl _)
                have hfin : SoundRel l W (n + 1) w6 := by
                  refine ⟨by omega, by omega, ⟨(x.f0.data.toList, x.f2) :: f, ?_, ?_⟩, HB6⟩
                  · rw [show (n + 1).toNat = n.toNat + 1 from by omega, sound_take l n.toNat (by omega) HF.out, ← HX.out]
                    unfold stepS
                    rw [if_neg (by rintro (h | h | h); rw [HN.out] at h; cases h; rw [HG.out] at h; cases h; rw [HVL.out] at h; exact h.2 rfl)]
                  · rw [show (n + 1).toNat = n.toNat + 1 from by omega]
                    exact hM6.ext (fun s => kindsV_put f _ _ s)
                clear hM6 hM5 hc5 hf5 hturn6 hl5
                go_roundw
                case rel => exact ⟨n + 1, by go_num, ⟨hfin⟩⟩
                case measure => simp [intOf]; omega
              · have q48 : (q != 48) = true := by rw [bne_iff_ne]; exact hq48
                have q48b : (q == 48) = false := beq_eq_false_iff_ne.2 hq48
                have HQ := Aside0.mk hq48
                clear hq48
                go_wp2_with (go_at_call 43; (with_reducible refine (member_Good.calls kk x.f0 x.f1 x.f2 x.f3.f0 x.f3.f1 x.f3.f2 x.f3.f3 A7 c7 x.f4 true _ (HTA.out _) (HCA.out _) hlen7 HK.out).mono ?_); rintro e w5 ⟨rfl, hb5⟩; obtain ⟨hc5, hf5⟩ := bcell hb5; have hM5 := (HM.out.alloc _).below hb5; have HB5 := Aside0.mk ((HB.out.alloc HB.out.size _).trans (hb5.mono (by simp; have := HB.out.size; omega))); have hl5 := hM5.look Tryd.underlying9 Tryd.underlying66 (zeroU8 _) hs1; rw [HV.out] at hl5; simp only [Option.getD_some] at hl5)
                rw [← hQ.out]
                refine ⟨?_, HB5.out⟩
                rw [sound_stop l n.toNat (by omega) HF.out (by rw [← HX.out]; unfold stepS; rw [if_pos (.inr (.inr ⟨H49.out, by rw [HVL.out]; exact HQ.out⟩))])]
                rfl
          · have e49 : (x.f2 == 49) = false := beq_eq_false_iff_ne.2 h49
            have H49 := Aside0.mk h49
            clear h49
            go_wp2_with (first | (go_at_call 43; (with_reducible refine (member_Good.calls kk x.f0 x.f1 x.f2 x.f3.f0 x.f3.f1 x.f3.f2 x.f3.f3 A7 c7 x.f4 true _ (HTA.out _) (HCA.out _) hlen7 HK.out).mono ?_); rintro e w5 ⟨rfl, hb5⟩; obtain ⟨hc5, hf5⟩ := bcell hb5; have hM5 := (HM.out.alloc _).below hb5; have HB5 := Aside0.mk ((HB.out.alloc HB.out.size _).trans (hb5.mono (by simp; have := HB.out.size; omega)))) | (at_mapUpdate; refine MapS.wpput hM5 rfl _ _ _ rfl Tryd.underlying9 Tryd.underlying66 (by unfold maxLen; omega) rfl rfl hs0 rfl ?_; intro w6 hM6 hturn6))
            have HB6 := HB5.out.grown hturn6.grown HB5.out.size (fun j hj => by cases hj; exact Nat.le_refl _)
            have hfin : SoundRel l W (n + 1) w6 := by
              refine ⟨by omega, by omega, ⟨(x.f0.data.toList, x.f2) :: f, ?_, ?_⟩, HB6⟩
              · rw [show (n + 1).toNat = n.toNat + 1 from by omega, sound_take l n.toNat (by omega) HF.out, ← HX.out]
                unfold stepS
                rw [if_neg (by rintro (h | h | h); rw [HN.out] at h; cases h; rw [HG.out] at h; cases h; exact H49.out h.1)]
              · rw [show (n + 1).toNat = n.toNat + 1 from by omega]
                exact hM6.ext (fun s => kindsV_put f _ _ s)
            clear hM6 hM5 hc5 hf5 hturn6
            go_roundw
            case rel => exact ⟨n + 1, by go_num, ⟨hfin⟩⟩
            case measure => simp [intOf]; omega
    · have c1b : decide (n < (l.length : Int)) = false := decide_eq_false hlt
      clear hM hB
      go_wp2
      rw [← hQ.out]
      refine ⟨?_, HB.out⟩
      rw [sound_end l (f := f) (by rw [show l.length = n.toNat from by omega]; exact HF.out)]
end Go.Proofs.YtfljbidecljlcaaDoor
