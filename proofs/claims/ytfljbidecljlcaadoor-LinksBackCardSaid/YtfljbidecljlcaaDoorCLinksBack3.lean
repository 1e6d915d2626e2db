/-
  Part of the proof that LinksBack answers true: texts put together (wip/bundle.py).
-/
import Derived.Test.YtfljbidecljlcaaDoorCLinksBack2
import Derived.WalkKit
import Derived.LoopTactic
import Derived.WalkSpells
import Derived.Deep.RegionHeld3
import Derived.Laws.Cover1
import Derived.Deep.LoopGhost
import Derived.Deep.DeepCutAuto
import Derived.IntWalk
import Derived.Outline
import Derived.Sort.KeysCollected
import Derived.Maps.Range
namespace Go.Proofs.YtfljbidecljlcaaDoor
open Go.RowKit Go.Maps Go.Proofs.YtfljbidecljlcaaDoor.Print Go.Proofs.YtfljbidecljlcaaDoorW.PrintWords Go.Proofs.YtfljbidecljlcaaDoorW.PrintLast Go.Proofs.YtfljbidecljlcaaDoorW.PrintMore
set_option linter.unusedVariables false
set_option linter.unusedSimpArgs false
theorem zeroU8 (w : World) : (zeroValue 5).run Tryd.prog w = .ok (.int .u8 0) w := by kernel_rfl
def kindsV (f : List (List UInt8 × Int)) : List UInt8 → Option Value := fun s => (lkI f s).map (Value.int .u8)
theorem kindsV_put (f : List (List UInt8 × Int)) (s : List UInt8) (v : Int) (t : List UInt8) : putS (kindsV f) s (.int .u8 v) t = kindsV ((s, v) :: f) t := by
 unfold putS kindsV
 rw [lkI]
 by_cases h : t = s
 ·rw [if_pos h, if_pos h]; rfl
 ·rw [if_neg h, if_neg h]
theorem sound_take (l : List Mem) (i : Nat) (hi : i < l.length) {f : List (List UInt8 × Int)} (h : (l.take i).foldlM stepS [] = some f) : (l.take (i + 1)).foldlM stepS [] = stepS f l[i] := by
 rw [List.take_add_one, List.getElem?_eq_getElem hi, List.foldlM_append, h]
 simp
theorem sound_none (l : List Mem) (i : Nat) (h : (l.take i).foldlM stepS [] = none) : soundF l = false := by
 unfold soundF
 rw [← List.take_append_drop i l, List.foldlM_append, h]
 rfl
theorem sound_stop (l : List Mem) (i : Nat) (hi : i < l.length) {f : List (List UInt8 × Int)} (h : (l.take i).foldlM stepS [] = some f) (hs : stepS f l[i] = none) : soundF l = false :=
 sound_none l (i + 1) (by rw [sound_take l i hi h, hs])
theorem sound_end (l : List Mem) {f : List (List UInt8 × Int)} (h : (l.take l.length).foldlM stepS [] = some f) : soundF l = true := by
 rw [List.take_length] at h
 unfold soundF
 rw [h]
 rfl
theorem rdM_at (l : List Mem) (i : Int) (h0 : 0 ≤ i) (h1 : i < l.length) : rd_T45 l i = l[i.toNat]'(by omega) := by
 unfold rd_T45
 rw [List.getD_eq_getElem?_getD, List.getElem?_eq_getElem (by omega)]
 rfl
theorem bcell {W w1 : World} (hb : Below W.heap.size W w1) : (∀ b o, b < W.heap.size → w1.cell? ⟨b, o, none⟩ = W.cell? ⟨b, o, none⟩) ∧ (∀ b o, b < W.heap.size → w1.frozen? ⟨b, o, none⟩ = W.frozen? ⟨b, o, none⟩) :=
 ⟨fun b o h => hb.cell (p := ⟨b, o, none⟩) h, fun b o h => hb.frozen (p := ⟨b, o, none⟩) h⟩
def SoundRel (l : List Mem) (W : World) (i : Int) (wr : World) : Prop :=
 0 ≤ i ∧ i ≤ l.length ∧ (∃ f, (l.take i.toNat).foldlM stepS [] = some f ∧ MapS Tryd.prog 9 wr W.heap.size i.toNat (kindsV f)) ∧ Below W.heap.size W wr
set_option maxRecDepth 100000 in
set_option maxHeartbeats 2000000 in
theorem Sound_calls (A0 : Option Addr) (c0 : Nat) (l : List Mem) (W : World) (hT : Tabs W) (hC : Kd.C k45 W A0 l.length l) (hz : MemsZ l) :
  Calls Tryd.prog 22 #[.slice A0 l.length c0] W fun e W' => e = .returned (.bool (soundF l)) ∧ Below W.heap.size W W' := by
 have hmm := @run_makeMap Tryd.prog
 have HC := Aside0.mk hC
 have HT := Aside0.mk hT
 have HZ := Aside0.mk hz
 have hlen : (l.length : Int) ≤ 1000000000000 := by have := hz.1; omega
 clear hC hT hz
 generalize hpost : (fun (e : Ending) (W' : World) => e = .returned (.bool (soundF l)) ∧ Below W.heap.size W W') = Q
 have hQ := Aside0.mk hpost
 clear hpost
 go_enter Tryd.func22, Tryd.ntmps22
 go_wp2
 go_loopw [11] (fun i wr => ∃ n : Int, i = .int .i64 n ∧ Aside0 (SoundRel l W n wr)) (fun i _ => (l.length - (intOf i)).toNat)
 case atStart => exact ⟨0, rfl, ⟨⟨by omega, by omega, ⟨[], rfl, (MapS.made _ _ _).ext (fun s => rfl)⟩, (Below.refl _ _).alloc (Nat.le_refl _) _⟩⟩⟩
 case round =>
  obtain ⟨n, rfl, HR⟩ := hrel
  have h0 := HR.out.1
  have h1 := HR.out.2.1
  obtain ⟨f, hf, hM⟩ := HR.out.2.2.1
  have hB := HR.out.2.2.2
  have HB := Aside0.mk hB
  have HF := Aside0.mk hf
  clear hf
  by_cases hlt : n < (l.length : Int)
  ·obtain ⟨ad, A7, c7, rfl, x0, x1, x2, x3, x4, x5, x6, x7, hl7, hC7⟩ := at_T45 (Kd.C_below HC.out hB) n h0 hlt
   have hx := rdM_at l n h0 hlt
   have hxz : MemZ (rd_T45 l n) := by rw [hx]; exact HZ.out.2 _ (List.getElem_mem _)
   generalize rd_T45 l n = x at hx hxz x0 x1 x2 x3 x4 x5 x6 x7 hl7 hC7
   have hlen7 : x.f4.length ≤ c7 := hl7
   have HX := Aside0.mk hx
   have HXZ := Aside0.mk hxz
   have HC7 := Aside0.mk hC7
   have hs0 : x.f0.size ≤ maxLen := by have := hxz.1; unfold maxLen; omega
   have hs1 : x.f1.size ≤ maxLen := by have := hxz.2.1; unfold maxLen; omega
   have HM := Aside0.mk hM
   have hlook := fun o => (hM.alloc o).look_ok Tryd.underlying9 Tryd.underlying66 (zeroU8 _) hs0
   have c1b : decide (n < (l.length : Int)) = true := decide_eq_true hlt
   clear hx hxz hC7 hl7 hB hM hs0 hs1
   cases ht : (kindsV f x.f0.data.toList) with
   | some v =>
    simp only [ht, Option.getD_some, Option.isSome_some] at hlook
    obtain ⟨vi, rfl⟩ : ∃ vi, v = Value.int .u8 vi := by
     unfold kindsV at ht
     cases hk : lkI f x.f0.data.toList with
     | none => rw [hk] at ht; cases ht
     | some q => rw [hk] at ht; cases ht; exact ⟨q, rfl⟩
    have HTW := Aside0.mk ht
    clear ht
    go_wp2
    rw [← hQ.out]
    refine ⟨?_, HB.out.alloc HB.out.size _⟩
    rw [sound_stop l n.toNat (by omega) HF.out (by rw [← HX.out]; unfold stepS; rw [if_pos (.inl (by unfold kindsV at HTW; have := HTW.out; cases hk : lkI f x.f0.data.toList with | none => rw [hk] at this; cases this | some q => rfl))])]
    rfl
   | none =>
    simp only [ht, Option.getD_none, Option.isSome_none] at hlook
    have hnone : lkI f x.f0.data.toList = none := by
     unfold kindsV at ht
     cases hk : lkI f x.f0.data.toList with
     | none => rfl
     | some q => rw [hk] at ht; cases ht
    have HN := Aside0.mk hnone
    clear hnone ht
    obtain ⟨kk, hkk⟩ := Ev.rounds (member_Good_eq x HXZ.out)
    have hTa : ∀ o, Aside0 (Tabs (wr.alloc o)) := fun o => ⟨Tabs.below HT.out (HB.out.alloc HB.out.size _)⟩
    have hCa : ∀ o, Kd.C (Kd.int .u8) (wr.alloc o) A7 x.f4.length x.f4 := fun o => Kd.C_alloc HC7.out o
    cases hg : goodM x with
    | false =>
     rw [hg] at hkk
     have HG := Aside0.mk hg
     have HK := Aside0.mk hkk
     have HTA := Aside0.mk hTa
     have HCA := Aside0.mk hCa
     clear hg hkk hTa hCa
     go_wp2_with (go_at_call 43; (with_reducible refine (member_Good.calls kk x.f0 x.f1 x.f2 x.f3.f0 x.f3.f1 x.f3.f2 x.f3.f3 A7 c7 x.f4 false _ (HTA.out _) (HCA.out _) hlen7 HK.out).mono ?_); rintro e w5 ⟨rfl, hb5⟩)
     rw [← hQ.out]
     refine ⟨?_, (HB.out.alloc HB.out.size _).trans (hb5.mono (by simp; have := HB.out.size; omega))⟩
     rw [sound_stop l n.toNat (by omega) HF.out (by rw [← HX.out]; unfold stepS; rw [if_pos (.inr (.inl HG.out))])]
     rfl
    | true =>
     rw [hg] at hkk
     have HG := Aside0.mk hg
     have HK := Aside0.mk hkk
     have HTA := Aside0.mk hTa
     have HCA := Aside0.mk hCa
     clear hg hkk hTa hCa
     have hs0 : x.f0.size ≤ maxLen := by have := HXZ.out.1; unfold maxLen; omega
     have hs1 : x.f1.size ≤ maxLen := by have := HXZ.out.2.1; unfold maxLen; omega
     by_cases h49 : x.f2 = 49
     ·have e49 : (x.f2 == 49) = true := beq_iff_eq.2 h49
      have H49 := Aside0.mk h49
      clear h49
      cases ht1 : (kindsV f x.f1.data.toList) with
      | none =>
       have HV := Aside0.mk ht1
       clear ht1
       go_wp2_with (go_at_call 43; (with_reducible refine (member_Good.calls kk x.f0 x.f1 x.f2 x.f3.f0 x.f3.f1 x.f3.f2 x.f3.f3 A7 c7 x.f4 true _ (HTA.out _) (HCA.out _) hlen7 HK.out).mono ?_); rintro e w5 ⟨rfl, hb5⟩; obtain ⟨hc5, hf5⟩ := bcell hb5; have hM5 := (HM.out.alloc _).below hb5; have HB5 := Aside0.mk ((HB.out.alloc HB.out.size _).trans (hb5.mono (by simp; have := HB.out.size; omega))); have hl5 := hM5.look Tryd.underlying9 Tryd.underlying66 (zeroU8 _) hs1; rw [HV.out] at hl5; simp only [Option.getD_none] at hl5)
       rw [← hQ.out]
       refine ⟨?_, HB5.out⟩
       rw [sound_stop l n.toNat (by omega) HF.out (by rw [← HX.out]; unfold stepS; rw [if_pos (.inr (.inr ⟨H49.out, by rw [show lkI f x.f1.data.toList = none from by have := HV.out; unfold kindsV at this; cases hk : lkI f x.f1.data.toList with | none => rfl | some q => rw [hk] at this; cases this]; decide⟩))])]
       rfl
      | some v =>
       obtain ⟨q, rfl, hq⟩ : ∃ q, v = Value.int .u8 q ∧ lkI f x.f1.data.toList = some q := by
        unfold kindsV at ht1
        cases hk : lkI f x.f1.data.toList with
        | none => rw [hk] at ht1; cases ht1
        | some q => rw [hk] at ht1; cases ht1; exact ⟨q, rfl, rfl⟩
       have HV := Aside0.mk ht1
       have HVL := Aside0.mk hq
       clear ht1 hq
       by_cases hq48 : q = 48
       ·subst hq48
        go_wp2_with (first | (go_at_call 43; (with_reducible refine (member_Good.calls kk x.f0 x.f1 x.f2 x.f3.f0 x.f3.f1 x.f3.f2 x.f3.f3 A7 c7 x.f4 true _ (HTA.out _) (HCA.out _) hlen7 HK.out).mono ?_); rintro e w5 ⟨rfl, hb5⟩; obtain ⟨hc5, hf5⟩ := bcell hb5; have hM5 := (HM.out.alloc _).below hb5; have HB5 := Aside0.mk ((HB.out.alloc HB.out.size _).trans (hb5.mono (by simp; have := HB.out.size; omega))); have hl5 := hM5.look Tryd.underlying9 Tryd.underlying66 (zeroU8 _) hs1; rw [HV.out] at hl5; simp only [Option.getD_some] at hl5) | (at_mapUpdate; refine MapS.wpput hM5 rfl _ _ _ rfl Tryd.underlying9 Tryd.underlying66 (by unfold maxLen; omega) rfl rfl hs0 rfl ?_; intro w6 hM6 hturn6))
        have HB6 := HB5.out.grown hturn6.grown HB5.out.size (fun j hj => by cases hj; exact Nat.le_refl _)
        have hfin : SoundRel l W (n + 1) w6 := by
         refine ⟨by omega, by omega, ⟨(x.f0.data.toList, x.f2) :: f, ?_, ?_⟩, HB6⟩
         ·rw [show (n + 1).toNat = n.toNat + 1 from by omega, sound_take l n.toNat (by omega) HF.out, ← HX.out]
          unfold stepS
          rw [if_neg (by rintro (h | h | h); rw [HN.out] at h; cases h; rw [HG.out] at h; cases h; rw [HVL.out] at h; exact h.2 rfl)]
         ·rw [show (n + 1).toNat = n.toNat + 1 from by omega]
          exact hM6.ext (fun s => kindsV_put f _ _ s)
        clear hM6 hM5 hc5 hf5 hturn6 hl5
        go_roundw
        case rel => exact ⟨n + 1, by go_num, ⟨hfin⟩⟩
        case measure => simp [intOf]; omega
       ·have q48 : (q != 48) = true := by rw [bne_iff_ne]; exact hq48
        have q48b : (q == 48) = false := beq_eq_false_iff_ne.2 hq48
        have HQ := Aside0.mk hq48
        clear hq48
        go_wp2_with (go_at_call 43; (with_reducible refine (member_Good.calls kk x.f0 x.f1 x.f2 x.f3.f0 x.f3.f1 x.f3.f2 x.f3.f3 A7 c7 x.f4 true _ (HTA.out _) (HCA.out _) hlen7 HK.out).mono ?_); rintro e w5 ⟨rfl, hb5⟩; obtain ⟨hc5, hf5⟩ := bcell hb5; have hM5 := (HM.out.alloc _).below hb5; have HB5 := Aside0.mk ((HB.out.alloc HB.out.size _).trans (hb5.mono (by simp; have := HB.out.size; omega))); have hl5 := hM5.look Tryd.underlying9 Tryd.underlying66 (zeroU8 _) hs1; rw [HV.out] at hl5; simp only [Option.getD_some] at hl5)
        rw [← hQ.out]
        refine ⟨?_, HB5.out⟩
        rw [sound_stop l n.toNat (by omega) HF.out (by rw [← HX.out]; unfold stepS; rw [if_pos (.inr (.inr ⟨H49.out, by rw [HVL.out]; exact HQ.out⟩))])]
        rfl
     ·have e49 : (x.f2 == 49) = false := beq_eq_false_iff_ne.2 h49
      have H49 := Aside0.mk h49
      clear h49
      go_wp2_with (first | (go_at_call 43; (with_reducible refine (member_Good.calls kk x.f0 x.f1 x.f2 x.f3.f0 x.f3.f1 x.f3.f2 x.f3.f3 A7 c7 x.f4 true _ (HTA.out _) (HCA.out _) hlen7 HK.out).mono ?_); rintro e w5 ⟨rfl, hb5⟩; obtain ⟨hc5, hf5⟩ := bcell hb5; have hM5 := (HM.out.alloc _).below hb5; have HB5 := Aside0.mk ((HB.out.alloc HB.out.size _).trans (hb5.mono (by simp; have := HB.out.size; omega)))) | (at_mapUpdate; refine MapS.wpput hM5 rfl _ _ _ rfl Tryd.underlying9 Tryd.underlying66 (by unfold maxLen; omega) rfl rfl hs0 rfl ?_; intro w6 hM6 hturn6))
      have HB6 := HB5.out.grown hturn6.grown HB5.out.size (fun j hj => by cases hj; exact Nat.le_refl _)
      have hfin : SoundRel l W (n + 1) w6 := by
       refine ⟨by omega, by omega, ⟨(x.f0.data.toList, x.f2) :: f, ?_, ?_⟩, HB6⟩
       ·rw [show (n + 1).toNat = n.toNat + 1 from by omega, sound_take l n.toNat (by omega) HF.out, ← HX.out]
        unfold stepS
        rw [if_neg (by rintro (h | h | h); rw [HN.out] at h; cases h; rw [HG.out] at h; cases h; exact H49.out h.1)]
       ·rw [show (n + 1).toNat = n.toNat + 1 from by omega]
        exact hM6.ext (fun s => kindsV_put f _ _ s)
      clear hM6 hM5 hc5 hf5 hturn6
      go_roundw
      case rel => exact ⟨n + 1, by go_num, ⟨hfin⟩⟩
      case measure => simp [intOf]; omega
  ·have c1b : decide (n < (l.length : Int)) = false := decide_eq_false hlt
   clear hM hB
   go_wp2
   rw [← hQ.out]
   refine ⟨?_, HB.out⟩
   rw [sound_end l (f := f) (by rw [show l.length = n.toNat from by omega]; exact HF.out)]
end Go.Proofs.YtfljbidecljlcaaDoor

namespace Go.Proofs.YtfljbidecljlcaaDoor
open Go.RowKit Go.Maps Go.Proofs.YtfljbidecljlcaaDoor.Print Go.Proofs.YtfljbidecljlcaaDoorW.PrintWords Go.Proofs.YtfljbidecljlcaaDoorW.PrintLast Go.Proofs.YtfljbidecljlcaaDoorW.PrintMore
set_option linter.unusedVariables false
set_option linter.unusedSimpArgs false
set_option maxRecDepth 100000 in
set_option maxHeartbeats 1000000 in
theorem Clone_calls (A : Option Addr) (c : Nat) (xs : List Int) (W : World) (hC : Kd.C (Kd.int .u8) W A xs.length xs) (hl : xs.length ≤ 140737488351232) :
  Calls Tryd.prog 59 #[.slice A xs.length c] W fun e W' => ∃ v, e = .returned v ∧ Kd.R (Kd.int .u8) 5 W' W.heap.size (fun _ => True) v xs ∧ Below W.heap.size W W' := by
 rcases A with _ | ad
 ·have h0 : xs = [] := by
   rcases Nat.eq_zero_or_pos xs.length with h | h
   ·exact List.eq_nil_of_length_eq_zero h
   ·obtain ⟨ad, h1, _⟩ := hC.2.2 h
    cases h1
  subst h0
  have hcmp := fun (w : World) => Lib.run_eql_slice_nil (P := Tryd.prog) w 23 5 none 0 c 0 0 Tryd.underlying23
  go_enter Tryd.func59, Tryd.ntmps59
  go_wp2
  go_ret
  exact ⟨_, rfl, Kd.R_nil _ _ _ _ _, Below.refl _ _⟩
 ·have hcmp := fun (w : World) => Lib.run_eql_slice_nil (P := Tryd.prog) w 23 5 (some ad) xs.length c 0 0 Tryd.underlying23
  have hown := own_lit W W.heap.size 5 .u8 [] (Nat.le_refl _) (by decide)
  have HC := Aside0.mk hC
  have HO := Aside0.mk hown
  clear hC hown
  go_enter Tryd.func59, Tryd.ntmps59
  go_wp2_with (at_builtin; refine Kd.R_append_row (Value.int .u8) (0 : Int) (h1 := fun _ => rfl) (w0 := W) W.heap.size rfl _ _ 23 5 (.int .u8 0) 1 rfl Tryd.underlying23 info5 rfl (by decide) (.slice (some ⟨W.heap.size, 0, none⟩) 0 0) [] xs (some ad) xs.length c (fun _ => True) rfl rfl (fun _ _ => trivial) (Kd.R_of_own (enc := Value.int .u8) (h1 := fun _ => rfl) HO.out (fun _ _ => trivial)) (Kd.C_alloc HC.out _) ((Below.refl _ _).alloc (Nat.le_refl _) _) (by simp) (by simp; omega) ?_; intro v1 w1 hr1 hb1 hg1 hat1)
  go_ret
  exact ⟨_, rfl, hr1, hb1⟩
end Go.Proofs.YtfljbidecljlcaaDoor

namespace Go.Proofs.YtfljbidecljlcaaDoor
open Go.RowKit Go.Maps Go.Proofs.YtfljbidecljlcaaDoor.Print Go.Proofs.YtfljbidecljlcaaDoorW.PrintWords Go.Proofs.YtfljbidecljlcaaDoorW.PrintLast Go.Proofs.YtfljbidecljlcaaDoorW.PrintMore
set_option linter.unusedVariables false
set_option linter.unusedSimpArgs false
theorem Find1_calls (x : Node) (A : Option Addr) (n c : Nat) (p : ByteArray) (W : World) :
  Calls Tryd.prog 57 #[.agg #[.string x.f0, .string x.f1, .string x.f2, .int .u8 x.f3, .int .i64 x.f4.f0, .int .i64 x.f4.f1, .int .i64 x.f4.f2, .int .i64 x.f4.f3, .slice A n c], .string p] W fun e W' =>
   e = .returned (.int .i64 (Lib.compareBytes x.f0.data.toList p.data.toList)) ∧ Below W.heap.size W W' := by
 go_enter Tryd.func57, Tryd.ntmps57
 go_wp2_with (go_at_call 58; refine (Tryd.strings_Compare _ _ _).mono ?_; rintro e w' ⟨rfl, rfl⟩)
 go_ret
 exact ⟨rfl, (Below.refl _ _).alloc (Nat.le_refl _) _⟩
theorem rdN_at (l : List Node) (i : Int) (h0 : 0 ≤ i) (h1 : i < l.length) : rd_T40 l i = l[i.toNat]'(by omega) := by
 unfold rd_T40
 rw [List.getD_eq_getElem?_getD, List.getElem?_eq_getElem (by omega)]
 rfl
def FoundAt (l : List Node) (p : ByteArray) (n : Int) (b : Bool) : Prop :=
 0 ≤ n ∧ n ≤ l.length ∧ (b = true ↔ ∃ h : n.toNat < l.length, l[n.toNat].f0.toList = p.toList) ∧ (b = false → ∀ (i : Nat) (hi : i < l.length), l[i].f0.toList ≠ p.toList)
def SearchRel (l : List Node) (p : ByteArray) (W : World) (i j : Int) (wr : World) : Prop :=
 0 ≤ i ∧ i ≤ j ∧ j ≤ l.length ∧ (∀ (t : Nat) (ht : t < l.length), (t : Int) < i → lt l[t].f0 p = true) ∧ (∀ (t : Nat) (ht : t < l.length), j ≤ (t : Int) → lt l[t].f0 p = false) ∧ Below W.heap.size W wr
set_option maxRecDepth 100000 in
set_option maxHeartbeats 2000000 in
theorem Search_calls (A0 : Option Addr) (c0 : Nat) (l : List Node) (p : ByteArray) (W : World) (hC : Kd.C k40 W A0 l.length l) (hr : riseB l = true) (hz : NodesZ l) :
  Calls Tryd.prog 56 #[.slice A0 l.length c0, .string p, .func (.func 57) #[] #[]] W fun e W' => ∃ n b, e = .returned (.tuple #[.int .i64 n, .bool b]) ∧ FoundAt l p n b ∧ Below W.heap.size W W' := by
 have HC := Aside0.mk hC
 have HZ := Aside0.mk hz
 have HRI := Aside0.mk hr
 have hlen : (l.length : Int) ≤ 1000000000000 := by have := hz.1; omega
 clear hC hr hz
 generalize hpost : (fun (e : Ending) (W' : World) => ∃ n b, e = .returned (.tuple #[.int .i64 n, .bool b]) ∧ FoundAt l p n b ∧ Below W.heap.size W W') = Q
 have hQ := Aside0.mk hpost
 clear hpost
 go_enter Tryd.func56, Tryd.ntmps56
 go_wp2
 go_loopw [9, 10] (fun i j wr => ∃ n m : Int, i = .int .i64 n ∧ j = .int .i64 m ∧ Aside0 (SearchRel l p W n m wr)) (fun i j _ => (intOf j - intOf i).toNat)
 case atStart => exact ⟨0, _, rfl, rfl, ⟨⟨by omega, by omega, by omega, fun t ht h => by omega, fun t ht h => by omega, Below.refl _ _⟩⟩⟩
 case round =>
  obtain ⟨n, m, rfl, rfl, HR⟩ := hrel
  have h0 := HR.out.1
  have h1 := HR.out.2.1
  have h2 := HR.out.2.2.1
  have HB := Aside0.mk HR.out.2.2.2.2.2
  by_cases hlt : n < m
  ·have c1 : decide (n < m) = true := decide_eq_true hlt
   have hh0 : 0 ≤ (n + m) / 2 := by omega
   have hh1 : (n + m) / 2 < (l.length : Int) := by omega
   obtain ⟨ad, A7, c7, rfl, x0, x1, x2, x3, x4, x5, x6, x7, x8, hl7, hC7⟩ := at_T40 (Kd.C_below HC.out HB.out) ((n + m) / 2) hh0 hh1
   have hx := rdN_at l _ hh0 hh1
   generalize rd_T40 l ((n + m) / 2) = x at hx x0 x1 x2 x3 x4 x5 x6 x7 x8 hl7 hC7
   have HX := Aside0.mk hx
   clear hx hC7 hl7
   go_wp2_with (go_at_call 57; refine (Find1_calls x A7 x.f5.length c7 p _).mono ?_; rintro e w' ⟨rfl, hb⟩)
   ·have hn : Lib.compareBytes x.f0.data.toList p.data.toList < 0 := by assumption
    have hltx : lt x.f0 p = true := by rw [lt_data]; exact (cmp_neg _ _).1 hn
    have hfin : SearchRel l p W ((n + m) / 2 + 1) m w' := by
     refine ⟨by omega, by omega, h2, fun t ht h => ?_, HR.out.2.2.2.2.1, HB.out.trans (hb.mono HB.out.size)⟩
     rcases Nat.lt_or_ge t ((n + m) / 2).toNat with h3 | h3
     ·have := riseB_at HRI.out t ((n + m) / 2).toNat ht (by omega) h3
      rw [← HX.out] at this
      exact lt_trans this hltx
     ·have e : t = ((n + m) / 2).toNat := by omega
      subst e
      rw [← HX.out]; exact hltx
    clear hltx hn hb
    go_roundw
    case rel => exact ⟨_, _, rfl, rfl, ⟨hfin⟩⟩
    case measure => simp [intOf]; omega
   ·have hn : 0 ≤ Lib.compareBytes x.f0.data.toList p.data.toList := by assumption
    have hltx : lt x.f0 p = false := by
     rw [lt_data, Bool.eq_false_iff]
     intro h
     have := (cmp_neg _ _).2 h
     omega
    have hfin : SearchRel l p W n ((n + m) / 2) w' := by
     refine ⟨h0, by omega, by omega, HR.out.2.2.2.1, fun t ht h => ?_, HB.out.trans (hb.mono HB.out.size)⟩
     rcases Nat.lt_or_ge ((n + m) / 2).toNat t with h3 | h3
     ·have := riseB_at HRI.out ((n + m) / 2).toNat t (by omega) ht h3
      rw [← HX.out] at this
      cases h4 : lt l[t].f0 p with
      | false => rfl
      | true =>
       have := lt_trans this h4
       rw [hltx] at this
       cases this
     ·have e : t = ((n + m) / 2).toNat := by omega
      subst e
      rw [← HX.out]; exact hltx
    clear hltx hn hb
    go_roundw
    case rel => exact ⟨_, _, rfl, rfl, ⟨hfin⟩⟩
    case measure => simp [intOf]; omega
  ·have c1 : decide (n < m) = false := decide_eq_false hlt
   obtain rfl : n = m := by omega
   by_cases hnl : n < (l.length : Int)
   ·have c2 : decide (n < (l.length : Int)) = true := decide_eq_true hnl
    obtain ⟨ad, A7, c7, rfl, x0, x1, x2, x3, x4, x5, x6, x7, x8, hl7, hC7⟩ := at_T40 (Kd.C_below HC.out HB.out) n h0 hnl
    have hx := rdN_at l _ h0 hnl
    generalize rd_T40 l n = x at hx x0 x1 x2 x3 x4 x5 x6 x7 x8 hl7 hC7
    have HX := Aside0.mk hx
    clear hx hC7 hl7
    go_wp2_with (go_at_call 57; refine (Find1_calls x A7 x.f5.length c7 p _).mono ?_; rintro e w' ⟨rfl, hb⟩)
    rw [← hQ.out]
    refine ⟨n, _, rfl, ⟨h0, h2, ?_, ?_⟩, HB.out.trans (hb.mono HB.out.size)⟩
    ·rw [beq_iff_eq, cmp_zero, ← Lib.toList_data, ← Lib.toList_data]
     constructor
     ·intro h; exact ⟨by omega, by rw [← HX.out]; exact h⟩
     ·rintro ⟨_, h⟩; rw [← HX.out] at h; exact h
    ·intro h i hi he
     rw [beq_eq_false_iff_ne, ne_eq, cmp_zero, ← Lib.toList_data, ← Lib.toList_data] at h
     rcases Nat.lt_trichotomy i n.toNat with h3 | h3 | h3
     ·exact lt_ne (HR.out.2.2.2.1 i hi (by omega)) he
     ·subst h3; rw [← HX.out] at he; exact h he
     ·have h4 := riseB_at HRI.out n.toNat i (by omega) hi h3
      have h5 := HR.out.2.2.2.2.1 n.toNat (by omega) (by omega)
      have h6 : lt l[n.toNat].f0 p = lt l[n.toNat].f0 l[i].f0 := by unfold lt; rw [he]
      rw [h6, h4] at h5
      cases h5
   ·have c2 : decide (n < (l.length : Int)) = false := decide_eq_false hnl
    go_wp2
    rw [← hQ.out]
    refine ⟨n, false, rfl, ⟨h0, h2, ⟨fun h => (by cases h), fun ⟨h, _⟩ => absurd h (by omega)⟩, fun _ i hi he => ?_⟩, HB.out⟩
    exact lt_ne (HR.out.2.2.2.1 i hi (by omega)) he
theorem below_put {B : Nat} {a w : World} (h : Below B a w) (g j : Nat) (hg : B ≤ g) (u : Value) : Below B a (w.setCell ⟨g, j, none⟩ u) := h.setCell (p := ⟨g, j, none⟩) hg u
theorem row_put {α : Type} {d : Kd α} {e base B : Nat} {w : World} {v : Value} {xs : List α} (h : d.R e w base (fun k => B ≤ k) v xs) (g j : Nat) (hg : g < B) (u : Value) : d.R e (w.setCell ⟨g, j, none⟩ u) base (fun k => B ≤ k) v xs :=
 Kd.R_far h (p := ⟨g, j, none⟩) (fun k hk e => by have : k = g := e; omega) u
def nodeCells (x : Node) (v : Value) : Array Value := #[.string x.f0, .string x.f1, .string x.f2, .int .u8 x.f3, .int .i64 x.f4.f0, .int .i64 x.f4.f1, .int .i64 x.f4.f2, .int .i64 x.f4.f3, v]
set_option maxRecDepth 100000 in
set_option maxHeartbeats 2000000 in
theorem Find_calls (A0 : Option Addr) (c0 : Nat) (l : List Node) (p : ByteArray) (W : World) (hC : Kd.C k40 W A0 l.length l) (hr : riseB l = true) (hz : NodesZ l) :
  Calls Tryd.prog 36 #[.slice A0 l.length c0, .string p] W fun e W' => ∃ x b v, (match findF l p with | some y => x = y ∧ b = true | none => x = z40 ∧ b = false) ∧ e = .returned (.tuple #[.agg (nodeCells x v), .bool b]) ∧ Kd.R (Kd.int .u8) 5 W' W.heap.size (fun _ => True) v x.f5 ∧ Below W.heap.size W W' := by
 have cS := fun W2 (h : Kd.C k40 W2 A0 l.length l) => Search_calls A0 c0 l p W2 h hr hz
 have HC := Aside0.mk hC
 have HZ := Aside0.mk hz
 have HS := Aside0.mk cS
 have HRI := Aside0.mk hr
 have hlen : (l.length : Int) ≤ 1000000000000 := by have := hz.1; omega
 clear hC hz cS hr
 generalize hpost : (fun (e : Ending) (W' : World) => ∃ x b v, (match findF l p with | some y => x = y ∧ b = true | none => x = z40 ∧ b = false) ∧ e = .returned (.tuple #[.agg (nodeCells x v), .bool b]) ∧ Kd.R (Kd.int .u8) 5 W' W.heap.size (fun _ => True) v x.f5 ∧ Below W.heap.size W W') = Q
 have hQ := Aside0.mk hpost
 clear hpost
 go_enter Tryd.func36, Tryd.ntmps36
 go_wp2_with (first
  | (go_at_call 56; refine (HS.out _ (Kd.C_alloc HC.out _)).mono ?_; rintro e w1 ⟨n, b, rfl, hF, hb1⟩; have HF := Aside0.mk hF; clear hF; obtain ⟨hc1, hf1⟩ := bcell hb1; have hz1 : W.heap.size < w1.heap.size := Nat.lt_of_lt_of_le (by simp) hb1.size; have HB1 := Aside0.mk hb1; clear hb1; cases b; all_goals (first | (obtain ⟨hnl, he⟩ := HF.out.2.2.1.1 rfl; have h0 := HF.out.1; have h1 : n < (l.length : Int) := (by omega); have HE := Aside0.mk he; clear he; obtain ⟨ad, A7, c7, rfl, x0, x1, x2, x3, x4, x5, x6, x7, x8, hl7, hC7⟩ := at_T40 (Kd.C_below HC.out (((Below.refl _ _).alloc (Nat.le_refl _) _).trans (HB1.out.mono (by simp)))) n h0 h1; have hx := rdN_at l _ h0 h1; generalize rd_T40 l n = x at hx x0 x1 x2 x3 x4 x5 x6 x7 x8 hl7 hC7; have HX := Aside0.mk hx; have HC7 := Aside0.mk hC7; clear hx hC7) | skip))
  | (go_at_call 59; refine (Clone_calls A7 c7 x.f5 _ (Kd.C_alloc HC7.out _) (by rw [HX.out]; exact (HZ.out.2 _ (List.getElem_mem _)).2.2.2)).mono ?_; rintro e w2 ⟨v, rfl, hR2, hb2⟩; obtain ⟨Av, cv, rfl, hlv, hCv⟩ := Kd.R_reads hR2; clear hlv hCv; obtain ⟨hc2, hf2⟩ := bcell hb2; have HR2 := Aside0.mk hR2; have HB2 := Aside0.mk hb2; clear hR2 hb2))
 ·have hB1 := ((Below.refl W.heap.size W).alloc (Nat.le_refl _) _).trans (HB1.out.mono (by simp))
  refine bodyPost_ret (v := .tuple #[.agg (nodeCells z40 (.slice none 0 0)), .bool false]) (by simp [results, Tryd.results36, go_sem, hc1, hz1, nodeCells, z40, z38]) rfl ?_
  have hfn := findF_none p (HF.out.2.2.2 rfl)
  rw [← hQ.out]
  refine ⟨z40, false, .slice none 0 0, by rw [hfn]; exact ⟨rfl, rfl⟩, rfl, Kd.R_nil _ _ _ _ _, ?_⟩
  repeat (with_reducible refine below_put ?_ _ _ (Nat.le_refl _) _)
  exact hB1
 ·have hB1 := ((Below.refl W.heap.size W).alloc (Nat.le_refl _) _).trans (HB1.out.mono (by simp))
  have hB2 := (hB1.alloc (by have := hB1.size; omega) _).trans (HB2.out.mono (by have := hB1.size; simp; omega))
  have hw2 := fun j => (hc2 W.heap.size j (by simp; omega)).trans ((((Below.refl w1.heap.size w1).alloc (Nat.le_refl _) _).cell (p := ⟨W.heap.size, j, none⟩) hz1).trans (hc1 W.heap.size j (by simp)))
  have hne1 : ¬ w1.heap.size = W.heap.size := by omega
  have hne2 : ¬ W.heap.size = w1.heap.size := by omega
  clear hc1 hf1 hc2 hf2
  refine bodyPost_ret (v := .tuple #[.agg (nodeCells x (.slice Av x.f5.length cv)), .bool true]) (by simp [results, Tryd.results36, go_sem, hw2, hne1, hne2, nodeCells]) rfl ?_
  have hfn := findF_at HRI.out p n.toNat hnl HE.out
  rw [← hQ.out]
  refine ⟨x, true, .slice Av x.f5.length cv, by rw [hfn, ← HX.out]; exact ⟨rfl, rfl⟩, rfl, ?_, ?_⟩
  ·have hR : (Kd.int .u8).R 5 w2 (w1.heap.size + 1) (fun k => w1.heap.size + 1 ≤ k) (.slice Av x.f5.length cv) x.f5 := Kd.R_mono (Kd.R_bound (by have := HR2.out; simpa using this)) (fun k hk => hk.2.1)
   refine Kd.R_lower (base := w1.heap.size + 1) (Kd.R_mono (ok := fun k => w1.heap.size + 1 ≤ k) ?_ (fun _ _ => trivial)) (by omega)
   repeat (with_reducible refine row_put ?_ _ _ (by omega) _)
   exact hR
  ·repeat (with_reducible refine below_put ?_ _ _ (by omega) _)
   exact hB2
end Go.Proofs.YtfljbidecljlcaaDoor

namespace Go.Proofs.YtfljbidecljlcaaDoor.Print
open Go.RowKit Go.Proofs.YtfljbidecljlcaaDoorW.PrintWords Go.Proofs.YtfljbidecljlcaaDoorW.PrintLast Go.Proofs.YtfljbidecljlcaaDoorW.PrintMore
attribute [local go_sem] max2_int min2_int max_two min_two max_three min_three max_four min_four   -- for this text's walks alone
set_option linter.unusedVariables false
set_option linter.unusedSimpArgs false
def bindleref08_Find.l0 : Nat → List (S40) → ByteArray → Int → Option (ByteArray × ByteArray × ByteArray × Int × Int × Int × Int × Int × List Int × Bool)
 | 0, _, _, _ => none
 | k + 1, x0, x1, x6 => if x6 < (x0.length : Int) then (if 0 ≤ x6 then (if ((rd_T40 x0 x6).f0).toList = x1.toList then (some ((rd_T40 x0 x6).f0, (rd_T40 x0 x6).f1, (rd_T40 x0 x6).f2, (rd_T40 x0 x6).f3, (rd_T40 x0 x6).f4.f0, (rd_T40 x0 x6).f4.f1, (rd_T40 x0 x6).f4.f2, (rd_T40 x0 x6).f4.f3, (rd_T40 x0 x6).f5, true)) else (bindleref08_Find.l0 k x0 x1 (wrap64 (x6 + 1)))) else (none)) else (some ((⟨#[]⟩ : ByteArray), (⟨#[]⟩ : ByteArray), (⟨#[]⟩ : ByteArray), 0, 0, 0, 0, 0, ([] : List Int), false))
def bindleref08_Find.f (k : Nat) (l0 : List (S40)) (a1 : ByteArray) : Option (ByteArray × ByteArray × ByteArray × Int × Int × Int × Int × Int × List Int × Bool) := bindleref08_Find.l0 k l0 a1 0
set_option maxHeartbeats 8000000 in
set_option maxRecDepth 100000 in
theorem bindleref08_Find.calls (k : Nat) (P0_ : Nat → Prop) (A0 : Option Addr) (c0 : Nat) (l0 : List (S40)) (a1 : ByteArray) (r1 : ByteArray) (r2 : ByteArray) (r3 : ByteArray) (r4 : Int) (r5 : Int) (r6 : Int) (r7 : Int) (r8 : Int) (r9 : List Int) (r10 : Bool) (w : World) (hs0 : Kd.V k40 40 w w.heap.size (fun k_ => P0_ k_) (.slice A0 l0.length c0) l0) (h : bindleref08_Find.f k l0 a1 = some (r1, r2, r3, r4, r5, r6, r7, r8, r9, r10)) :
  Calls Tryd.prog 23 #[.slice A0 l0.length c0, .string a1] w fun e w' => ∃ v8_ : Value, e = .returned (.tuple #[.agg #[.string r1, .string r2, .string r3, .int .u8 r4, .int .i64 r5, .int .i64 r6, .int .i64 r7, .int .i64 r8, v8_], .bool r10]) ∧ Kd.V (Kd.int .u8) 5 w' w.heap.size (fun k_ => (P0_ k_ ∨ w.heap.size ≤ k_)) v8_ r9 ∧ Below w.heap.size w w' := by
 have hu40 := Tryd.underlying40
 have HO0 := A0_ (show Kd.V k40 40 w w.heap.size (fun k_ => (P0_ k_ ∨ w.heap.size ≤ k_)) (.slice A0 l0.length c0) l0 from Kd.V_mono hs0 (fun k_ hk => .inl hk))
 have HB := A0_ (Below.refl w.heap.size w)
 have H : (bindleref08_Find.l0 k l0 a1 0) = some (r1, r2, r3, r4, r5, r6, r7, r8, r9, r10) := h
 clear h
 have H' := A0_ H
 clear H
 go_enter Tryd.func23, Tryd.ntmps23
 go_wp2_with (first | ((with_reducible refine gate_dst (N := 4) rfl ?_); refine box_event ?hg (N := 4) ?hd (cs := #[.string (⟨#[]⟩ : ByteArray), .string (⟨#[]⟩ : ByteArray), .string (⟨#[]⟩ : ByteArray), .int .u8 0, .int .i64 0, .int .i64 0, .int .i64 0, .int .i64 0, .slice none 0 0]) (t := 40) ?hr ?_; (case hd => rfl); (case hg => rfl); (case hr => first | (go_simp; done) | (go_simp; rfl)); intro gb169 hg w3 hbox hb; have n0_ := A0_ (Vb_ (Kd.V_elderB (wV_ HO0.out) gb169 (Nat.le_of_eq hg.symm)) hb); have n1_ := A0_ (below_step (wb_ HB.out) hb); have n2_ := A0_ (hbox); have n3_ := A0_ ((by rw [hg]; exact (below_size (wb_ HB.out)) : w.heap.size ≤ gb169)); have n4_ := A0_ ((by rw [hg]; exact (below_size (wb_ HB.out)) : w.heap.size ≤ gb169)); clear HO0; clear HB; have HO0 := n0_; have HB := n1_; have BK169 := n2_; have GW169 := n3_; have GE169 := n4_; clear n0_ n1_ n2_ n3_ n4_; clear hb hbox hg))
 go_loopg [6] k (fun kq v6 w' => ∃ (x6_1 : Int) (x170000_1 : ByteArray) (x170001_1 : ByteArray) (x170002_1 : ByteArray) (x170003_1 : Int) (x170004_1 : Int) (x170005_1 : Int) (x170006_1 : Int) (x170007_1 : Int), v6 = .int .i64 x6_1 ∧ Aside0 (bindleref08_Find.l0 kq l0 a1 x6_1 = some (r1, r2, r3, r4, r5, r6, r7, r8, r9, r10)) ∧ Aside0 (kq ≤ k) ∧ Aside0 (Kd.V k40 40 w' w.heap.size (fun k_ => (P0_ k_ ∨ w.heap.size ≤ k_) ∧ k_ ≠ gb169) (.slice A0 l0.length c0) l0) ∧ Aside0 (w'.heap[gb169]? = some (.cells #[.string x170000_1, .string x170001_1, .string x170002_1, .int .u8 x170003_1, .int .i64 x170004_1, .int .i64 x170005_1, .int .i64 x170006_1, .int .i64 x170007_1, (.slice none 0 0)] 40 (0, 0))) ∧ Aside0 (Below w.heap.size w w'))
 case atStart => exact ⟨(0), ((⟨#[]⟩ : ByteArray)), ((⟨#[]⟩ : ByteArray)), ((⟨#[]⟩ : ByteArray)), (0), (0), (0), (0), (0), wr_, H', ⟨Nat.le_refl _⟩, ⟨wV_ HO0.out⟩, ⟨wB_ BK169.out⟩, ⟨wb1_ HB.out GE169.out⟩⟩
 case round =>
  clear H'
  try clear c2
  try clear p2
  obtain ⟨x6_1, x170000_1, x170001_1, x170002_1, x170003_1, x170004_1, x170005_1, x170006_1, x170007_1, rfl, HA, HK1, HO_0, BK169, HB⟩ := hrel
  cases gk with
  | zero => exact absurd HA.out (by simp [bindleref08_Find.l0])
  | succ k1 =>
   have H := HA.out
   clear HA
   simp only [bindleref08_Find.l0] at H
   by_cases c4 : x6_1 < (l0.length : Int)
   rotate_left
   ·rw [if_neg c4] at H
    have c4b0 : decide (x6_1 < (l0.length : Int)) = false := decide_eq_false c4
    clear c4
    simp only [Option.some.injEq, Prod.mk.injEq] at H
    obtain ⟨rfl, rfl, rfl, rfl, rfl, rfl, rfl, rfl, rfl, rfl⟩ := H
    have hcz8_0 : wr.cell? ⟨gb169, 0, none⟩ = some (.string x170000_1) := (bc_ BK169.out 0).trans rfl
    have hcz8_1 : wr.cell? ⟨gb169, 1, none⟩ = some (.string x170001_1) := (bc_ BK169.out 1).trans rfl
    have hcz8_2 : wr.cell? ⟨gb169, 2, none⟩ = some (.string x170002_1) := (bc_ BK169.out 2).trans rfl
    have hcz8_3 : wr.cell? ⟨gb169, 3, none⟩ = some (.int .u8 x170003_1) := (bc_ BK169.out 3).trans rfl
    have hcz8_4 : wr.cell? ⟨gb169, 4, none⟩ = some (.int .i64 x170004_1) := (bc_ BK169.out 4).trans rfl
    have hcz8_5 : wr.cell? ⟨gb169, 5, none⟩ = some (.int .i64 x170005_1) := (bc_ BK169.out 5).trans rfl
    have hcz8_6 : wr.cell? ⟨gb169, 6, none⟩ = some (.int .i64 x170006_1) := (bc_ BK169.out 6).trans rfl
    have hcz8_7 : wr.cell? ⟨gb169, 7, none⟩ = some (.int .i64 x170007_1) := (bc_ BK169.out 7).trans rfl
    have hcz8_8 : wr.cell? ⟨gb169, 8, none⟩ = some (.slice none 0 0) := (bc_ BK169.out 8).trans rfl
    have hfz8_0 := bf_ BK169.out 0
    have hfz8_1 := bf_ BK169.out 1
    have hfz8_2 := bf_ BK169.out 2
    have hfz8_3 := bf_ BK169.out 3
    have hfz8_4 := bf_ BK169.out 4
    have hfz8_5 := bf_ BK169.out 5
    have hfz8_6 := bf_ BK169.out 6
    have hfz8_7 := bf_ BK169.out 7
    have hfz8_8 := bf_ BK169.out 8
    go_wp2
    refine bodyPost_ret (results_ct rfl _ _ gb169 40 #[.string (⟨#[]⟩ : ByteArray), .string (⟨#[]⟩ : ByteArray), .string (⟨#[]⟩ : ByteArray), .int .u8 0, .int .i64 0, .int .i64 0, .int .i64 0, .int .i64 0, .slice none 0 0] (0, 0) _ rfl (by (with_reducible repeat (first | refine blk_drewN ?_ _ | refine blk_drew ?_ | refine blk_alloc ?_ _)); refine blk_put (cs := #[.string (⟨#[]⟩ : ByteArray), .string (⟨#[]⟩ : ByteArray), .string (⟨#[]⟩ : ByteArray), .int .u8 0, .int .i64 0, .int .i64 0, .int .i64 0, .int .i64 0, .slice none 0 0]) ?_ 8 _ rfl; (with_reducible repeat (first | refine blk_drewN ?_ _ | refine blk_drew ?_ | refine blk_alloc ?_ _)); refine blk_put (cs := #[.string (⟨#[]⟩ : ByteArray), .string (⟨#[]⟩ : ByteArray), .string (⟨#[]⟩ : ByteArray), .int .u8 0, .int .i64 0, .int .i64 0, .int .i64 0, .int .i64 x170007_1, .slice none 0 0]) ?_ 7 _ rfl; (with_reducible repeat (first | refine blk_drewN ?_ _ | refine blk_drew ?_ | refine blk_alloc ?_ _)); refine blk_put (cs := #[.string (⟨#[]⟩ : ByteArray), .string (⟨#[]⟩ : ByteArray), .string (⟨#[]⟩ : ByteArray), .int .u8 0, .int .i64 0, .int .i64 0, .int .i64 x170006_1, .int .i64 x170007_1, .slice none 0 0]) ?_ 6 _ rfl; (with_reducible repeat (first | refine blk_drewN ?_ _ | refine blk_drew ?_ | refine blk_alloc ?_ _)); refine blk_put (cs := #[.string (⟨#[]⟩ : ByteArray), .string (⟨#[]⟩ : ByteArray), .string (⟨#[]⟩ : ByteArray), .int .u8 0, .int .i64 0, .int .i64 x170005_1, .int .i64 x170006_1, .int .i64 x170007_1, .slice none 0 0]) ?_ 5 _ rfl; (with_reducible repeat (first | refine blk_drewN ?_ _ | refine blk_drew ?_ | refine blk_alloc ?_ _)); refine blk_put (cs := #[.string (⟨#[]⟩ : ByteArray), .string (⟨#[]⟩ : ByteArray), .string (⟨#[]⟩ : ByteArray), .int .u8 0, .int .i64 x170004_1, .int .i64 x170005_1, .int .i64 x170006_1, .int .i64 x170007_1, .slice none 0 0]) ?_ 4 _ rfl; (with_reducible repeat (first | refine blk_drewN ?_ _ | refine blk_drew ?_ | refine blk_alloc ?_ _)); refine blk_put (cs := #[.string (⟨#[]⟩ : ByteArray), .string (⟨#[]⟩ : ByteArray), .string (⟨#[]⟩ : ByteArray), .int .u8 x170003_1, .int .i64 x170004_1, .int .i64 x170005_1, .int .i64 x170006_1, .int .i64 x170007_1, .slice none 0 0]) ?_ 3 _ rfl; (with_reducible repeat (first | refine blk_drewN ?_ _ | refine blk_drew ?_ | refine blk_alloc ?_ _)); refine blk_put (cs := #[.string (⟨#[]⟩ : ByteArray), .string (⟨#[]⟩ : ByteArray), .string x170002_1, .int .u8 x170003_1, .int .i64 x170004_1, .int .i64 x170005_1, .int .i64 x170006_1, .int .i64 x170007_1, .slice none 0 0]) ?_ 2 _ rfl; (with_reducible repeat (first | refine blk_drewN ?_ _ | refine blk_drew ?_ | refine blk_alloc ?_ _)); refine blk_put (cs := #[.string (⟨#[]⟩ : ByteArray), .string x170001_1, .string x170002_1, .int .u8 x170003_1, .int .i64 x170004_1, .int .i64 x170005_1, .int .i64 x170006_1, .int .i64 x170007_1, .slice none 0 0]) ?_ 1 _ rfl; (with_reducible repeat (first | refine blk_drewN ?_ _ | refine blk_drew ?_ | refine blk_alloc ?_ _)); refine blk_put (cs := #[.string x170000_1, .string x170001_1, .string x170002_1, .int .u8 x170003_1, .int .i64 x170004_1, .int .i64 x170005_1, .int .i64 x170006_1, .int .i64 x170007_1, .slice none 0 0]) ?_ 0 _ rfl; (with_reducible repeat (first | refine blk_drewN ?_ _ | refine blk_drew ?_ | refine blk_alloc ?_ _)); exact BK169.out) Tryd.underlying40 rfl (by kernel_rfl)) rfl ?_
    exact ⟨_, we_, (Kd.V_nil _ _ _ _ _), wb1_ HB.out GE169.out⟩
   rw [if_pos c4] at H
   have c4b0 : decide (x6_1 < (l0.length : Int)) = true := decide_eq_true c4
   clear c4
   by_cases c5 : 0 ≤ x6_1
   rotate_left
   ·rw [if_neg c5] at H
    exact absurd H (by simp)
   rw [if_pos c5] at H
   have c5b0 : decide (0 ≤ x6_1) = true := decide_eq_true c5
   clear c5
   by_cases c6 : ((rd_T40 l0 x6_1).f0).toList = a1.toList
   rotate_left
   ·rw [if_neg c6] at H
    have c6b0 : (((rd_T40 l0 x6_1).f0).toList == a1.toList) = false := beq_eq_false_iff_ne.mpr c6
    have c6b1 : (((rd_T40 l0 x6_1).f0).toList != a1.toList) = true := bne_iff_ne.mpr c6
    have H' := A0_ H
    clear H
    have p170 : 0 ≤ (x6_1 : Int) := wd_
    have q170 : x6_1 < (l0.length : Int) := wd_
    obtain ⟨ad170, A170_8, c170_8, e170, hx170_0, hx170_1, hx170_2, hx170_3, hx170_4, hx170_5, hx170_6, hx170_7, hx170_8, hl170_8, hi170_8⟩ := at_T40 (Kd.V_reads' HO_0.out).2.2 x6_1 p170 q170
    cases e170
    obtain ⟨ce170, hce170, hMe170, hcc170⟩ := Kd.V_get HO_0.out z40 x6_1 p170 (by first | exact q170 | exact wd_ | (have e_ := (Kd.V_reads' HO_0.out).1; omega))
    obtain ⟨ua170_8, uc170_8, rfl, ul170_8, ge170_8⟩ := k40_openF hMe170
    have hv170_8 := hcc170 8 _ rfl
    rw [add_field _ _ 8 (by omega)] at hv170_8
    replace hv170_8 := Option.some.inj (hv170_8.symm.trans hx170_8)
    injection hv170_8 with hva_ hvn_ hvc_
    rw [hva_] at ge170_8
    rw [hvc_] at ul170_8
    have HL170_8 := A0_ (show Kd.V (Kd.int .u8) 5 _ w.heap.size _ _ ((rd_T40 l0 x6_1).f5) from Kd.V_mk ul170_8 ge170_8)
    clear hva_ hvn_ hvc_ ge170_8 ul170_8
    clear hcc170 hce170
    have HR170_8 := A0_ hi170_8
    have HC170_8 := A0_ hl170_8
    clear hi170_8 hl170_8
    replace p170 := eq_true p170
    replace q170 := eq_true q170
    go_wp2
    go_roundg k1
    case measure => have := HK1.out; omega
    case rel => exact ⟨(wrap64 (x6_1 + 1)), (x170000_1), (x170001_1), (x170002_1), (x170003_1), (x170004_1), (x170005_1), (x170006_1), (x170007_1), wr_, H', ⟨by have := HK1.out; omega⟩, ⟨wV_ HO_0.out⟩, ⟨wB_ BK169.out⟩, ⟨wb1_ HB.out GE169.out⟩⟩
   rw [if_pos c6] at H
   have c6b0 : (((rd_T40 l0 x6_1).f0).toList == a1.toList) = true := beq_iff_eq.mpr c6
   have c6b1 : (((rd_T40 l0 x6_1).f0).toList != a1.toList) = false := bne_eq_false_iff_eq.mpr c6
   clear c6
   simp only [Option.some.injEq, Prod.mk.injEq] at H
   obtain ⟨rfl, rfl, rfl, rfl, rfl, rfl, rfl, rfl, rfl, rfl⟩ := H
   have p170 : 0 ≤ (x6_1 : Int) := wd_
   have q170 : x6_1 < (l0.length : Int) := wd_
   obtain ⟨ad170, A170_8, c170_8, e170, hx170_0, hx170_1, hx170_2, hx170_3, hx170_4, hx170_5, hx170_6, hx170_7, hx170_8, hl170_8, hi170_8⟩ := at_T40 (Kd.V_reads' HO_0.out).2.2 x6_1 p170 q170
   cases e170
   obtain ⟨ce170, hce170, hMe170, hcc170⟩ := Kd.V_get HO_0.out z40 x6_1 p170 (by first | exact q170 | exact wd_ | (have e_ := (Kd.V_reads' HO_0.out).1; omega))
   obtain ⟨ua170_8, uc170_8, rfl, ul170_8, ge170_8⟩ := k40_openF hMe170
   have hv170_8 := hcc170 8 _ rfl
   rw [add_field _ _ 8 (by omega)] at hv170_8
   replace hv170_8 := Option.some.inj (hv170_8.symm.trans hx170_8)
   injection hv170_8 with hva_ hvn_ hvc_
   rw [hva_] at ge170_8
   rw [hvc_] at ul170_8
   have HL170_8 := A0_ (show Kd.V (Kd.int .u8) 5 _ w.heap.size _ _ ((rd_T40 l0 x6_1).f5) from Kd.V_mk ul170_8 ge170_8)
   clear hva_ hvn_ hvc_ ge170_8 ul170_8
   clear hcc170 hce170
   have HR170_8 := A0_ hi170_8
   have HC170_8 := A0_ hl170_8
   clear hi170_8 hl170_8
   replace p170 := eq_true p170
   replace q170 := eq_true q170
   have p171 : 0 ≤ (x6_1 : Int) := wd_
   have q171 : x6_1 < (l0.length : Int) := wd_
   obtain ⟨ad171, A171_8, c171_8, e171, hx171_0, hx171_1, hx171_2, hx171_3, hx171_4, hx171_5, hx171_6, hx171_7, hx171_8, hl171_8, hi171_8⟩ := at_T40 (Kd.V_reads' HO_0.out).2.2 x6_1 p171 q171
   obtain rfl : ad170 = ad171 := (by injection e171)
   obtain ⟨ce171, hce171, hMe171, hcc171⟩ := Kd.V_get HO_0.out z40 x6_1 p171 (by first | exact q171 | exact wd_ | (have e_ := (Kd.V_reads' HO_0.out).1; omega))
   obtain ⟨ua171_8, uc171_8, rfl, ul171_8, ge171_8⟩ := k40_openF hMe171
   have hv171_8 := hcc171 8 _ rfl
   rw [add_field _ _ 8 (by omega)] at hv171_8
   replace hv171_8 := Option.some.inj (hv171_8.symm.trans hx171_8)
   injection hv171_8 with hva_ hvn_ hvc_
   rw [hva_] at ge171_8
   rw [hvc_] at ul171_8
   have HL171_8 := A0_ (show Kd.V (Kd.int .u8) 5 _ w.heap.size _ _ ((rd_T40 l0 x6_1).f5) from Kd.V_mk ul171_8 ge171_8)
   clear hva_ hvn_ hvc_ ge171_8 ul171_8
   clear hcc171 hce171
   have HR171_8 := A0_ hi171_8
   have HC171_8 := A0_ hl171_8
   clear hi171_8 hl171_8
   replace p171 := eq_true p171
   replace q171 := eq_true q171
   have ea_ := Option.some.inj (hx170_8.symm.trans hx171_8)
   injection ea_ with ea_ en_ ec_
   subst ea_
   subst ec_
   clear en_
   have hcz7_0 : wr.cell? ⟨gb169, 0, none⟩ = some (.string x170000_1) := (bc_ BK169.out 0).trans rfl
   have hcz7_1 : wr.cell? ⟨gb169, 1, none⟩ = some (.string x170001_1) := (bc_ BK169.out 1).trans rfl
   have hcz7_2 : wr.cell? ⟨gb169, 2, none⟩ = some (.string x170002_1) := (bc_ BK169.out 2).trans rfl
   have hcz7_3 : wr.cell? ⟨gb169, 3, none⟩ = some (.int .u8 x170003_1) := (bc_ BK169.out 3).trans rfl
   have hcz7_4 : wr.cell? ⟨gb169, 4, none⟩ = some (.int .i64 x170004_1) := (bc_ BK169.out 4).trans rfl
   have hcz7_5 : wr.cell? ⟨gb169, 5, none⟩ = some (.int .i64 x170005_1) := (bc_ BK169.out 5).trans rfl
   have hcz7_6 : wr.cell? ⟨gb169, 6, none⟩ = some (.int .i64 x170006_1) := (bc_ BK169.out 6).trans rfl
   have hcz7_7 : wr.cell? ⟨gb169, 7, none⟩ = some (.int .i64 x170007_1) := (bc_ BK169.out 7).trans rfl
   have hcz7_8 : wr.cell? ⟨gb169, 8, none⟩ = some (.slice none 0 0) := (bc_ BK169.out 8).trans rfl
   have hfz7_0 := bf_ BK169.out 0
   have hfz7_1 := bf_ BK169.out 1
   have hfz7_2 := bf_ BK169.out 2
   have hfz7_3 := bf_ BK169.out 3
   have hfz7_4 := bf_ BK169.out 4
   have hfz7_5 := bf_ BK169.out 5
   have hfz7_6 := bf_ BK169.out 6
   have hfz7_7 := bf_ BK169.out 7
   have hfz7_8 := bf_ BK169.out 8
   go_wp2
   refine bodyPost_ret (results_ct rfl _ _ gb169 40 #[.string ((rd_T40 l0 x6_1).f0), .string ((rd_T40 l0 x6_1).f1), .string ((rd_T40 l0 x6_1).f2), .int .u8 ((rd_T40 l0 x6_1).f3), .int .i64 ((rd_T40 l0 x6_1).f4.f0), .int .i64 ((rd_T40 l0 x6_1).f4.f1), .int .i64 ((rd_T40 l0 x6_1).f4.f2), .int .i64 ((rd_T40 l0 x6_1).f4.f3), .slice A170_8 ((rd_T40 l0 x6_1).f5).length c170_8] (0, 0) _ rfl (by (with_reducible repeat (first | refine blk_drewN ?_ _ | refine blk_drew ?_ | refine blk_alloc ?_ _)); refine blk_put (cs := #[.string ((rd_T40 l0 x6_1).f0), .string ((rd_T40 l0 x6_1).f1), .string ((rd_T40 l0 x6_1).f2), .int .u8 ((rd_T40 l0 x6_1).f3), .int .i64 ((rd_T40 l0 x6_1).f4.f0), .int .i64 ((rd_T40 l0 x6_1).f4.f1), .int .i64 ((rd_T40 l0 x6_1).f4.f2), .int .i64 ((rd_T40 l0 x6_1).f4.f3), .slice none 0 0]) ?_ 8 _ rfl; (with_reducible repeat (first | refine blk_drewN ?_ _ | refine blk_drew ?_ | refine blk_alloc ?_ _)); refine blk_put (cs := #[.string ((rd_T40 l0 x6_1).f0), .string ((rd_T40 l0 x6_1).f1), .string ((rd_T40 l0 x6_1).f2), .int .u8 ((rd_T40 l0 x6_1).f3), .int .i64 ((rd_T40 l0 x6_1).f4.f0), .int .i64 ((rd_T40 l0 x6_1).f4.f1), .int .i64 ((rd_T40 l0 x6_1).f4.f2), .int .i64 x170007_1, .slice none 0 0]) ?_ 7 _ rfl; (with_reducible repeat (first | refine blk_drewN ?_ _ | refine blk_drew ?_ | refine blk_alloc ?_ _)); refine blk_put (cs := #[.string ((rd_T40 l0 x6_1).f0), .string ((rd_T40 l0 x6_1).f1), .string ((rd_T40 l0 x6_1).f2), .int .u8 ((rd_T40 l0 x6_1).f3), .int .i64 ((rd_T40 l0 x6_1).f4.f0), .int .i64 ((rd_T40 l0 x6_1).f4.f1), .int .i64 x170006_1, .int .i64 x170007_1, .slice none 0 0]) ?_ 6 _ rfl; (with_reducible repeat (first | refine blk_drewN ?_ _ | refine blk_drew ?_ | refine blk_alloc ?_ _)); refine blk_put (cs := #[.string ((rd_T40 l0 x6_1).f0), .string ((rd_T40 l0 x6_1).f1), .string ((rd_T40 l0 x6_1).f2), .int .u8 ((rd_T40 l0 x6_1).f3), .int .i64 ((rd_T40 l0 x6_1).f4.f0), .int .i64 x170005_1, .int .i64 x170006_1, .int .i64 x170007_1, .slice none 0 0]) ?_ 5 _ rfl; (with_reducible repeat (first | refine blk_drewN ?_ _ | refine blk_drew ?_ | refine blk_alloc ?_ _)); refine blk_put (cs := #[.string ((rd_T40 l0 x6_1).f0), .string ((rd_T40 l0 x6_1).f1), .string ((rd_T40 l0 x6_1).f2), .int .u8 ((rd_T40 l0 x6_1).f3), .int .i64 x170004_1, .int .i64 x170005_1, .int .i64 x170006_1, .int .i64 x170007_1, .slice none 0 0]) ?_ 4 _ rfl; (with_reducible repeat (first | refine blk_drewN ?_ _ | refine blk_drew ?_ | refine blk_alloc ?_ _)); refine blk_put (cs := #[.string ((rd_T40 l0 x6_1).f0), .string ((rd_T40 l0 x6_1).f1), .string ((rd_T40 l0 x6_1).f2), .int .u8 x170003_1, .int .i64 x170004_1, .int .i64 x170005_1, .int .i64 x170006_1, .int .i64 x170007_1, .slice none 0 0]) ?_ 3 _ rfl; (with_reducible repeat (first | refine blk_drewN ?_ _ | refine blk_drew ?_ | refine blk_alloc ?_ _)); refine blk_put (cs := #[.string ((rd_T40 l0 x6_1).f0), .string ((rd_T40 l0 x6_1).f1), .string x170002_1, .int .u8 x170003_1, .int .i64 x170004_1, .int .i64 x170005_1, .int .i64 x170006_1, .int .i64 x170007_1, .slice none 0 0]) ?_ 2 _ rfl; (with_reducible repeat (first | refine blk_drewN ?_ _ | refine blk_drew ?_ | refine blk_alloc ?_ _)); refine blk_put (cs := #[.string ((rd_T40 l0 x6_1).f0), .string x170001_1, .string x170002_1, .int .u8 x170003_1, .int .i64 x170004_1, .int .i64 x170005_1, .int .i64 x170006_1, .int .i64 x170007_1, .slice none 0 0]) ?_ 1 _ rfl; (with_reducible repeat (first | refine blk_drewN ?_ _ | refine blk_drew ?_ | refine blk_alloc ?_ _)); refine blk_put (cs := #[.string x170000_1, .string x170001_1, .string x170002_1, .int .u8 x170003_1, .int .i64 x170004_1, .int .i64 x170005_1, .int .i64 x170006_1, .int .i64 x170007_1, .slice none 0 0]) ?_ 0 _ rfl; (with_reducible repeat (first | refine blk_drewN ?_ _ | refine blk_drew ?_ | refine blk_alloc ?_ _)); exact BK169.out) Tryd.underlying40 rfl (by kernel_rfl)) rfl ?_
   exact ⟨_, we_, by (with_reducible repeat (first | apply Va_ | apply VN_ | apply V1_)); exact Kd.V_mono (Kd.V_far (p := ⟨gb169, 8, none⟩) (Kd.V_far (p := ⟨gb169, 7, none⟩) (Kd.V_far (p := ⟨gb169, 6, none⟩) (Kd.V_far (p := ⟨gb169, 5, none⟩) (Kd.V_far (p := ⟨gb169, 4, none⟩) (Kd.V_far (p := ⟨gb169, 3, none⟩) (Kd.V_far (p := ⟨gb169, 2, none⟩) (Kd.V_far (p := ⟨gb169, 1, none⟩) (Kd.V_far (p := ⟨gb169, 0, none⟩) (Kd.V_mono HL171_8.out (fun k_ hk => (⟨hk, hk.2⟩ : _ ∧ k_ ≠ gb169))) (fun _ hk => hk.2) (.string ((rd_T40 l0 x6_1).f0))) (fun _ hk => hk.2) (.string ((rd_T40 l0 x6_1).f1))) (fun _ hk => hk.2) (.string ((rd_T40 l0 x6_1).f2))) (fun _ hk => hk.2) (.int .u8 ((rd_T40 l0 x6_1).f3))) (fun _ hk => hk.2) (.int .i64 ((rd_T40 l0 x6_1).f4.f0))) (fun _ hk => hk.2) (.int .i64 ((rd_T40 l0 x6_1).f4.f1))) (fun _ hk => hk.2) (.int .i64 ((rd_T40 l0 x6_1).f4.f2))) (fun _ hk => hk.2) (.int .i64 ((rd_T40 l0 x6_1).f4.f3))) (fun _ hk => hk.2) (.slice A170_8 ((rd_T40 l0 x6_1).f5).length c170_8)) (fun _ hk => hk.1.1), wb1_ HB.out GE169.out⟩
end Go.Proofs.YtfljbidecljlcaaDoor.Print

namespace Go.Proofs.YtfljbidecljlcaaDoor
open Go.RowKit Go.Proofs.YtfljbidecljlcaaDoor.Print Go.Proofs.YtfljbidecljlcaaDoorW.PrintWords Go.Proofs.YtfljbidecljlcaaDoorW.PrintLast Go.Proofs.YtfljbidecljlcaaDoorW.PrintMore
set_option linter.unusedVariables false
theorem rfind_l (l : List Node) (p : ByteArray) (hlen : l.length ≤ 1000000000000) : ∀ (d i : Nat), i + d = l.length → Ev (fun k => bindleref08_Find.l0 k l p (i : Int)) (tupN (findF (l.drop i) p)) := by
 intro d
 induction d with
 | zero =>
  intro i hi
  rw [List.drop_of_length_le (by omega)]
  exact Ev.step (f := fun _ => some (tupN none)) (fun k => by rw [bindleref08_Find.l0, if_neg (by omega)]; rfl) (Ev.now _)
 | succ d ih =>
  intro i hi
  have hil : i < l.length := by omega
  have hx : rd_T40 l (i : Int) = l[i] := by rw [rdN_at l (i : Int) (by omega) (by omega)]; simp
  rw [List.drop_eq_getElem_cons hil]
  unfold findF
  rw [List.find?_cons]
  by_cases he : l[i].f0.toList = p.toList
  ·rw [decide_eq_true he]
   exact Ev.step (f := fun _ => some (tupN (some l[i]))) (fun k => by rw [bindleref08_Find.l0, if_pos (by omega), if_pos (by omega), hx, if_pos he]; rfl) (Ev.now _)
  ·rw [decide_eq_false he]
   refine Ev.step (fun k => ?_) (ih (i + 1) (by omega))
   rw [bindleref08_Find.l0, if_pos (by omega), if_pos (by omega), hx, if_neg he]
   rw [show wrap64 ((i : Int) + 1) = ((i + 1 : Nat) : Int) by unfold wrap64; omega]
theorem rfind_eq (l : List Node) (p : ByteArray) (hlen : l.length ≤ 1000000000000) : Ev (fun k => bindleref08_Find.f k l p) (tupN (findF l p)) := rfind_l l p hlen l.length 0 (by omega)
theorem RefFind_F (ok : Nat → Prop) (A0 : Option Addr) (c0 : Nat) (l : List Node) (p : ByteArray) (W : World) (hF : Kd.F k40 W ok A0 l.length l) (hc : l.length ≤ c0) (hlen : l.length ≤ 1000000000000) :
  Calls Tryd.prog 23 #[.slice A0 l.length c0, .string p] W fun e W' => ∃ x b A c, (match findF l p with | some y => x = y ∧ b = true | none => x = z40 ∧ b = false) ∧ e = .returned (.tuple #[.agg (nodeCells x (.slice A x.f5.length c)), .bool b]) ∧ x.f5.length ≤ c ∧ Kd.F (Kd.int .u8) W' (fun k => ok k ∨ W.heap.size ≤ k) A x.f5.length x.f5 ∧ Below W.heap.size W W' := by
 obtain ⟨k, hk⟩ := Ev.rounds (rfind_eq l p hlen)
 have hV : Kd.V k40 40 W W.heap.size ok (.slice A0 l.length c0) l := Kd.V_mk hc hF
 cases hf : findF l p with
 | none =>
  rw [hf] at hk
  refine (bindleref08_Find.calls k _ A0 c0 l p _ _ _ _ _ _ _ _ _ _ W hV hk).mono ?_
  rintro e w' ⟨v, rfl, hv, hb⟩
  obtain ⟨A, c, rfl⟩ := Kd.V_slice hv
  exact ⟨z40, false, A, c, ⟨rfl, rfl⟩, rfl, (Kd.V_reads' hv).2.1, Kd.V_F hv, hb⟩
 | some y =>
  rw [hf] at hk
  refine (bindleref08_Find.calls k _ A0 c0 l p _ _ _ _ _ _ _ _ _ _ W hV hk).mono ?_
  rintro e w' ⟨v, rfl, hv, hb⟩
  obtain ⟨A, c, rfl⟩ := Kd.V_slice hv
  exact ⟨y, true, A, c, ⟨rfl, rfl⟩, rfl, (Kd.V_reads' hv).2.1, Kd.V_F hv, hb⟩
end Go.Proofs.YtfljbidecljlcaaDoor

namespace Go.Proofs.YtfljbidecljlcaaDoor.Print
open Go.RowKit Go.Proofs.YtfljbidecljlcaaDoorW.PrintWords Go.Proofs.YtfljbidecljlcaaDoorW.PrintLast Go.Proofs.YtfljbidecljlcaaDoorW.PrintMore
attribute [local go_sem] max2_int min2_int max_two min_two max_three min_three max_four min_four   -- for this text's walks alone
set_option linter.unusedVariables false
set_option linter.unusedSimpArgs false
end Go.Proofs.YtfljbidecljlcaaDoor.Print

namespace Go.Proofs.YtfljbidecljlcaaDoor.Print
open Go.RowKit Go.Proofs.YtfljbidecljlcaaDoorW.PrintWords Go.Proofs.YtfljbidecljlcaaDoorW.PrintLast Go.Proofs.YtfljbidecljlcaaDoorW.PrintMore
attribute [local go_sem] max2_int min2_int max_two min_two max_three min_three max_four min_four   -- for this text's walks alone
set_option linter.unusedVariables false
set_option linter.unusedSimpArgs false
theorem eqA38 (d : Nat) (w : World) (x0 y0 : Int) (x1 y1 : Int) (x2 y2 : Int) (x3 y3 : Int) :
  (Op.equalIn (d + 2) 38 (.agg #[.int .i64 x0, .int .i64 x1, .int .i64 x2, .int .i64 x3]) (.agg #[.int .i64 y0, .int .i64 y1, .int .i64 y2, .int .i64 y3])).run Tryd.prog w = .ok (x0 == y0 && (x1 == y1 && (x2 == y2 && (x3 == y3)))) w := by
 refine eqA_of Tryd.underlying38 (by kernel_rfl) ?_
 refine eqf_cons (by rfl) (by go_simp; rfl) (by go_simp; rfl) (by go_simp) ?_
 refine eqf_cons (by rfl) (by go_simp; rfl) (by go_simp; rfl) (by go_simp) ?_
 refine eqf_cons (by rfl) (by go_simp; rfl) (by go_simp; rfl) (by go_simp) ?_
 exact eqf_last (by rfl) (by go_simp; rfl) (by go_simp; rfl) (by go_simp)
end Go.Proofs.YtfljbidecljlcaaDoor.Print

namespace Go.Proofs.YtfljbidecljlcaaDoor.Print
open Go.RowKit Go.Proofs.YtfljbidecljlcaaDoorW.PrintWords Go.Proofs.YtfljbidecljlcaaDoorW.PrintLast Go.Proofs.YtfljbidecljlcaaDoorW.PrintMore
attribute [local go_sem] max2_int min2_int max_two min_two max_three min_three max_four min_four   -- for this text's walks alone
set_option linter.unusedVariables false
set_option linter.unusedSimpArgs false
attribute [local go_sem high] eqA38
end Go.Proofs.YtfljbidecljlcaaDoor.Print

namespace Go.Proofs.YtfljbidecljlcaaDoor.Print
open Go.RowKit Go.Proofs.YtfljbidecljlcaaDoorW.PrintWords Go.Proofs.YtfljbidecljlcaaDoorW.PrintLast Go.Proofs.YtfljbidecljlcaaDoorW.PrintMore
attribute [local go_sem] max2_int min2_int max_two min_two max_three min_three max_four min_four   -- for this text's walks alone
set_option linter.unusedVariables false
set_option linter.unusedSimpArgs false
end Go.Proofs.YtfljbidecljlcaaDoor.Print

namespace Go.Proofs.YtfljbidecljlcaaDoor.Print
open Go.RowKit Go.Proofs.YtfljbidecljlcaaDoorW.PrintWords Go.Proofs.YtfljbidecljlcaaDoorW.PrintLast Go.Proofs.YtfljbidecljlcaaDoorW.PrintMore
attribute [local go_sem] max2_int min2_int max_two min_two max_three min_three max_four min_four   -- for this text's walks alone
set_option linter.unusedVariables false
set_option linter.unusedSimpArgs false
end Go.Proofs.YtfljbidecljlcaaDoor.Print

namespace Go.Proofs.YtfljbidecljlcaaDoor
open Go.RowKit Go.Proofs.YtfljbidecljlcaaDoor.Print Go.Proofs.YtfljbidecljlcaaDoorW.PrintWords
set_option linter.unusedVariables false
theorem rdN_nat (l : List Node) (j : Nat) (h : j < l.length) : rd_T40 l (j : Int) = l[j] := by rw [rdN_at l j (by omega) (by omega)]; simp
theorem rdS_nat (l : List ByteArray) (j : Nat) (h : j < l.length) : rdOf ByteArray.empty l (j : Int) = l[j] := by
 unfold rdOf
 rw [List.getD_eq_getElem?_getD, Int.toNat_natCast, List.getElem?_eq_getElem h]
 rfl
theorem w_succ {n : Nat} (h : n ≤ 4611686018427387904) : wrap64 ((n : Int) + 1) = ((n + 1 : Nat) : Int) := by unfold wrap64; omega
section
variable {l : List Node} {order : List ByteArray} {R : List Mem}
end
end Go.Proofs.YtfljbidecljlcaaDoor

namespace Go.Proofs.YtfljbidecljlcaaDoor
open Go.RowKit Go.Maps Go.Proofs.YtfljbidecljlcaaDoor.Print Go.Proofs.YtfljbidecljlcaaDoorW.PrintWords Go.Proofs.YtfljbidecljlcaaDoorW.PrintLast Go.Proofs.YtfljbidecljlcaaDoorW.PrintMore
set_option linter.unusedVariables false
set_option linter.unusedSimpArgs false
abbrev gq_0 : Array Bool := #[false, false, false, false, false, false, false, false, false, false, false, false, false, false, false, false, false, false, false, false, false, false, false, false, false, false, false, false, false, false, false, false, false]
abbrev gq_1 : Array Bool := #[true, false, false, false, false, false, false, false, false, false, false, false, false, false, false, false, false, false, false, false, false, false, false, false, false, false, false, false, false, false, false, false, false]
abbrev gq_2 : Array Bool := #[true, true, false, false, false, false, false, false, false, false, false, false, false, false, false, false, false, false, false, false, false, false, false, false, false, false, false, false, false, false, false, false, false]
abbrev gq_3 : Array Bool := #[true, true, true, false, false, false, false, false, false, false, false, false, false, false, false, false, false, false, false, false, false, false, false, false, false, false, false, false, false, false, false, false, false]
abbrev gq_4 : Array Bool := #[true, true, true, true, false, false, false, false, false, false, false, false, false, false, false, false, false, false, false, false, false, false, false, false, false, false, false, false, false, false, false, false, false]
abbrev gq_5 : Array Bool := #[true, true, true, true, true, false, false, false, false, false, false, false, false, false, false, false, false, false, false, false, false, false, false, false, false, false, false, false, false, false, false, false, false]
abbrev gq_6 : Array Bool := #[true, true, true, true, true, true, false, false, false, false, false, false, false, false, false, false, false, false, false, false, false, false, false, false, false, false, false, false, false, false, false, false, false]
abbrev gq_7 : Array Bool := #[true, true, true, true, true, true, true, false, false, false, false, false, false, false, false, false, false, false, false, false, false, false, false, false, false, false, false, false, false, false, false, false, false]
abbrev gq_8 : Array Bool := #[true, true, true, true, true, true, true, true, false, false, false, false, false, false, false, false, false, false, false, false, false, false, false, false, false, false, false, false, false, false, false, false, false]
abbrev gq_9 : Array Bool := #[true, true, true, true, true, true, true, true, true, false, false, false, false, false, false, false, false, false, false, false, false, false, false, false, false, false, false, false, false, false, false, false, false]
abbrev gq_10 : Array Bool := #[true, true, true, true, true, true, true, true, true, true, false, false, false, false, false, false, false, false, false, false, false, false, false, false, false, false, false, false, false, false, false, false, false]
abbrev gq_11 : Array Bool := #[true, true, true, true, true, true, true, true, true, true, true, false, false, false, false, false, false, false, false, false, false, false, false, false, false, false, false, false, false, false, false, false, false]
abbrev gq_12 : Array Bool := #[true, true, true, true, true, true, true, true, true, true, true, true, false, false, false, false, false, false, false, false, false, false, false, false, false, false, false, false, false, false, false, false, false]
abbrev gq_13 : Array Bool := #[true, true, true, true, true, true, true, true, true, true, true, true, true, false, false, false, false, false, false, false, false, false, false, false, false, false, false, false, false, false, false, false, false]
abbrev gq_14 : Array Bool := #[true, true, true, true, true, true, true, true, true, true, true, true, true, true, false, false, false, false, false, false, false, false, false, false, false, false, false, false, false, false, false, false, false]
abbrev gq_15 : Array Bool := #[true, true, true, true, true, true, true, true, true, true, true, true, true, true, true, false, false, false, false, false, false, false, false, false, false, false, false, false, false, false, false, false, false]
abbrev gq_16 : Array Bool := #[true, true, true, true, true, true, true, true, true, true, true, true, true, true, true, true, false, false, false, false, false, false, false, false, false, false, false, false, false, false, false, false, false]
abbrev gq_17 : Array Bool := #[true, true, true, true, true, true, true, true, true, true, true, true, true, true, true, true, true, false, false, false, false, false, false, false, false, false, false, false, false, false, false, false, false]
abbrev gq_18 : Array Bool := #[true, true, true, true, true, true, true, true, true, true, true, true, true, true, true, true, true, true, false, false, false, false, false, false, false, false, false, false, false, false, false, false, false]
abbrev gq_19 : Array Bool := #[true, true, true, true, true, true, true, true, true, true, true, true, true, true, true, true, true, true, true, false, false, false, false, false, false, false, false, false, false, false, false, false, false]
abbrev gq_20 : Array Bool := #[true, true, true, true, true, true, true, true, true, true, true, true, true, true, true, true, true, true, true, true, false, false, false, false, false, false, false, false, false, false, false, false, false]
abbrev gq_21 : Array Bool := #[true, true, true, true, true, true, true, true, true, true, true, true, true, true, true, true, true, true, true, true, true, false, false, false, false, false, false, false, false, false, false, false, false]
abbrev gq_22 : Array Bool := #[true, true, true, true, true, true, true, true, true, true, true, true, true, true, true, true, true, true, true, true, true, true, false, false, false, false, false, false, false, false, false, false, false]
abbrev gq_23 : Array Bool := #[true, true, true, true, true, true, true, true, true, true, true, true, true, true, true, true, true, true, true, true, true, true, true, false, false, false, false, false, false, false, false, false, false]
abbrev gq_24 : Array Bool := #[true, true, true, true, true, true, true, true, true, true, true, true, true, true, true, true, true, true, true, true, true, true, true, true, false, false, false, false, false, false, false, false, false]
abbrev gq_25 : Array Bool := #[true, true, true, true, true, true, true, true, true, true, true, true, true, true, true, true, true, true, true, true, true, true, true, true, true, false, false, false, false, false, false, false, false]
abbrev gq_26 : Array Bool := #[true, true, true, true, true, true, true, true, true, true, true, true, true, true, true, true, true, true, true, true, true, true, true, true, true, true, false, false, false, false, false, false, false]
abbrev gq_27 : Array Bool := #[true, true, true, true, true, true, true, true, true, true, true, true, true, true, true, true, true, true, true, true, true, true, true, true, true, true, true, false, false, false, false, false, false]
abbrev gq_28 : Array Bool := #[true, true, true, true, true, true, true, true, true, true, true, true, true, true, true, true, true, true, true, true, true, true, true, true, true, true, true, true, false, false, false, false, false]
abbrev gq_29 : Array Bool := #[true, true, true, true, true, true, true, true, true, true, true, true, true, true, true, true, true, true, true, true, true, true, true, true, true, true, true, true, true, false, false, false, false]
abbrev gq_30 : Array Bool := #[true, true, true, true, true, true, true, true, true, true, true, true, true, true, true, true, true, true, true, true, true, true, true, true, true, true, true, true, true, true, false, false, false]
abbrev gq_31 : Array Bool := #[true, true, true, true, true, true, true, true, true, true, true, true, true, true, true, true, true, true, true, true, true, true, true, true, true, true, true, true, true, true, true, false, false]
abbrev gq_32 : Array Bool := #[true, true, true, true, true, true, true, true, true, true, true, true, true, true, true, true, true, true, true, true, true, true, true, true, true, true, true, true, true, true, true, true, false]
abbrev gq_33 : Array Bool := #[true, true, true, true, true, true, true, true, true, true, true, true, true, true, true, true, true, true, true, true, true, true, true, true, true, true, true, true, true, true, true, true, true]
theorem acell {w : World} {p : Addr} {v : Value} (h : w.cell? p = some v) (o : Obj) : (w.alloc o).cell? p = some v := ((below_alloc (Below.refl _ _) o).cell (World.block_lt_of_cell? w _ h)).trans h
theorem bkeep {w w1 : World} {p : Addr} {v : Value} (hb : Below w.heap.size w w1) (h : w.cell? p = some v) : w1.cell? p = some v := (hb.cell (World.block_lt_of_cell? w _ h)).trans h
theorem lt_of_alloc {w w1 : World} {o : Obj} (hb : Below (w.alloc o).heap.size (w.alloc o) w1) : w.heap.size < w1.heap.size := Nat.lt_of_lt_of_le (by rw [World.size_alloc]; exact Nat.lt_succ_self _) hb.size
def RefRel (l : List Node) (W : World) (i : Int) (wr : World) : Prop := 0 ≤ i ∧ i ≤ l.length ∧ (∀ (j : Nat) (hj : j < l.length), (j : Int) < i → nodeOk l j hj = true) ∧ Below W.heap.size W wr
def headOk (l : List Node) (i : Nat) (h : i < l.length) : Bool := (decide (i = 0) || lt (l[i - 1]'(by omega)).f0 l[i].f0) && !decide (l[i].f3 = 49) && goodM (memOf l[i])
theorem nodeOk_head (l : List Node) (i : Nat) (h : i < l.length) : nodeOk l i h = (headOk l i h && ledB (l.take (i + 1)) l[i]) := rfl
def nodeObj (x : Node) (v : Value) : Obj := .cells #[.string x.f0, .string x.f1, .string x.f2, .int .u8 x.f3, .int .i64 x.f4.f0, .int .i64 x.f4.f1, .int .i64 x.f4.f2, .int .i64 x.f4.f3, v] 40
def boxed (w : World) (g : Nat) (x : Node) (v : Value) : Prop := (w.cell? ⟨g, 0, none⟩ = some (.string x.f0) ∧ w.cell? ⟨g, 1, none⟩ = some (.string x.f1) ∧ w.cell? ⟨g, 2, none⟩ = some (.string x.f2) ∧ w.cell? ⟨g, 3, none⟩ = some (.int .u8 x.f3)) ∧ (w.cell? ⟨g, 4, none⟩ = some (.int .i64 x.f4.f0) ∧ w.cell? ⟨g, 5, none⟩ = some (.int .i64 x.f4.f1) ∧ w.cell? ⟨g, 6, none⟩ = some (.int .i64 x.f4.f2) ∧ w.cell? ⟨g, 7, none⟩ = some (.int .i64 x.f4.f3)) ∧ w.cell? ⟨g, 8, none⟩ = some v
theorem boxed.below {w w1 : World} {g : Nat} {x : Node} {v : Value} (h : boxed w g x v) (hb : Below w.heap.size w w1) : boxed w1 g x v :=
 ⟨⟨bkeep hb h.1.1, bkeep hb h.1.2.1, bkeep hb h.1.2.2.1, bkeep hb h.1.2.2.2⟩, ⟨bkeep hb h.2.1.1, bkeep hb h.2.1.2.1, bkeep hb h.2.1.2.2.1, bkeep hb h.2.1.2.2.2⟩, bkeep hb h.2.2⟩
def Mid5 (l : List Node) (n : Nat) (h : n < l.length) (g : Nat) (x : Node) (v : Value) (b : Bool) (wr wx : World) : Prop := b = !(headOk l n h) ∧ Below wr.heap.size wr wx ∧ boxed wx g x v
theorem mid5_1 {l : List Node} {W w1 : World} {n : Nat} {h : n < l.length} {g : Nat} {x : Node} {v : Value} {b : Bool} (hb : b = !(headOk l n h)) (hB : Below W.heap.size W w1)
  (hh : w1.cell? ⟨g, 0, none⟩ = some (.string x.f0) ∧ w1.cell? ⟨g, 1, none⟩ = some (.string x.f1) ∧ w1.cell? ⟨g, 2, none⟩ = some (.string x.f2) ∧ w1.cell? ⟨g, 3, none⟩ = some (.int .u8 x.f3) ∧ w1.cell? ⟨g, 4, none⟩ = some (.int .i64 x.f4.f0) ∧ w1.cell? ⟨g, 5, none⟩ = some (.int .i64 x.f4.f1) ∧ w1.cell? ⟨g, 6, none⟩ = some (.int .i64 x.f4.f2) ∧ w1.cell? ⟨g, 7, none⟩ = some (.int .i64 x.f4.f3) ∧ w1.cell? ⟨g, 8, none⟩ = some v) : Mid5 l n h g x v b W w1 :=
 ⟨hb, hB, ⟨hh.1, hh.2.1, hh.2.2.1, hh.2.2.2.1⟩, ⟨hh.2.2.2.2.1, hh.2.2.2.2.2.1, hh.2.2.2.2.2.2.1, hh.2.2.2.2.2.2.2.1⟩, hh.2.2.2.2.2.2.2.2⟩
theorem mid5_2 {l : List Node} {W w1 : World} {n : Nat} {h : n < l.length} {g : Nat} {x : Node} {v : Value} {b : Bool} {p : Prop} (hb : b = !(headOk l n h)) (hB : Below W.heap.size W w1)
  (hh : w1.cell? ⟨g, 0, none⟩ = some (.string x.f0) ∧ w1.cell? ⟨g, 1, none⟩ = some (.string x.f1) ∧ w1.cell? ⟨g, 2, none⟩ = some (.string x.f2) ∧ w1.cell? ⟨g, 3, none⟩ = some (.int .u8 x.f3) ∧ w1.cell? ⟨g, 4, none⟩ = some (.int .i64 x.f4.f0) ∧ w1.cell? ⟨g, 5, none⟩ = some (.int .i64 x.f4.f1) ∧ w1.cell? ⟨g, 6, none⟩ = some (.int .i64 x.f4.f2) ∧ w1.cell? ⟨g, 7, none⟩ = some (.int .i64 x.f4.f3) ∧ w1.cell? ⟨g, 8, none⟩ = some v ∧ p) : Mid5 l n h g x v b W w1 :=
 ⟨hb, hB, ⟨hh.1, hh.2.1, hh.2.2.1, hh.2.2.2.1⟩, ⟨hh.2.2.2.2.1, hh.2.2.2.2.2.1, hh.2.2.2.2.2.2.1, hh.2.2.2.2.2.2.2.1⟩, hh.2.2.2.2.2.2.2.2.1⟩
theorem prev_lt {l : List Node} {n j : Int} {h : j.toNat < l.length} {h' : n.toNat - 1 < l.length} {y0 x0 : ByteArray} {b : Bool} (hy : l[j.toNat].f0 = y0) (hj : j = n - 1) (hl : Op.bytesLess y0.toList x0.toList = b) : lt (l[n.toNat - 1]).f0 x0 = b := by
 subst hj
 unfold lt
 rw [← hl, ← hy]
 congr 4
 omega
theorem refRel_next {l : List Node} {W wr w1 : World} {n : Int} (h : RefRel l W n wr) (hn : n.toNat < l.length) (h1 : headOk l n.toNat hn = true) (h2 : ledB (l.take (n.toNat + 1)) l[n.toNat] = true) (hB : Below W.heap.size W w1) : RefRel l W (n + 1) w1 := by
 have h0 := h.1
 refine ⟨by omega, by omega, fun q hq hqn => ?_, hB⟩
 rcases Nat.lt_or_ge q n.toNat with hh | hh
 ·exact h.2.2.1 q hq (by omega)
 ·obtain rfl : q = n.toNat := by omega
  rw [nodeOk_head, h1, h2]; rfl
def leadB (y x : Node) : Bool := decide (y.f3 = 48 ∧ y.f2.toList = y.f0.toList ∧ y.f4.f0 = x.f4.f0 ∧ y.f4.f1 = x.f4.f1 ∧ y.f4.f2 = x.f4.f2 ∧ y.f4.f3 = x.f4.f3 ∧ (strOfNums y.f5).toList = (strOfNums x.f5).toList)
theorem leadB_4 {y x : Node} (h : (y.f4.f0 == x.f4.f0 && (y.f4.f1 == x.f4.f1 && (y.f4.f2 == x.f4.f2 && (y.f4.f3 == x.f4.f3)))) = false) : (true && leadB y x) = false := by
 rw [Bool.true_and]
 unfold leadB
 rw [decide_eq_false]
 rintro ⟨_, _, h0, h1, h2, h3, _⟩
 rw [h0, h1, h2, h3] at h
 simp at h
theorem leadB_ok {y x : Node} (h3 : y.f3 = 48) (h2 : y.f2.toList = y.f0.toList) (h : (y.f4.f0 == x.f4.f0 && (y.f4.f1 == x.f4.f1 && (y.f4.f2 == x.f4.f2 && (y.f4.f3 == x.f4.f3)))) = true) (h5 : (strOfNums y.f5).toList = (strOfNums x.f5).toList) : (true && leadB y x) = true := by
 rw [Bool.true_and]
 unfold leadB
 simp only [Bool.and_eq_true, beq_iff_eq] at h
 rw [decide_eq_true_iff]
 exact ⟨h3, h2, h.1, h.2.1, h.2.2.1, h.2.2.2, h5⟩
theorem nodeOk_lead {l : List Node} {n : Nat} {x y : Node} {b : Bool} (hn : n < l.length) (hx : x = l[n]) (hR : ∀ (j : Nat) (hj : j < l.length), j < n → nodeOk l j hj = true) (hh : headOk l n hn = true) (h48 : x.f3 = 48)
  (hm : match findF (l.take (n + 1)) x.f2 with | some z => y = z ∧ b = true | none => y = z40 ∧ b = false) : nodeOk l n hn = (b && leadB y x) := by
 rw [nodeOk_head, hh, Bool.true_and]
 rw [← hx]
 unfold ledB
 rw [if_pos h48]
 cases hf : findF (l.take (n + 1)) x.f2 with
 | none =>
  rw [hf] at hm
  rw [hm.2]; rfl
 | some z =>
  rw [hf] at hm
  obtain ⟨rfl, rfl⟩ := hm
  rw [Bool.true_and]
  unfold leadB
  dsimp only
  have hlt : lt x.f0 y.f0 = false := by
   have hmem : y ∈ l.take (n + 1) := List.mem_of_find?_eq_some hf
   obtain ⟨t, ht, he⟩ := List.getElem_of_mem hmem
   rw [List.length_take] at ht
   rw [List.getElem_take] at he
   rcases Nat.lt_or_ge t n with h | h
   ·have hr : ∀ (d s : Nat) (hs : s + d + 1 ≤ n), lt (l[s]'(by omega)).f0 (l[s + d + 1]'(by omega)).f0 = true := by
     have h1 : ∀ (s : Nat) (hs : s + 1 ≤ n), lt (l[s]'(by omega)).f0 (l[s + 1]'(by omega)).f0 = true := by
      intro s hs
      have hd : headOk l (s + 1) (by omega) = true := by
       rcases Nat.lt_or_ge (s + 1) n with h2 | h2
       ·have := hR (s + 1) (by omega) h2
        rw [nodeOk_head, Bool.and_eq_true] at this
        exact this.1
       ·obtain rfl : s + 1 = n := by omega
        exact hh
      unfold headOk at hd
      simp only [Bool.and_eq_true, Bool.or_eq_true, decide_eq_true_iff] at hd
      rcases hd.1.1 with h3 | h3
      ·omega
      ·exact h3
     intro d
     induction d with
     | zero => intro s hs; exact h1 s hs
     | succ d ih => intro s hs; exact lt_trans (ih s (by omega)) (h1 (s + d + 1) (by omega))
    have h2 := hr (n - t - 1) t (by omega)
    have h3 : t + (n - t - 1) + 1 = n := by omega
    simp only [h3] at h2
    rw [he, ← hx] at h2
    exact lt_asym h2
   ·obtain rfl : t = n := by omega
    rw [← he, hx, lt_irr]
  refine decide_eq_decide.2 ⟨fun h => ⟨h.1, h.2.1, h.2.2.2⟩, fun h => ⟨h.1, h.2.1, hlt, h.2.2⟩⟩
def Mid10 (l : List Node) (n g : Nat) (x : Node) (v : Value) (g' : Nat) (y : Node) (b : Bool) (A : Option Addr) (c : Nat) (wc wx : World) : Prop :=
 (match findF (l.take (n + 1)) x.f2 with | some z => y = z ∧ b = true | none => y = z40 ∧ b = false) ∧ Below wc.heap.size wc wx ∧ boxed wx g x v ∧ boxed wx g' y (.slice A y.f5.length c) ∧ Kd.C (Kd.int .u8) wx A y.f5.length y.f5
def putNode (w : World) (g : Nat) (x : Node) (v : Value) : World := ((((((((w.setCell ⟨g, 0, none⟩ (.string x.f0)).setCell ⟨g, 1, none⟩ (.string x.f1)).setCell ⟨g, 2, none⟩ (.string x.f2)).setCell ⟨g, 3, none⟩ (.int .u8 x.f3)).setCell ⟨g, 4, none⟩ (.int .i64 x.f4.f0)).setCell ⟨g, 5, none⟩ (.int .i64 x.f4.f1)).setCell ⟨g, 6, none⟩ (.int .i64 x.f4.f2)).setCell ⟨g, 7, none⟩ (.int .i64 x.f4.f3)).setCell ⟨g, 8, none⟩ v
theorem boxed.put {w : World} {g g' : Nat} {x y : Node} {v u : Value} (h : boxed w g x v) (hne : g ≠ g') : boxed (putNode w g' y u) g x v := by
 have e : ∀ j, (putNode w g' y u).cell? ⟨g, j, none⟩ = w.cell? ⟨g, j, none⟩ := fun j => by
  have hh : ∀ i, (⟨g', i, none⟩ : Addr) ≠ ⟨g, j, none⟩ := fun i h => by injection h with h; exact hne h.symm
  unfold putNode
  rw [World.cell?_setCell_other _ _ _ _ (hh _), World.cell?_setCell_other _ _ _ _ (hh _), World.cell?_setCell_other _ _ _ _ (hh _), World.cell?_setCell_other _ _ _ _ (hh _), World.cell?_setCell_other _ _ _ _ (hh _), World.cell?_setCell_other _ _ _ _ (hh _), World.cell?_setCell_other _ _ _ _ (hh _), World.cell?_setCell_other _ _ _ _ (hh _), World.cell?_setCell_other _ _ _ _ (hh _)]
 unfold boxed
 simp only [e]
 exact h
theorem boxed.puts {w : World} {g : Nat} {x : Node} {v : Value} (h : ∀ j, j < 9 → (w.cell? ⟨g, j, none⟩).isSome = true) : boxed (putNode w g x v) g x v := by
 obtain ⟨u0, h0⟩ := Option.isSome_iff_exists.1 (h 0 (by omega))
 obtain ⟨u1, h1⟩ := Option.isSome_iff_exists.1 (h 1 (by omega))
 obtain ⟨u2, h2⟩ := Option.isSome_iff_exists.1 (h 2 (by omega))
 obtain ⟨u3, h3⟩ := Option.isSome_iff_exists.1 (h 3 (by omega))
 obtain ⟨u4, h4⟩ := Option.isSome_iff_exists.1 (h 4 (by omega))
 obtain ⟨u5, h5⟩ := Option.isSome_iff_exists.1 (h 5 (by omega))
 obtain ⟨u6, h6⟩ := Option.isSome_iff_exists.1 (h 6 (by omega))
 obtain ⟨u7, h7⟩ := Option.isSome_iff_exists.1 (h 7 (by omega))
 obtain ⟨u8, h8⟩ := Option.isSome_iff_exists.1 (h 8 (by omega))
 clear h
 unfold boxed putNode
 simp [go_sem, h0, h1, h2, h3, h4, h5, h6, h7, h8]
theorem below_putNode {B : Nat} {a w : World} (h : Below B a w) (g : Nat) (hg : B ≤ g) (x : Node) (v : Value) : Below B a (putNode w g x v) := by
 unfold putNode
 repeat (refine below_put ?_ _ _ hg _)
 exact h
theorem mid10_a {l : List Node} {wc w1 : World} {n : Int} {g c : Nat} {x y : Node} {v : Value} {b : Bool} {A : Option Addr} (hm : match findF (l.take (n + 1).toNat) x.f2 with | some z => y = z ∧ b = true | none => y = z40 ∧ b = false) (hx : boxed wc g x v) (hb : Below wc.drew.heap.size wc.drew w1)
  (hC : Kd.F (Kd.int .u8) w1 (fun k => k < wc.heap.size ∨ wc.drew.heap.size ≤ k) A y.f5.length y.f5) (hn : 0 ≤ n) : Mid10 l n.toNat g x v w1.heap.size y b A c wc (w1.alloc (nodeObj y (.slice A y.f5.length c))) := by
 have hb' : Below wc.heap.size wc w1 := (below_drew (Below.refl _ _)).trans hb
 refine ⟨by rw [show n.toNat + 1 = (n + 1).toNat by omega]; exact hm, hb'.alloc hb'.size _, (hx.below hb').below (below_alloc (Below.refl _ _) _), ?_, Kd.F_now (Kd.F_alloc hC _)⟩
 unfold boxed nodeObj
 simp [go_sem]
theorem mid10_b {cs : Array Value} {l : List Node} {wc w1 : World} {n : Int} {g c : Nat} {x y : Node} {v : Value} {b : Bool} {A : Option Addr} (hm : match findF (l.take (n + 1).toNat) x.f2 with | some z => y = z ∧ b = true | none => y = z40 ∧ b = false) (hx : boxed wc g x v) (hb : Below (wc.drew.alloc (.cells cs 40)).heap.size (wc.drew.alloc (.cells cs 40)) w1)
  (hC : Kd.F (Kd.int .u8) w1 (fun k => k < wc.heap.size ∨ (wc.drew.alloc (.cells cs 40)).heap.size ≤ k) A y.f5.length y.f5) (hn : 0 ≤ n) (hcs : cs.size = 9) : Mid10 l n.toNat g x v wc.heap.size y b A c wc (putNode w1 wc.heap.size y (.slice A y.f5.length c)) := by
 have hs : (wc.drew.alloc (.cells cs 40)).heap.size = wc.heap.size + 1 := by rw [World.size_alloc]; rfl
 have hb' : Below wc.heap.size wc w1 := (below_alloc (below_drew (Below.refl _ _)) _).trans (hb.mono (by omega))
 have hlt : g < wc.heap.size := World.block_lt_of_cell? wc ⟨g, 2, none⟩ hx.1.2.2.1
 refine ⟨by rw [show n.toNat + 1 = (n + 1).toNat by omega]; exact hm, below_putNode hb' _ (Nat.le_refl _) _ _, (hx.below hb').put (by omega), boxed.puts (fun j hj => ?_), ?_⟩
 ·have h1 : w1.cell? ⟨wc.heap.size, j, none⟩ = (wc.drew.alloc (.cells cs 40)).cell? ⟨wc.heap.size, j, none⟩ := hb.cell (p := ⟨wc.heap.size, j, none⟩) (by rw [hs]; exact Nat.lt_succ_self _)
  rw [h1]
  have h2 : (wc.drew.alloc (.cells cs 40)).cell? ⟨wc.heap.size, j, none⟩ = cs[j]? := World.cell?_alloc_new wc.drew _ _ _
  rw [h2, Array.getElem?_eq_getElem (by omega)]
  rfl
 ·unfold putNode
  refine Kd.F_now (ok := fun k => k < wc.heap.size ∨ (wc.drew.alloc (.cells cs 40)).heap.size ≤ k) ?_
  repeat (refine Kd.F_far ?_ (p := ⟨wc.heap.size, _, none⟩) (fun k hk => by show k ≠ wc.heap.size; omega) _)
  exact hC
attribute [local go_sem high] eqA38
set_option maxRecDepth 100000 in
set_option maxHeartbeats 8000000 in
theorem RefTree_calls (A0 : Option Addr) (c0 : Nat) (l : List Node) (W : World) (hC : Kd.C k40 W A0 l.length l) (hc0 : l.length ≤ c0) (hz : NodesZ l) :
  Calls Tryd.prog 33 #[.slice A0 l.length c0] W fun e W' => e = .returned (.bool (goodTree l)) ∧ Below W.heap.size W W' := by
 have HC := Aside0.mk hC
 have HZ := Aside0.mk hz
 have HC0 := Aside0.mk hc0
 have hlen : (l.length : Int) ≤ 1000000000000 := by have := hz.1; omega
 clear hC hz hc0
 generalize hpost : (fun (e : Ending) (W' : World) => e = .returned (.bool (goodTree l)) ∧ Below W.heap.size W W') = Q
 have hQ := Aside0.mk hpost
 clear hpost
 go_enter Tryd.func33, Tryd.ntmps33
 go_wp2
 go_loopg [3] (l.length) (fun g i wr => ∃ n : Int, i = .int .i64 n ∧ Aside0 (RefRel l W n wr) ∧ Aside0 ((g : Int) + n = l.length))
 case atStart => exact ⟨0, rfl, ⟨⟨by omega, by omega, fun j hj h => absurd h (by omega), Below.refl _ _⟩⟩, ⟨by omega⟩⟩
 case round =>
  obtain ⟨n, rfl, HR, HG⟩ := hrel
  have h0 := HR.out.1
  have h1 := HR.out.2.1
  have hB := HR.out.2.2.2
  have HB := Aside0.mk hB
  by_cases hlt : n < (l.length : Int)
  ·have hnl : n.toNat < l.length := by omega
   obtain ⟨ad, A7, c7, rfl, x0, x1, x2, x3, x4, x5, x6, x7, x8, hl7, hC7⟩ := at_T40 (Kd.C_below HC.out hB) n h0 hlt
   have hx := rdN_at l n h0 hlt
   have hxz : NodeZ (rd_T40 l n) := by rw [hx]; exact HZ.out.2 _ (List.getElem_mem _)
   generalize rd_T40 l n = x at hx hxz x0 x1 x2 x3 x4 x5 x6 x7 x8 hl7 hC7
   have HX := Aside0.mk hx
   have HXZ := Aside0.mk hxz
   have HC7 := Aside0.mk hC7
   have c1b : decide (n < (l.length : Int)) = true := decide_eq_true hlt
   clear hx hxz hC7
   have hmr : MemR (memOf x) := ⟨HXZ.out.1, HXZ.out.2.1, HXZ.out.2.2.2⟩
   obtain ⟨kg, hkg⟩ := Ev.rounds (refGood_eq (memOf x) hmr)
   generalize hgd : goodM (memOf x) = gd at hkg
   have HGD := Aside0.mk hgd
   have HKG : Aside0 (bindleref08_Good.f kg x.f0 x.f1 x.f3 x.f4.f0 x.f4.f1 x.f4.f2 x.f4.f3 x.f5 = some gd) := ⟨hkg⟩
   have HCA := Aside0.mk (fun o => Kd.C_alloc HC7.out o)
   have hl7' : x.f5.length ≤ c7 := hl7
   have HNL := Aside0.mk hnl
   clear hkg hmr hl7 hgd hnl
   go_upto_region 5 with (fail)
   go_cut [49] (fun v wx => ∃ b, v = .bool b ∧ Aside0 (Mid5 l n.toNat HNL.out wr.heap.size x (.slice A7 x.f5.length c7) b wr wx))
   case first =>
    by_cases hn0 : n = 0
    ·have g1 : decide (0 < n) = false := decide_eq_false (by omega)
     have g2 : decide (n > 0) = false := decide_eq_false (by omega)
     have HN0 := Aside0.mk hn0
     clear hn0
     by_cases h49 : x.f3 = 49
     ·have e49 : (x.f3 == 49) = true := beq_iff_eq.2 h49
      have H49 := Aside0.mk h49
      clear h49
      refine start_ (n := 33) (S := fun w' => w'.cell? ⟨wr.heap.size, 0, none⟩ = some (.string x.f0) ∧ w'.cell? ⟨wr.heap.size, 1, none⟩ = some (.string x.f1) ∧ w'.cell? ⟨wr.heap.size, 2, none⟩ = some (.string x.f2) ∧ w'.cell? ⟨wr.heap.size, 3, none⟩ = some (.int .u8 x.f3) ∧ w'.cell? ⟨wr.heap.size, 4, none⟩ = some (.int .i64 x.f4.f0) ∧ w'.cell? ⟨wr.heap.size, 5, none⟩ = some (.int .i64 x.f4.f1) ∧ w'.cell? ⟨wr.heap.size, 6, none⟩ = some (.int .i64 x.f4.f2) ∧ w'.cell? ⟨wr.heap.size, 7, none⟩ = some (.int .i64 x.f4.f3) ∧ w'.cell? ⟨wr.heap.size, 8, none⟩ = some (.slice A7 x.f5.length c7)) (ds := []) gq_0 (by kernel_rfl) rfl rfl ⟨by simp, by simp, by simp, by simp, by simp, by simp, by simp, by simp, by simp⟩ (fun hHeld => ?_)
      generalize hwq : (wr.alloc (.cells #[.string x.f0, .string x.f1, .string x.f2, .int .u8 x.f3, .int .i64 x.f4.f0, .int .i64 x.f4.f1, .int .i64 x.f4.f2, .int .i64 x.f4.f3, .slice A7 x.f5.length c7] 40)).drew = wq at hHeld ⊢
      refine pur_ (i := 0) (N := some 17) gq_1 (by kernel_rfl) ?_
      refine pur_ (i := 1) (N := some 18) gq_2 (by kernel_rfl) ?_
      refine pur_ (i := 2) (N := some 19) gq_3 (by kernel_rfl) ?_
      refine pure_ (i := 3) (N := some 20) (v := undef) (a' := ?_) gq_4 rfl rfl (by kernel_rfl) (fun _ _ _ h => h) (Or.inr ⟨by rfl, rfl⟩) ?_ ?_
      rotate_left
      ·simp only [Act.put, List.setIfInBounds_toArray, List.set_cons_zero, List.set_cons_succ, i64_w, i32_w]
       rfl
      refine pure_ (i := 4) (N := some 21) (v := undef) (a' := ?_) gq_5 rfl rfl (by kernel_rfl) (fun _ _ _ h => h) (Or.inr ⟨by rfl, rfl⟩) ?_ ?_
      rotate_left
      ·simp only [Act.put, List.setIfInBounds_toArray, List.set_cons_zero, List.set_cons_succ, i64_w, i32_w]
       rfl
      refine pure_ (i := 5) (N := some 22) (v := undef) (a' := ?_) gq_6 rfl rfl (by kernel_rfl) (fun _ _ _ h => h) (Or.inr ⟨by rfl, rfl⟩) ?_ ?_
      rotate_left
      ·simp only [Act.put, List.setIfInBounds_toArray, List.set_cons_zero, List.set_cons_succ, i64_w, i32_w]
       rfl
      refine pure_ (i := 6) (N := some 23) (v := undef) (a' := ?_) gq_7 rfl rfl (by kernel_rfl) (fun _ _ _ h => h) (Or.inr ⟨by rfl, rfl⟩) ?_ ?_
      rotate_left
      ·simp only [Act.put, List.setIfInBounds_toArray, List.set_cons_zero, List.set_cons_succ, i64_w, i32_w]
       rfl
      refine pure_ (i := 7) (N := some 24) (v := undef) (a' := ?_) gq_8 rfl rfl (by kernel_rfl) (fun _ _ _ h => h) (Or.inr ⟨by rfl, rfl⟩) ?_ ?_
      rotate_left
      ·simp only [Act.put, List.setIfInBounds_toArray, List.set_cons_zero, List.set_cons_succ, i64_w, i32_w]
       rfl
      refine pure_ (i := 8) (N := some 25) (v := undef) (a' := ?_) gq_9 rfl rfl (by kernel_rfl) (fun _ _ _ h => h) (Or.inr ⟨by rfl, rfl⟩) ?_ ?_
      rotate_left
      ·simp only [Act.put, List.setIfInBounds_toArray, List.set_cons_zero, List.set_cons_succ, i64_w, i32_w]
       rfl
      refine pure_ (i := 9) (N := some 26) (v := undef) (a' := ?_) gq_10 rfl rfl (by kernel_rfl) (fun _ _ _ h => h) (Or.inr ⟨by rfl, rfl⟩) ?_ ?_
      rotate_left
      ·simp only [Act.put, List.setIfInBounds_toArray, List.set_cons_zero, List.set_cons_succ, i64_w, i32_w]
       rfl
      refine pure_ (i := 10) (N := some 27) (v := undef) (a' := ?_) gq_11 rfl rfl (by kernel_rfl) (fun _ _ _ h => h) (Or.inr ⟨by rfl, rfl⟩) ?_ ?_
      rotate_left
      ·simp only [Act.put, List.setIfInBounds_toArray, List.set_cons_zero, List.set_cons_succ, i64_w, i32_w]
       rfl
      refine pure_ (i := 11) (N := some 28) (v := undef) (a' := ?_) gq_12 rfl rfl (by kernel_rfl) (fun _ _ _ h => h) (Or.inr ⟨by rfl, rfl⟩) ?_ ?_
      rotate_left
      ·simp only [Act.put, List.setIfInBounds_toArray, List.set_cons_zero, List.set_cons_succ, i64_w, i32_w]
       rfl
      refine pur_ (i := 12) (N := some 29) gq_13 (by kernel_rfl) ?_
      refine pur_ (i := 13) (N := some 30) gq_14 (by kernel_rfl) ?_
      refine pur_ (i := 14) (N := some 31) gq_15 (by kernel_rfl) ?_
      refine tak_ (i := 15) (N := some 32) gq_16 (by kernel_rfl) hHeld ?_
      refine pur_ (i := 16) (N := some 33) gq_17 (by kernel_rfl) ?_
      refine pur_ (i := 17) (N := some 34) gq_18 (by kernel_rfl) ?_
      refine pur_ (i := 18) (N := some 35) gq_19 (by kernel_rfl) ?_
      refine pure_ (i := 19) (N := some 36) (v := undef) (a' := ?_) gq_20 rfl rfl (by kernel_rfl) (fun _ _ _ h => h) (Or.inr ⟨by rfl, rfl⟩) ?_ ?_
      rotate_left
      ·simp only [Act.put, List.setIfInBounds_toArray, List.set_cons_zero, List.set_cons_succ, i64_w, i32_w]
       rfl
      refine pure_ (i := 20) (N := some 37) (v := undef) (a' := ?_) gq_21 rfl rfl (by kernel_rfl) (fun _ _ _ h => h) (Or.inr ⟨by rfl, rfl⟩) ?_ ?_
      rotate_left
      ·simp only [Act.put, List.setIfInBounds_toArray, List.set_cons_zero, List.set_cons_succ, i64_w, i32_w]
       rfl
      refine pure_ (i := 21) (N := some 38) (v := undef) (a' := ?_) gq_22 rfl rfl (by kernel_rfl) (fun _ _ _ h => h) (Or.inr ⟨by rfl, rfl⟩) ?_ ?_
      rotate_left
      ·simp only [Act.put, List.setIfInBounds_toArray, List.set_cons_zero, List.set_cons_succ, i64_w, i32_w]
       rfl
      refine pure_ (i := 22) (N := some 39) (v := undef) (a' := ?_) gq_23 rfl rfl (by kernel_rfl) (fun _ _ _ h => h) (Or.inr ⟨by rfl, rfl⟩) ?_ ?_
      rotate_left
      ·simp only [Act.put, List.setIfInBounds_toArray, List.set_cons_zero, List.set_cons_succ, i64_w, i32_w]
       rfl
      refine pure_ (i := 23) (N := some 40) (v := undef) (a' := ?_) gq_24 rfl rfl (by kernel_rfl) (fun _ _ _ h => h) (Or.inr ⟨by rfl, rfl⟩) ?_ ?_
      rotate_left
      ·simp only [Act.put, List.setIfInBounds_toArray, List.set_cons_zero, List.set_cons_succ, i64_w, i32_w]
       rfl
      refine pure_ (i := 24) (N := some 41) (v := undef) (a' := ?_) gq_25 rfl rfl (by kernel_rfl) (fun _ _ _ h => h) (Or.inr ⟨by rfl, rfl⟩) ?_ ?_
      rotate_left
      ·simp only [Act.put, List.setIfInBounds_toArray, List.set_cons_zero, List.set_cons_succ, i64_w, i32_w]
       rfl
      refine pure_ (i := 25) (N := some 42) (v := undef) (a' := ?_) gq_26 rfl rfl (by kernel_rfl) (fun _ _ _ h => h) (Or.inr ⟨by rfl, rfl⟩) ?_ ?_
      rotate_left
      ·simp only [Act.put, List.setIfInBounds_toArray, List.set_cons_zero, List.set_cons_succ, i64_w, i32_w]
       rfl
      refine pure_ (i := 26) (N := some 43) (v := undef) (a' := ?_) gq_27 rfl rfl (by kernel_rfl) (fun _ _ _ h => h) (Or.inr ⟨by rfl, rfl⟩) ?_ ?_
      rotate_left
      ·simp only [Act.put, List.setIfInBounds_toArray, List.set_cons_zero, List.set_cons_succ, i64_w, i32_w]
       rfl
      refine pure_ (i := 27) (N := some 44) (v := undef) (a' := ?_) gq_28 rfl rfl (by kernel_rfl) (fun _ _ _ h => h) (Or.inr ⟨by rfl, rfl⟩) ?_ ?_
      rotate_left
      ·simp only [Act.put, List.setIfInBounds_toArray, List.set_cons_zero, List.set_cons_succ, i64_w, i32_w]
       rfl
      refine pure_ (i := 28) (N := some 45) (v := undef) (a' := ?_) gq_29 rfl rfl (by kernel_rfl) (fun _ _ _ h => h) (Or.inr ⟨by rfl, rfl⟩) ?_ ?_
      rotate_left
      ·simp only [Act.put, List.setIfInBounds_toArray, List.set_cons_zero, List.set_cons_succ, i64_w, i32_w]
       rfl
      refine pure_ (i := 29) (N := some 46) (v := undef) (a' := ?_) gq_30 rfl rfl (by kernel_rfl) (fun _ _ _ h => h) (Or.inr ⟨by rfl, rfl⟩) ?_ ?_
      rotate_left
      ·simp only [Act.put, List.setIfInBounds_toArray, List.set_cons_zero, List.set_cons_succ, i64_w, i32_w]
       rfl
      refine pure_ (i := 30) (N := some 47) (v := undef) (a' := ?_) gq_31 rfl rfl (by kernel_rfl) (fun _ _ _ h => h) (Or.inr ⟨by rfl, rfl⟩) ?_ ?_
      rotate_left
      ·simp only [Act.put, List.setIfInBounds_toArray, List.set_cons_zero, List.set_cons_succ, i64_w, i32_w]
       rfl
      refine pure_ (i := 31) (N := some 48) (v := undef) (a' := ?_) gq_32 rfl rfl (by kernel_rfl) (fun _ _ _ h => h) (Or.inr ⟨by rfl, rfl⟩) ?_ ?_
      rotate_left
      ·simp only [Act.put, List.setIfInBounds_toArray, List.set_cons_zero, List.set_cons_succ, i64_w, i32_w]
       rfl
      refine pur_ (i := 32) (N := some 49) gq_33 (by kernel_rfl) ?_
      refine done_ (by kernel_rfl) ?_
      go_wp2_with (fail)
      go_meet
      exact ⟨true, rfl, ⟨mid5_1 (by unfold headOk; rw [← HX.out, decide_eq_true H49.out]; simp) (by rw [← hwq]; exact below_drew (below_alloc (Below.refl _ _) _)) hHeld⟩⟩
     ·have e49 : (x.f3 == 49) = false := beq_eq_false_iff_ne.2 h49
      have H49 := Aside0.mk h49
      clear h49
      refine start_ (n := 33) (S := fun w' => w'.cell? ⟨wr.heap.size, 0, none⟩ = some (.string x.f0) ∧ w'.cell? ⟨wr.heap.size, 1, none⟩ = some (.string x.f1) ∧ w'.cell? ⟨wr.heap.size, 2, none⟩ = some (.string x.f2) ∧ w'.cell? ⟨wr.heap.size, 3, none⟩ = some (.int .u8 x.f3) ∧ w'.cell? ⟨wr.heap.size, 4, none⟩ = some (.int .i64 x.f4.f0) ∧ w'.cell? ⟨wr.heap.size, 5, none⟩ = some (.int .i64 x.f4.f1) ∧ w'.cell? ⟨wr.heap.size, 6, none⟩ = some (.int .i64 x.f4.f2) ∧ w'.cell? ⟨wr.heap.size, 7, none⟩ = some (.int .i64 x.f4.f3) ∧ w'.cell? ⟨wr.heap.size, 8, none⟩ = some (.slice A7 x.f5.length c7)) (ds := []) gq_0 (by kernel_rfl) rfl rfl ⟨by simp, by simp, by simp, by simp, by simp, by simp, by simp, by simp, by simp⟩ (fun hHeld => ?_)
      generalize hwq : (wr.alloc (.cells #[.string x.f0, .string x.f1, .string x.f2, .int .u8 x.f3, .int .i64 x.f4.f0, .int .i64 x.f4.f1, .int .i64 x.f4.f2, .int .i64 x.f4.f3, .slice A7 x.f5.length c7] 40)).drew = wq at hHeld ⊢
      refine pur_ (i := 0) (N := some 17) gq_1 (by kernel_rfl) ?_
      refine pur_ (i := 1) (N := some 18) gq_2 (by kernel_rfl) ?_
      refine pur_ (i := 2) (N := some 19) gq_3 (by kernel_rfl) ?_
      refine pure_ (i := 3) (N := some 20) (v := undef) (a' := ?_) gq_4 rfl rfl (by kernel_rfl) (fun _ _ _ h => h) (Or.inr ⟨by rfl, rfl⟩) ?_ ?_
      rotate_left
      ·simp only [Act.put, List.setIfInBounds_toArray, List.set_cons_zero, List.set_cons_succ, i64_w, i32_w]
       rfl
      refine pure_ (i := 4) (N := some 21) (v := undef) (a' := ?_) gq_5 rfl rfl (by kernel_rfl) (fun _ _ _ h => h) (Or.inr ⟨by rfl, rfl⟩) ?_ ?_
      rotate_left
      ·simp only [Act.put, List.setIfInBounds_toArray, List.set_cons_zero, List.set_cons_succ, i64_w, i32_w]
       rfl
      refine pure_ (i := 5) (N := some 22) (v := undef) (a' := ?_) gq_6 rfl rfl (by kernel_rfl) (fun _ _ _ h => h) (Or.inr ⟨by rfl, rfl⟩) ?_ ?_
      rotate_left
      ·simp only [Act.put, List.setIfInBounds_toArray, List.set_cons_zero, List.set_cons_succ, i64_w, i32_w]
       rfl
      refine pure_ (i := 6) (N := some 23) (v := undef) (a' := ?_) gq_7 rfl rfl (by kernel_rfl) (fun _ _ _ h => h) (Or.inr ⟨by rfl, rfl⟩) ?_ ?_
      rotate_left
      ·simp only [Act.put, List.setIfInBounds_toArray, List.set_cons_zero, List.set_cons_succ, i64_w, i32_w]
       rfl
      refine pure_ (i := 7) (N := some 24) (v := undef) (a' := ?_) gq_8 rfl rfl (by kernel_rfl) (fun _ _ _ h => h) (Or.inr ⟨by rfl, rfl⟩) ?_ ?_
      rotate_left
      ·simp only [Act.put, List.setIfInBounds_toArray, List.set_cons_zero, List.set_cons_succ, i64_w, i32_w]
       rfl
      refine pure_ (i := 8) (N := some 25) (v := undef) (a' := ?_) gq_9 rfl rfl (by kernel_rfl) (fun _ _ _ h => h) (Or.inr ⟨by rfl, rfl⟩) ?_ ?_
      rotate_left
      ·simp only [Act.put, List.setIfInBounds_toArray, List.set_cons_zero, List.set_cons_succ, i64_w, i32_w]
       rfl
      refine pure_ (i := 9) (N := some 26) (v := undef) (a' := ?_) gq_10 rfl rfl (by kernel_rfl) (fun _ _ _ h => h) (Or.inr ⟨by rfl, rfl⟩) ?_ ?_
      rotate_left
      ·simp only [Act.put, List.setIfInBounds_toArray, List.set_cons_zero, List.set_cons_succ, i64_w, i32_w]
       rfl
      refine pure_ (i := 10) (N := some 27) (v := undef) (a' := ?_) gq_11 rfl rfl (by kernel_rfl) (fun _ _ _ h => h) (Or.inr ⟨by rfl, rfl⟩) ?_ ?_
      rotate_left
      ·simp only [Act.put, List.setIfInBounds_toArray, List.set_cons_zero, List.set_cons_succ, i64_w, i32_w]
       rfl
      refine pure_ (i := 11) (N := some 28) (v := undef) (a' := ?_) gq_12 rfl rfl (by kernel_rfl) (fun _ _ _ h => h) (Or.inr ⟨by rfl, rfl⟩) ?_ ?_
      rotate_left
      ·simp only [Act.put, List.setIfInBounds_toArray, List.set_cons_zero, List.set_cons_succ, i64_w, i32_w]
       rfl
      refine pur_ (i := 12) (N := some 29) gq_13 (by kernel_rfl) ?_
      refine pur_ (i := 13) (N := some 30) gq_14 (by kernel_rfl) ?_
      refine pur_ (i := 14) (N := some 31) gq_15 (by kernel_rfl) ?_
      refine tak_ (i := 15) (N := some 32) gq_16 (by kernel_rfl) hHeld ?_
      refine pur_ (i := 16) (N := some 33) gq_17 (by kernel_rfl) ?_
      refine pur_ (i := 17) (N := some 34) gq_18 (by kernel_rfl) ?_
      refine pur_ (i := 18) (N := some 35) gq_19 (by kernel_rfl) ?_
      refine pur_ (i := 19) (N := some 36) gq_20 (by kernel_rfl) ?_
      refine tak_ (i := 20) (N := some 37) gq_21 (by kernel_rfl) hHeld ?_
      refine pur_ (i := 21) (N := some 38) gq_22 (by kernel_rfl) ?_
      refine tak_ (i := 22) (N := some 39) gq_23 (by kernel_rfl) hHeld ?_
      refine pur_ (i := 23) (N := some 40) gq_24 (by kernel_rfl) ?_
      refine tak_ (i := 24) (N := some 41) gq_25 (by kernel_rfl) hHeld ?_
      refine pur_ (i := 25) (N := some 42) gq_26 (by kernel_rfl) ?_
      refine tak_ (i := 26) (N := some 43) gq_27 (by kernel_rfl) hHeld ?_
      refine pur_ (i := 27) (N := some 44) gq_28 (by kernel_rfl) ?_
      refine tak_ (i := 28) (N := some 45) gq_29 (by kernel_rfl) hHeld ?_
      refine pur_ (i := 29) (N := some 46) gq_30 (by kernel_rfl) ?_
      refine one_ (i := 30) (N := some 47) gq_31 rfl rfl (by kernel_rfl) (by decide) (fun K hK => ?_)
      refine goes_ Tryd.func34 (by kernel_rfl) rfl #[.agg #[.string x.f0, .string x.f1, .int .u8 x.f3, .int .i64 x.f4.f0, .int .i64 x.f4.f1, .int .i64 x.f4.f2, .int .i64 x.f4.f3, .slice A7 x.f5.length c7]] (by rfl) rfl rfl (by first | rfl | (simp [Act.eval]; done)) ?_
      refine (bindleref08_Good.calls kg x.f0 x.f1 x.f3 x.f4.f0 x.f4.f1 x.f4.f2 x.f4.f3 A7 c7 x.f5 gd wq (by rw [← hwq]; exact Kd.C_drew (HCA.out _)) hl7' HKG.out).mono ?_
      rintro e w5 ⟨rfl, hb5⟩
      refine ⟨_, rfl, ?_⟩
      refine hK.out _ _ ⟨bkeep hb5 hHeld.1, bkeep hb5 hHeld.2.1, bkeep hb5 hHeld.2.2.1, bkeep hb5 hHeld.2.2.2.1, bkeep hb5 hHeld.2.2.2.2.1, bkeep hb5 hHeld.2.2.2.2.2.1, bkeep hb5 hHeld.2.2.2.2.2.2.1, bkeep hb5 hHeld.2.2.2.2.2.2.2.1, bkeep hb5 hHeld.2.2.2.2.2.2.2.2⟩ (fun hHeld => ?_)
      clear hK K
      refine norm_ (a' := ?_) ?_ ?_
      rotate_left
      ·show Act.put _ (some 47) _ = _
       simp only [Act.put, List.setIfInBounds_toArray, List.set_cons_zero, List.set_cons_succ, i64_w, i32_w]
       rfl
      refine pur_ (i := 31) (N := some 48) gq_32 (by kernel_rfl) ?_
      refine pur_ (i := 32) (N := some 49) gq_33 (by kernel_rfl) ?_
      refine done_ (by kernel_rfl) ?_
      go_wp2_with (fail)
      go_meet
      exact ⟨!gd, rfl, ⟨mid5_1 (by unfold headOk; rw [← HX.out, HGD.out, decide_eq_false H49.out, decide_eq_true (show n.toNat = 0 by have := HN0.out; omega)]; simp) ((show Below wr.heap.size wr wq from by rw [← hwq]; exact below_drew (below_alloc (Below.refl _ _) _)).trans (hb5.mono (by rw [← hwq]; show wr.heap.size ≤ (wr.alloc (.cells #[.string x.f0, .string x.f1, .string x.f2, .int .u8 x.f3, .int .i64 x.f4.f0, .int .i64 x.f4.f1, .int .i64 x.f4.f2, .int .i64 x.f4.f3, .slice A7 x.f5.length c7] 40)).heap.size; rw [World.size_alloc]; omega))) hHeld⟩⟩
    ·have g1 : decide (0 < n) = true := decide_eq_true (by omega)
     have g2 : decide (n > 0) = true := decide_eq_true (by omega)
     obtain ⟨j, hj⟩ : ∃ j, j = n - 1 := ⟨_, rfl⟩
     have hn1 : 0 ≤ j := by omega
     have hn2 : j < (l.length : Int) := by omega
     obtain ⟨ad', _, _, hA, hp0, _⟩ := at_T40 (Kd.C_below HC.out HB.out) j hn1 hn2
     cases hA
     have hy := rdN_at l j hn1 hn2
     generalize hy0 : (rd_T40 l j).f0 = y0 at hp0
     rw [hy] at hy0
     have HN0 := Aside0.mk hn0
     have HY := Aside0.mk hy0
     have hw64 : wrap64 (n - 1) = j := by unfold wrap64; omega
     have HJ := Aside0.mk hj
     clear hn0 hy hy0 hj
     cases hls : Op.bytesLess y0.toList x.f0.toList with
     | false =>
      refine start_ (n := 33) (S := fun w' => w'.cell? ⟨wr.heap.size, 0, none⟩ = some (.string x.f0) ∧ w'.cell? ⟨wr.heap.size, 1, none⟩ = some (.string x.f1) ∧ w'.cell? ⟨wr.heap.size, 2, none⟩ = some (.string x.f2) ∧ w'.cell? ⟨wr.heap.size, 3, none⟩ = some (.int .u8 x.f3) ∧ w'.cell? ⟨wr.heap.size, 4, none⟩ = some (.int .i64 x.f4.f0) ∧ w'.cell? ⟨wr.heap.size, 5, none⟩ = some (.int .i64 x.f4.f1) ∧ w'.cell? ⟨wr.heap.size, 6, none⟩ = some (.int .i64 x.f4.f2) ∧ w'.cell? ⟨wr.heap.size, 7, none⟩ = some (.int .i64 x.f4.f3) ∧ w'.cell? ⟨wr.heap.size, 8, none⟩ = some (.slice A7 x.f5.length c7) ∧ w'.cell? (ad.add (j.toNat * 9)) = some (.string y0)) (ds := []) gq_0 (by kernel_rfl) rfl rfl ⟨by simp, by simp, by simp, by simp, by simp, by simp, by simp, by simp, by simp, acell hp0 _⟩ (fun hHeld => ?_)
      generalize hwq : (wr.alloc (.cells #[.string x.f0, .string x.f1, .string x.f2, .int .u8 x.f3, .int .i64 x.f4.f0, .int .i64 x.f4.f1, .int .i64 x.f4.f2, .int .i64 x.f4.f3, .slice A7 x.f5.length c7] 40)).drew = wq at hHeld ⊢
      refine pur_ (i := 0) (N := some 17) gq_1 (by kernel_rfl) ?_
      refine pur_ (i := 1) (N := some 18) gq_2 (by kernel_rfl) ?_
      refine pur_ (i := 2) (N := some 19) gq_3 (by kernel_rfl) ?_
      refine pur_ (i := 3) (N := some 20) gq_4 (by kernel_rfl) ?_
      refine pur_ (i := 4) (N := some 21) gq_5 (by kernel_rfl) ?_
      refine pur_ (i := 5) (N := some 22) gq_6 (by kernel_rfl) ?_
      refine pur_ (i := 6) (N := some 23) gq_7 (by kernel_rfl) ?_
      refine pur_ (i := 7) (N := some 24) gq_8 (by kernel_rfl) ?_
      refine tak_ (i := 8) (N := some 25) gq_9 (by kernel_rfl) hHeld ?_
      refine pur_ (i := 9) (N := some 26) gq_10 (by kernel_rfl) ?_
      refine tak_ (i := 10) (N := some 27) gq_11 (by kernel_rfl) hHeld ?_
      refine pur_ (i := 11) (N := some 28) gq_12 (by kernel_rfl) ?_
      refine pur_ (i := 12) (N := some 29) gq_13 (by kernel_rfl) ?_
      refine pur_ (i := 13) (N := some 30) gq_14 (by kernel_rfl) ?_
      refine pure_ (i := 14) (N := some 31) (v := undef) (a' := ?_) gq_15 rfl rfl (by kernel_rfl) (fun _ _ _ h => h) (Or.inr ⟨by rfl, rfl⟩) ?_ ?_
      rotate_left
      ·simp only [Act.put, List.setIfInBounds_toArray, List.set_cons_zero, List.set_cons_succ, i64_w, i32_w]
       rfl
      refine pure_ (i := 15) (N := some 32) (v := undef) (a' := ?_) gq_16 rfl rfl (by kernel_rfl) (fun _ _ _ h => h) (Or.inr ⟨by rfl, rfl⟩) ?_ ?_
      rotate_left
      ·simp only [Act.put, List.setIfInBounds_toArray, List.set_cons_zero, List.set_cons_succ, i64_w, i32_w]
       rfl
      refine pure_ (i := 16) (N := some 33) (v := undef) (a' := ?_) gq_17 rfl rfl (by kernel_rfl) (fun _ _ _ h => h) (Or.inr ⟨by rfl, rfl⟩) ?_ ?_
      rotate_left
      ·simp only [Act.put, List.setIfInBounds_toArray, List.set_cons_zero, List.set_cons_succ, i64_w, i32_w]
       rfl
      refine pur_ (i := 17) (N := some 34) gq_18 (by kernel_rfl) ?_
      refine pur_ (i := 18) (N := some 35) gq_19 (by kernel_rfl) ?_
      refine pure_ (i := 19) (N := some 36) (v := undef) (a' := ?_) gq_20 rfl rfl (by kernel_rfl) (fun _ _ _ h => h) (Or.inr ⟨by rfl, rfl⟩) ?_ ?_
      rotate_left
      ·simp only [Act.put, List.setIfInBounds_toArray, List.set_cons_zero, List.set_cons_succ, i64_w, i32_w]
       rfl
      refine pure_ (i := 20) (N := some 37) (v := undef) (a' := ?_) gq_21 rfl rfl (by kernel_rfl) (fun _ _ _ h => h) (Or.inr ⟨by rfl, rfl⟩) ?_ ?_
      rotate_left
      ·simp only [Act.put, List.setIfInBounds_toArray, List.set_cons_zero, List.set_cons_succ, i64_w, i32_w]
       rfl
      refine pure_ (i := 21) (N := some 38) (v := undef) (a' := ?_) gq_22 rfl rfl (by kernel_rfl) (fun _ _ _ h => h) (Or.inr ⟨by rfl, rfl⟩) ?_ ?_
      rotate_left
      ·simp only [Act.put, List.setIfInBounds_toArray, List.set_cons_zero, List.set_cons_succ, i64_w, i32_w]
       rfl
      refine pure_ (i := 22) (N := some 39) (v := undef) (a' := ?_) gq_23 rfl rfl (by kernel_rfl) (fun _ _ _ h => h) (Or.inr ⟨by rfl, rfl⟩) ?_ ?_
      rotate_left
      ·simp only [Act.put, List.setIfInBounds_toArray, List.set_cons_zero, List.set_cons_succ, i64_w, i32_w]
       rfl
      refine pure_ (i := 23) (N := some 40) (v := undef) (a' := ?_) gq_24 rfl rfl (by kernel_rfl) (fun _ _ _ h => h) (Or.inr ⟨by rfl, rfl⟩) ?_ ?_
      rotate_left
      ·simp only [Act.put, List.setIfInBounds_toArray, List.set_cons_zero, List.set_cons_succ, i64_w, i32_w]
       rfl
      refine pure_ (i := 24) (N := some 41) (v := undef) (a' := ?_) gq_25 rfl rfl (by kernel_rfl) (fun _ _ _ h => h) (Or.inr ⟨by rfl, rfl⟩) ?_ ?_
      rotate_left
      ·simp only [Act.put, List.setIfInBounds_toArray, List.set_cons_zero, List.set_cons_succ, i64_w, i32_w]
       rfl
      refine pure_ (i := 25) (N := some 42) (v := undef) (a' := ?_) gq_26 rfl rfl (by kernel_rfl) (fun _ _ _ h => h) (Or.inr ⟨by rfl, rfl⟩) ?_ ?_
      rotate_left
      ·simp only [Act.put, List.setIfInBounds_toArray, List.set_cons_zero, List.set_cons_succ, i64_w, i32_w]
       rfl
      refine pure_ (i := 26) (N := some 43) (v := undef) (a' := ?_) gq_27 rfl rfl (by kernel_rfl) (fun _ _ _ h => h) (Or.inr ⟨by rfl, rfl⟩) ?_ ?_
      rotate_left
      ·simp only [Act.put, List.setIfInBounds_toArray, List.set_cons_zero, List.set_cons_succ, i64_w, i32_w]
       rfl
      refine pure_ (i := 27) (N := some 44) (v := undef) (a' := ?_) gq_28 rfl rfl (by kernel_rfl) (fun _ _ _ h => h) (Or.inr ⟨by rfl, rfl⟩) ?_ ?_
      rotate_left
      ·simp only [Act.put, List.setIfInBounds_toArray, List.set_cons_zero, List.set_cons_succ, i64_w, i32_w]
       rfl
      refine pure_ (i := 28) (N := some 45) (v := undef) (a' := ?_) gq_29 rfl rfl (by kernel_rfl) (fun _ _ _ h => h) (Or.inr ⟨by rfl, rfl⟩) ?_ ?_
      rotate_left
      ·simp only [Act.put, List.setIfInBounds_toArray, List.set_cons_zero, List.set_cons_succ, i64_w, i32_w]
       rfl
      refine pure_ (i := 29) (N := some 46) (v := undef) (a' := ?_) gq_30 rfl rfl (by kernel_rfl) (fun _ _ _ h => h) (Or.inr ⟨by rfl, rfl⟩) ?_ ?_
      rotate_left
      ·simp only [Act.put, List.setIfInBounds_toArray, List.set_cons_zero, List.set_cons_succ, i64_w, i32_w]
       rfl
      refine pure_ (i := 30) (N := some 47) (v := undef) (a' := ?_) gq_31 rfl rfl (by kernel_rfl) (fun _ _ _ h => h) (Or.inr ⟨by rfl, rfl⟩) ?_ ?_
      rotate_left
      ·simp only [Act.put, List.setIfInBounds_toArray, List.set_cons_zero, List.set_cons_succ, i64_w, i32_w]
       rfl
      refine pure_ (i := 31) (N := some 48) (v := undef) (a' := ?_) gq_32 rfl rfl (by kernel_rfl) (fun _ _ _ h => h) (Or.inr ⟨by rfl, rfl⟩) ?_ ?_
      rotate_left
      ·simp only [Act.put, List.setIfInBounds_toArray, List.set_cons_zero, List.set_cons_succ, i64_w, i32_w]
       rfl
      refine pur_ (i := 32) (N := some 49) gq_33 (by kernel_rfl) ?_
      refine done_ (by kernel_rfl) ?_
      clear hw64
      go_wp2_with (fail)
      go_meet
      exact ⟨true, rfl, ⟨mid5_2 (by unfold headOk; rw [← HX.out, decide_eq_false (show ¬ n.toNat = 0 by have := HN0.out; omega), show lt (l[n.toNat - 1]'(by have := HNL.out; omega)).f0 x.f0 = false from (prev_lt HY.out HJ.out hls)]; simp) (by rw [← hwq]; exact below_drew (below_alloc (Below.refl _ _) _)) hHeld⟩⟩
     | true =>
      by_cases h49 : x.f3 = 49
      ·have e49 : (x.f3 == 49) = true := beq_iff_eq.2 h49
       have H49 := Aside0.mk h49
       clear h49
       refine start_ (n := 33) (S := fun w' => w'.cell? ⟨wr.heap.size, 0, none⟩ = some (.string x.f0) ∧ w'.cell? ⟨wr.heap.size, 1, none⟩ = some (.string x.f1) ∧ w'.cell? ⟨wr.heap.size, 2, none⟩ = some (.string x.f2) ∧ w'.cell? ⟨wr.heap.size, 3, none⟩ = some (.int .u8 x.f3) ∧ w'.cell? ⟨wr.heap.size, 4, none⟩ = some (.int .i64 x.f4.f0) ∧ w'.cell? ⟨wr.heap.size, 5, none⟩ = some (.int .i64 x.f4.f1) ∧ w'.cell? ⟨wr.heap.size, 6, none⟩ = some (.int .i64 x.f4.f2) ∧ w'.cell? ⟨wr.heap.size, 7, none⟩ = some (.int .i64 x.f4.f3) ∧ w'.cell? ⟨wr.heap.size, 8, none⟩ = some (.slice A7 x.f5.length c7) ∧ w'.cell? (ad.add (j.toNat * 9)) = some (.string y0)) (ds := []) gq_0 (by kernel_rfl) rfl rfl ⟨by simp, by simp, by simp, by simp, by simp, by simp, by simp, by simp, by simp, acell hp0 _⟩ (fun hHeld => ?_)
       generalize hwq : (wr.alloc (.cells #[.string x.f0, .string x.f1, .string x.f2, .int .u8 x.f3, .int .i64 x.f4.f0, .int .i64 x.f4.f1, .int .i64 x.f4.f2, .int .i64 x.f4.f3, .slice A7 x.f5.length c7] 40)).drew = wq at hHeld ⊢
       refine pur_ (i := 0) (N := some 17) gq_1 (by kernel_rfl) ?_
       refine pur_ (i := 1) (N := some 18) gq_2 (by kernel_rfl) ?_
       refine pur_ (i := 2) (N := some 19) gq_3 (by kernel_rfl) ?_
       refine pur_ (i := 3) (N := some 20) gq_4 (by kernel_rfl) ?_
       refine pur_ (i := 4) (N := some 21) gq_5 (by kernel_rfl) ?_
       refine pur_ (i := 5) (N := some 22) gq_6 (by kernel_rfl) ?_
       refine pur_ (i := 6) (N := some 23) gq_7 (by kernel_rfl) ?_
       refine pur_ (i := 7) (N := some 24) gq_8 (by kernel_rfl) ?_
       refine tak_ (i := 8) (N := some 25) gq_9 (by kernel_rfl) hHeld ?_
       refine pur_ (i := 9) (N := some 26) gq_10 (by kernel_rfl) ?_
       refine tak_ (i := 10) (N := some 27) gq_11 (by kernel_rfl) hHeld ?_
       refine pur_ (i := 11) (N := some 28) gq_12 (by kernel_rfl) ?_
       refine pur_ (i := 12) (N := some 29) gq_13 (by kernel_rfl) ?_
       refine pur_ (i := 13) (N := some 30) gq_14 (by kernel_rfl) ?_
       refine pur_ (i := 14) (N := some 31) gq_15 (by kernel_rfl) ?_
       refine tak_ (i := 15) (N := some 32) gq_16 (by kernel_rfl) hHeld ?_
       refine pur_ (i := 16) (N := some 33) gq_17 (by kernel_rfl) ?_
       refine pur_ (i := 17) (N := some 34) gq_18 (by kernel_rfl) ?_
       refine pur_ (i := 18) (N := some 35) gq_19 (by kernel_rfl) ?_
       refine pure_ (i := 19) (N := some 36) (v := undef) (a' := ?_) gq_20 rfl rfl (by kernel_rfl) (fun _ _ _ h => h) (Or.inr ⟨by rfl, rfl⟩) ?_ ?_
       rotate_left
       ·simp only [Act.put, List.setIfInBounds_toArray, List.set_cons_zero, List.set_cons_succ, i64_w, i32_w]
        rfl
       refine pure_ (i := 20) (N := some 37) (v := undef) (a' := ?_) gq_21 rfl rfl (by kernel_rfl) (fun _ _ _ h => h) (Or.inr ⟨by rfl, rfl⟩) ?_ ?_
       rotate_left
       ·simp only [Act.put, List.setIfInBounds_toArray, List.set_cons_zero, List.set_cons_succ, i64_w, i32_w]
        rfl
       refine pure_ (i := 21) (N := some 38) (v := undef) (a' := ?_) gq_22 rfl rfl (by kernel_rfl) (fun _ _ _ h => h) (Or.inr ⟨by rfl, rfl⟩) ?_ ?_
       rotate_left
       ·simp only [Act.put, List.setIfInBounds_toArray, List.set_cons_zero, List.set_cons_succ, i64_w, i32_w]
        rfl
       refine pure_ (i := 22) (N := some 39) (v := undef) (a' := ?_) gq_23 rfl rfl (by kernel_rfl) (fun _ _ _ h => h) (Or.inr ⟨by rfl, rfl⟩) ?_ ?_
       rotate_left
       ·simp only [Act.put, List.setIfInBounds_toArray, List.set_cons_zero, List.set_cons_succ, i64_w, i32_w]
        rfl
       refine pure_ (i := 23) (N := some 40) (v := undef) (a' := ?_) gq_24 rfl rfl (by kernel_rfl) (fun _ _ _ h => h) (Or.inr ⟨by rfl, rfl⟩) ?_ ?_
       rotate_left
       ·simp only [Act.put, List.setIfInBounds_toArray, List.set_cons_zero, List.set_cons_succ, i64_w, i32_w]
        rfl
       refine pure_ (i := 24) (N := some 41) (v := undef) (a' := ?_) gq_25 rfl rfl (by kernel_rfl) (fun _ _ _ h => h) (Or.inr ⟨by rfl, rfl⟩) ?_ ?_
       rotate_left
       ·simp only [Act.put, List.setIfInBounds_toArray, List.set_cons_zero, List.set_cons_succ, i64_w, i32_w]
        rfl
       refine pure_ (i := 25) (N := some 42) (v := undef) (a' := ?_) gq_26 rfl rfl (by kernel_rfl) (fun _ _ _ h => h) (Or.inr ⟨by rfl, rfl⟩) ?_ ?_
       rotate_left
       ·simp only [Act.put, List.setIfInBounds_toArray, List.set_cons_zero, List.set_cons_succ, i64_w, i32_w]
        rfl
       refine pure_ (i := 26) (N := some 43) (v := undef) (a' := ?_) gq_27 rfl rfl (by kernel_rfl) (fun _ _ _ h => h) (Or.inr ⟨by rfl, rfl⟩) ?_ ?_
       rotate_left
       ·simp only [Act.put, List.setIfInBounds_toArray, List.set_cons_zero, List.set_cons_succ, i64_w, i32_w]
        rfl
       refine pure_ (i := 27) (N := some 44) (v := undef) (a' := ?_) gq_28 rfl rfl (by kernel_rfl) (fun _ _ _ h => h) (Or.inr ⟨by rfl, rfl⟩) ?_ ?_
       rotate_left
       ·simp only [Act.put, List.setIfInBounds_toArray, List.set_cons_zero, List.set_cons_succ, i64_w, i32_w]
        rfl
       refine pure_ (i := 28) (N := some 45) (v := undef) (a' := ?_) gq_29 rfl rfl (by kernel_rfl) (fun _ _ _ h => h) (Or.inr ⟨by rfl, rfl⟩) ?_ ?_
       rotate_left
       ·simp only [Act.put, List.setIfInBounds_toArray, List.set_cons_zero, List.set_cons_succ, i64_w, i32_w]
        rfl
       refine pure_ (i := 29) (N := some 46) (v := undef) (a' := ?_) gq_30 rfl rfl (by kernel_rfl) (fun _ _ _ h => h) (Or.inr ⟨by rfl, rfl⟩) ?_ ?_
       rotate_left
       ·simp only [Act.put, List.setIfInBounds_toArray, List.set_cons_zero, List.set_cons_succ, i64_w, i32_w]
        rfl
       refine pure_ (i := 30) (N := some 47) (v := undef) (a' := ?_) gq_31 rfl rfl (by kernel_rfl) (fun _ _ _ h => h) (Or.inr ⟨by rfl, rfl⟩) ?_ ?_
       rotate_left
       ·simp only [Act.put, List.setIfInBounds_toArray, List.set_cons_zero, List.set_cons_succ, i64_w, i32_w]
        rfl
       refine pure_ (i := 31) (N := some 48) (v := undef) (a' := ?_) gq_32 rfl rfl (by kernel_rfl) (fun _ _ _ h => h) (Or.inr ⟨by rfl, rfl⟩) ?_ ?_
       rotate_left
       ·simp only [Act.put, List.setIfInBounds_toArray, List.set_cons_zero, List.set_cons_succ, i64_w, i32_w]
        rfl
       refine pur_ (i := 32) (N := some 49) gq_33 (by kernel_rfl) ?_
       refine done_ (by kernel_rfl) ?_
       clear hw64
       go_wp2_with (fail)
       go_meet
       exact ⟨true, rfl, ⟨mid5_2 (by unfold headOk; rw [← HX.out, decide_eq_true H49.out]; simp) (by rw [← hwq]; exact below_drew (below_alloc (Below.refl _ _) _)) hHeld⟩⟩
      ·have e49 : (x.f3 == 49) = false := beq_eq_false_iff_ne.2 h49
       have H49 := Aside0.mk h49
       clear h49
       refine start_ (n := 33) (S := fun w' => w'.cell? ⟨wr.heap.size, 0, none⟩ = some (.string x.f0) ∧ w'.cell? ⟨wr.heap.size, 1, none⟩ = some (.string x.f1) ∧ w'.cell? ⟨wr.heap.size, 2, none⟩ = some (.string x.f2) ∧ w'.cell? ⟨wr.heap.size, 3, none⟩ = some (.int .u8 x.f3) ∧ w'.cell? ⟨wr.heap.size, 4, none⟩ = some (.int .i64 x.f4.f0) ∧ w'.cell? ⟨wr.heap.size, 5, none⟩ = some (.int .i64 x.f4.f1) ∧ w'.cell? ⟨wr.heap.size, 6, none⟩ = some (.int .i64 x.f4.f2) ∧ w'.cell? ⟨wr.heap.size, 7, none⟩ = some (.int .i64 x.f4.f3) ∧ w'.cell? ⟨wr.heap.size, 8, none⟩ = some (.slice A7 x.f5.length c7) ∧ w'.cell? (ad.add (j.toNat * 9)) = some (.string y0)) (ds := []) gq_0 (by kernel_rfl) rfl rfl ⟨by simp, by simp, by simp, by simp, by simp, by simp, by simp, by simp, by simp, acell hp0 _⟩ (fun hHeld => ?_)
       generalize hwq : (wr.alloc (.cells #[.string x.f0, .string x.f1, .string x.f2, .int .u8 x.f3, .int .i64 x.f4.f0, .int .i64 x.f4.f1, .int .i64 x.f4.f2, .int .i64 x.f4.f3, .slice A7 x.f5.length c7] 40)).drew = wq at hHeld ⊢
       refine pur_ (i := 0) (N := some 17) gq_1 (by kernel_rfl) ?_
       refine pur_ (i := 1) (N := some 18) gq_2 (by kernel_rfl) ?_
       refine pur_ (i := 2) (N := some 19) gq_3 (by kernel_rfl) ?_
       refine pur_ (i := 3) (N := some 20) gq_4 (by kernel_rfl) ?_
       refine pur_ (i := 4) (N := some 21) gq_5 (by kernel_rfl) ?_
       refine pur_ (i := 5) (N := some 22) gq_6 (by kernel_rfl) ?_
       refine pur_ (i := 6) (N := some 23) gq_7 (by kernel_rfl) ?_
       refine pur_ (i := 7) (N := some 24) gq_8 (by kernel_rfl) ?_
       refine tak_ (i := 8) (N := some 25) gq_9 (by kernel_rfl) hHeld ?_
       refine pur_ (i := 9) (N := some 26) gq_10 (by kernel_rfl) ?_
       refine tak_ (i := 10) (N := some 27) gq_11 (by kernel_rfl) hHeld ?_
       refine pur_ (i := 11) (N := some 28) gq_12 (by kernel_rfl) ?_
       refine pur_ (i := 12) (N := some 29) gq_13 (by kernel_rfl) ?_
       refine pur_ (i := 13) (N := some 30) gq_14 (by kernel_rfl) ?_
       refine pur_ (i := 14) (N := some 31) gq_15 (by kernel_rfl) ?_
       refine tak_ (i := 15) (N := some 32) gq_16 (by kernel_rfl) hHeld ?_
       refine pur_ (i := 16) (N := some 33) gq_17 (by kernel_rfl) ?_
       refine pur_ (i := 17) (N := some 34) gq_18 (by kernel_rfl) ?_
       refine pur_ (i := 18) (N := some 35) gq_19 (by kernel_rfl) ?_
       refine pur_ (i := 19) (N := some 36) gq_20 (by kernel_rfl) ?_
       refine tak_ (i := 20) (N := some 37) gq_21 (by kernel_rfl) hHeld ?_
       refine pur_ (i := 21) (N := some 38) gq_22 (by kernel_rfl) ?_
       refine tak_ (i := 22) (N := some 39) gq_23 (by kernel_rfl) hHeld ?_
       refine pur_ (i := 23) (N := some 40) gq_24 (by kernel_rfl) ?_
       refine tak_ (i := 24) (N := some 41) gq_25 (by kernel_rfl) hHeld ?_
       refine pur_ (i := 25) (N := some 42) gq_26 (by kernel_rfl) ?_
       refine tak_ (i := 26) (N := some 43) gq_27 (by kernel_rfl) hHeld ?_
       refine pur_ (i := 27) (N := some 44) gq_28 (by kernel_rfl) ?_
       refine tak_ (i := 28) (N := some 45) gq_29 (by kernel_rfl) hHeld ?_
       refine pur_ (i := 29) (N := some 46) gq_30 (by kernel_rfl) ?_
       refine one_ (i := 30) (N := some 47) gq_31 rfl rfl (by kernel_rfl) (by decide) (fun K hK => ?_)
       refine goes_ Tryd.func34 (by kernel_rfl) rfl #[.agg #[.string x.f0, .string x.f1, .int .u8 x.f3, .int .i64 x.f4.f0, .int .i64 x.f4.f1, .int .i64 x.f4.f2, .int .i64 x.f4.f3, .slice A7 x.f5.length c7]] (by rfl) rfl rfl (by first | rfl | (simp [Act.eval]; done)) ?_
       refine (bindleref08_Good.calls kg x.f0 x.f1 x.f3 x.f4.f0 x.f4.f1 x.f4.f2 x.f4.f3 A7 c7 x.f5 gd wq (by rw [← hwq]; exact Kd.C_drew (HCA.out _)) hl7' HKG.out).mono ?_
       rintro e w5 ⟨rfl, hb5⟩
       refine ⟨_, rfl, ?_⟩
       refine hK.out _ _ ⟨bkeep hb5 hHeld.1, bkeep hb5 hHeld.2.1, bkeep hb5 hHeld.2.2.1, bkeep hb5 hHeld.2.2.2.1, bkeep hb5 hHeld.2.2.2.2.1, bkeep hb5 hHeld.2.2.2.2.2.1, bkeep hb5 hHeld.2.2.2.2.2.2.1, bkeep hb5 hHeld.2.2.2.2.2.2.2.1, bkeep hb5 hHeld.2.2.2.2.2.2.2.2.1, bkeep hb5 hHeld.2.2.2.2.2.2.2.2.2⟩ (fun hHeld => ?_)
       clear hK K
       refine norm_ (a' := ?_) ?_ ?_
       rotate_left
       ·show Act.put _ (some 47) _ = _
        simp only [Act.put, List.setIfInBounds_toArray, List.set_cons_zero, List.set_cons_succ, i64_w, i32_w]
        rfl
       refine pur_ (i := 31) (N := some 48) gq_32 (by kernel_rfl) ?_
       refine pur_ (i := 32) (N := some 49) gq_33 (by kernel_rfl) ?_
       refine done_ (by kernel_rfl) ?_
       clear hw64
       go_wp2_with (fail)
       go_meet
       exact ⟨!gd, rfl, ⟨mid5_2 (by unfold headOk; rw [← HX.out, HGD.out, decide_eq_false H49.out, show lt (l[n.toNat - 1]'(by have := HNL.out; omega)).f0 x.f0 = true from (prev_lt HY.out HJ.out hls)]; simp) ((show Below wr.heap.size wr wq from by rw [← hwq]; exact below_drew (below_alloc (Below.refl _ _) _)).trans (hb5.mono (by rw [← hwq]; show wr.heap.size ≤ (wr.alloc (.cells #[.string x.f0, .string x.f1, .string x.f2, .int .u8 x.f3, .int .i64 x.f4.f0, .int .i64 x.f4.f1, .int .i64 x.f4.f2, .int .i64 x.f4.f3, .slice A7 x.f5.length c7] 40)).heap.size; rw [World.size_alloc]; omega))) hHeld⟩⟩
   case rest =>
    obtain ⟨b, rfl, HM⟩ := hcut
    obtain ⟨wm, rfl⟩ : ∃ wm : World, wm = wc := ⟨_, rfl⟩
    have HBW := Aside0.mk (HB.out.trans (HM.out.2.1.mono HB.out.size))
    cases b with
    | true =>
     go_wp2
     rw [← hQ.out]
     refine ⟨by rw [goodTree_not n.toNat HNL.out (by rw [nodeOk_head, show headOk l n.toNat HNL.out = false from by have := HM.out.1; simpa using this.symm]; rfl)]; rfl, HBW.out⟩
    | false =>
     obtain ⟨⟨b0, b1, b2, b3⟩, ⟨b4, b5, b6, b7⟩, b8⟩ := HM.out.2.2
     have hhd : headOk l n.toNat HNL.out = true := by have := HM.out.1; simpa using this.symm
     have HHD := Aside0.mk hhd
     clear hhd
     by_cases h48 : x.f3 = 48
     ·have e48 : (x.f3 != 48) = false := by rw [bne_eq_false_iff_eq]; exact h48
      have H48 := Aside0.mk h48
      clear h48
      have hns : (n + 1).toNat ≤ l.length := by omega
      have hnt : (l.take (n + 1).toNat).length = (n + 1).toNat := by rw [List.length_take]; omega
      have hCt : Kd.C k40 wm (some ad) (n + 1).toNat (l.take (n + 1).toNat) := by have := Kd.C_take (Kd.C_below HC.out HBW.out) hns; rw [hnt] at this; exact this
      have hs0 : (0 : Int) ≤ n + 1 := by omega
      have hs1 : n + 1 ≤ (c0 : Int) := by have := HC0.out; omega
      have hs2 : IntKind.i64.wrap (n + 1) = n + 1 := IntWalk.i64_in _ (by omega)
      have HT := Aside0.mk (Kd.C_F k40_heap hCt)
      have HNT := Aside0.mk hnt
      have hBlt : wr.heap.size < wm.heap.size := World.block_lt_of_cell? wm ⟨wr.heap.size, 2, none⟩ b2
      have hRF : ∀ W2, Kd.F k40 W2 (fun k => k < wm.heap.size) (some ad) (n + 1).toNat (l.take (n + 1).toNat) → Calls Tryd.prog 23 #[.slice (some ad) (n + 1).toNat c0, .string x.f2] W2 fun e W' => ∃ x' b A c, (match findF (l.take (n + 1).toNat) x.f2 with | some y => x' = y ∧ b = true | none => x' = z40 ∧ b = false) ∧ e = .returned (.tuple #[.agg (nodeCells x' (.slice A x'.f5.length c)), .bool b]) ∧ x'.f5.length ≤ c ∧ Kd.F (Kd.int .u8) W' (fun k => k < wm.heap.size ∨ W2.heap.size ≤ k) A x'.f5.length x'.f5 ∧ Below W2.heap.size W2 W' := fun W2 hC2 => by
       have h := RefFind_F (fun k => k < wm.heap.size) (some ad) c0 (l.take (n + 1).toNat) x.f2 W2 (by rw [hnt]; exact hC2) (by rw [hnt]; have := HC0.out; omega) (by rw [hnt]; omega)
       rw [hnt] at h
       exact h
      have RFC := Aside0.mk hRF
      have hne1 : ¬ wr.heap.size = wm.heap.size := by omega
      have hne2 : ¬ wm.heap.size = wr.heap.size := by omega
      clear hCt hnt hRF
      go_upto_region 10 with (fail)
      go_cut [5, 6] (fun v5 v6 wx => ∃ g y b A c, v5 = .pointer (some ⟨g, 0, none⟩) ∧ v6 = .bool b ∧ Aside0 (Mid10 l n.toNat wr.heap.size x (.slice A7 x.f5.length c7) g y b A c wm wx))
      case first =>
       go_region_held3 (fun w' => w'.cell? ⟨wr.heap.size, 2, none⟩ = some (.string x.f2)) (go_keep) ((go_at_call 23; refine (RFC.out _ (by first | exact Kd.F_drew HT.out | exact Kd.F_alloc (Kd.F_drew HT.out) _)).mono ?_; rintro e w1 ⟨y, b, A, c, hm, rfl, hlc, hCy, hb⟩; have hs2b : w1.cell? ⟨wr.heap.size, 2, none⟩ = some (.string x.f2) := (by first | exact bkeep hb (show wm.drew.cell? ⟨wr.heap.size, 2, none⟩ = _ from b2) | exact bkeep hb (acell (show wm.drew.cell? ⟨wr.heap.size, 2, none⟩ = _ from b2) _)); have HM1 := Aside0.mk hm; have HLC := Aside0.mk hlc; have HCY := Aside0.mk hCy; have HB1 := Aside0.mk hb; (first | (have hz9 : wm.heap.size < w1.heap.size := lt_of_alloc hb) | skip); obtain ⟨hcb, hfb⟩ := bcell hb; clear hm hlc hCy hb; simp only [nodeCells]))
       ·go_wp2_with (fail)
        go_meet
        exact ⟨_, y, b, A, c, rfl, rfl, ⟨mid10_a HM1.out HM.out.2.2 HB1.out HCY.out h0⟩⟩
       ·go_wp2_with (fail)
        go_meet
        exact ⟨_, y, b, A, c, rfl, rfl, ⟨mid10_b HM1.out HM.out.2.2 HB1.out HCY.out h0 rfl⟩⟩
      case rest =>
       obtain ⟨g, y, b, A, c, rfl, rfl, HM2⟩ := hcut
       have hnd := nodeOk_lead (n := n.toNat) HNL.out HX.out (fun j hj hjn => HR.out.2.2.1 j hj (by omega)) HHD.out H48.out HM2.out.1
       have HND := Aside0.mk hnd
       have HBD := Aside0.mk (HBW.out.trans (HM2.out.2.1.mono HBW.out.size))
       have hno : ∀ b', (b && leadB y x) = b' → nodeOk l n.toNat HNL.out = b' := fun b' h => hnd.trans h
       have HNO := Aside0.mk hno
       clear hnd hno b0 b1 b2 b3 b4 b5 b6 b7 b8
       obtain ⟨⟨c0_, c1_, c2_, c3_⟩, ⟨c4_, c5_, c6_, c7_⟩, c8_⟩ := HM2.out.2.2.1
       obtain ⟨⟨d0, d1, d2, d3⟩, ⟨d4, d5, d6, d7⟩, d8⟩ := HM2.out.2.2.2.1
       cases b with
       | false =>
        go_wp2
        rw [← hQ.out]
        exact ⟨by rw [goodTree_not n.toNat HNL.out (HNO.out _ rfl)]; rfl, HBD.out⟩
       | true =>
        by_cases k3 : y.f3 = 48
        ·have e3 : (y.f3 != 48) = false := by rw [bne_eq_false_iff_eq]; exact k3
         have K3 := Aside0.mk k3
         clear k3
         by_cases k2 : y.f2.toList = y.f0.toList
         ·have e2 : (y.f2.toList != y.f0.toList) = false := by rw [bne_eq_false_iff_eq]; exact k2
          have e2' : (y.f2.toList == y.f0.toList) = true := by rw [beq_iff_eq]; exact k2
          have K2 := Aside0.mk k2
          clear k2
          cases k4 : (y.f4.f0 == x.f4.f0 && (y.f4.f1 == x.f4.f1 && (y.f4.f2 == x.f4.f2 && (y.f4.f3 == x.f4.f3)))) with
          | true =>
           have e4 : (!(y.f4.f0 == x.f4.f0) || (!(y.f4.f1 == x.f4.f1) || (!(y.f4.f2 == x.f4.f2) || !(y.f4.f3 == x.f4.f3)))) = false := by simpa using k4
           have K4 := Aside0.mk k4
           clear k4
           have hsx := Kd.C_string (P := Tryd.prog) (A := A7) (c := c7) Tryd.underlying23 Tryd.underlying5 Tryd.underlying9 (Kd.C_below (Kd.C_below HC7.out HM.out.2.1) HM2.out.2.1)
           have hsy := Kd.C_string (P := Tryd.prog) (A := A) (c := c) Tryd.underlying23 Tryd.underlying5 Tryd.underlying9 HM2.out.2.2.2.2
           by_cases k5 : (strOfNums y.f5).toList = (strOfNums x.f5).toList
           ·have e5 : ((strOfNums y.f5).toList != (strOfNums x.f5).toList) = false := by rw [bne_eq_false_iff_eq]; exact k5
            have e5' : ((strOfNums y.f5).toList == (strOfNums x.f5).toList) = true := by rw [beq_iff_eq]; exact k5
            have K5 := Aside0.mk k5
            clear k5
            have hok : nodeOk l n.toNat HNL.out = true := HNO.out _ (leadB_ok K3.out K2.out K4.out K5.out)
            have hfin : RefRel l W (n + 1) wc := refRel_next HR.out HNL.out HHD.out (by rw [nodeOk_head, Bool.and_eq_true] at hok; exact hok.2) HBD.out
            have HF := Aside0.mk hfin
            clear hok hfin
            go_wp2
            go_roundg (gk - 1)
            case measure => have := HG.out; omega
            case rel => exact ⟨n + 1, by go_num, HF, ⟨by have := HG.out; omega⟩⟩
           ·have e5 : ((strOfNums y.f5).toList != (strOfNums x.f5).toList) = true := by rw [bne_iff_ne]; exact k5
            have e5' : ((strOfNums y.f5).toList == (strOfNums x.f5).toList) = false := by rw [beq_eq_false_iff_ne]; exact k5
            have K5 := Aside0.mk k5
            clear k5
            go_wp2
            rw [← hQ.out]
            exact ⟨by rw [goodTree_not n.toNat HNL.out (HNO.out _ (by unfold leadB; rw [decide_eq_false (fun h => K5.out h.2.2.2.2.2.2)]; rfl))]; rfl, HBD.out⟩
          | false =>
           have e4 : (!(y.f4.f0 == x.f4.f0) || (!(y.f4.f1 == x.f4.f1) || (!(y.f4.f2 == x.f4.f2) || !(y.f4.f3 == x.f4.f3)))) = true := by cases k5 : (!(y.f4.f0 == x.f4.f0) || (!(y.f4.f1 == x.f4.f1) || (!(y.f4.f2 == x.f4.f2) || !(y.f4.f3 == x.f4.f3)))) with | true => rfl | false => (exfalso; revert k4 k5; cases (y.f4.f0 == x.f4.f0) <;> cases (y.f4.f1 == x.f4.f1) <;> cases (y.f4.f2 == x.f4.f2) <;> cases (y.f4.f3 == x.f4.f3) <;> decide)
           have K4 := Aside0.mk k4
           clear k4
           go_wp2
           all_goals (rw [← hQ.out]; exact ⟨by rw [goodTree_not n.toNat HNL.out (HNO.out _ (leadB_4 K4.out))]; rfl, HBD.out⟩)
         ·have e2 : (y.f2.toList != y.f0.toList) = true := by rw [bne_iff_ne]; exact k2
          have e2' : (y.f2.toList == y.f0.toList) = false := by rw [beq_eq_false_iff_ne]; exact k2
          have K2 := Aside0.mk k2
          clear k2
          go_wp2
          rw [← hQ.out]
          exact ⟨by rw [goodTree_not n.toNat HNL.out (HNO.out _ (by unfold leadB; rw [decide_eq_false (fun h => K2.out h.2.1)]; rfl))]; rfl, HBD.out⟩
        ·have e3 : (y.f3 != 48) = true := by rw [bne_iff_ne]; exact k3
         have K3 := Aside0.mk k3
         clear k3
         go_wp2
         rw [← hQ.out]
         exact ⟨by rw [goodTree_not n.toNat HNL.out (HNO.out _ (by unfold leadB; rw [decide_eq_false (fun h => K3.out h.1)]; rfl))]; rfl, HBD.out⟩
     ·have e48 : (x.f3 != 48) = true := by rw [bne_iff_ne]; exact h48
      have H48 := Aside0.mk h48
      clear h48
      cases hle : x.f2.toList.isEmpty with
      | false =>
       go_wp2
       rw [← hQ.out]
       refine ⟨by rw [goodTree_not n.toNat HNL.out (by unfold nodeOk; rw [← HX.out]; unfold ledB; rw [if_neg H48.out, decide_eq_false (show ¬ x.f2.toList = [] from fun e => by rw [e] at hle; cases hle)]; simp)]; rfl, HBW.out⟩
      | true =>
       have hfin : RefRel l W (n + 1) wm := refRel_next HR.out HNL.out HHD.out (by rw [← HX.out]; unfold ledB; rw [if_neg H48.out, decide_eq_true (List.isEmpty_iff.1 hle)]) HBW.out
       go_wp2
       go_roundg (gk - 1)
       case measure => have := HG.out; omega
       case rel => exact ⟨n + 1, by go_num, ⟨hfin⟩, ⟨by have := HG.out; omega⟩⟩
  ·have c1b : decide (n < (l.length : Int)) = false := decide_eq_false hlt
   go_wp2
   rw [← hQ.out]
   refine ⟨?_, HB.out⟩
   rw [goodTree_of (fun i hi => HR.out.2.2.1 i hi (by omega))]
   rw [show decide ((l.length : Int) ≤ 4096) = decide (l.length ≤ 4096) from decide_eq_decide.2 (by omega)]
end Go.Proofs.YtfljbidecljlcaaDoor

namespace Go.Proofs.YtfljbidecljlcaaDoor.Print
open Go.RowKit Go.Proofs.YtfljbidecljlcaaDoor Go.Proofs.YtfljbidecljlcaaDoorW.PrintWords Go.Proofs.YtfljbidecljlcaaDoorW.PrintLast Go.Proofs.YtfljbidecljlcaaDoorW.PrintMore
set_option linter.unusedVariables false
def bindleref08_GoodTree.f (l : List S40) : Option Bool := if nodesZ l = true then some (goodTree l) else none
theorem bindleref08_GoodTree.calls (A0 : Option Addr) (c0 : Nat) (l0 : List S40) (r : Bool) (w : World) (hr0 : Kd.C k40 w A0 l0.length l0) (hc0 : l0.length ≤ c0) (h : bindleref08_GoodTree.f l0 = some r) :
  Calls Tryd.prog 33 #[.slice A0 l0.length c0] w fun e w' => e = .returned (.bool r) ∧ Below w.heap.size w w' := by
 unfold bindleref08_GoodTree.f at h
 split at h
 ·rename_i hc
  simp only [Option.some.injEq] at h
  subst h
  exact RefTree_calls A0 c0 l0 w hr0 hc0 ((nodesZ_iff l0).1 hc)
 ·cases h
end Go.Proofs.YtfljbidecljlcaaDoor.Print

namespace Go.Proofs.YtfljbidecljlcaaDoor.Print
open Go.RowKit Go.Proofs.YtfljbidecljlcaaDoorW.PrintWords Go.Proofs.YtfljbidecljlcaaDoorW.PrintLast Go.Proofs.YtfljbidecljlcaaDoorW.PrintMore
attribute [local go_sem] max2_int min2_int max_two min_two max_three min_three max_four min_four   -- for this text's walks alone
set_option linter.unusedVariables false
set_option linter.unusedSimpArgs false
def bindlelaw11_light.l0 : Nat → List (S40) → Int → Int → Option (Bool)
 | 0, _, _, _ => none
 | k + 1, x0, x3, x4 => if x4 < (x0.length : Int) then (if 0 ≤ x4 then (bindlelaw11_light.l0 k x0 (wrap64 (x3 + (((rd_T40 x0 x4).f5).length : Int))) (wrap64 (x4 + 1))) else (none)) else (if (x0.length : Int) ≤ 60 then (if x3 ≤ 200000 then ((bindleref08_GoodTree.f x0).bind fun t102 => (some t102)) else (some false)) else (some false))
def bindlelaw11_light.f (k : Nat) (l0 : List (S40)) : Option (Bool) := bindlelaw11_light.l0 k l0 0 0
set_option maxHeartbeats 8000000 in
set_option maxRecDepth 100000 in
theorem bindlelaw11_light.calls (k : Nat) (A0 : Option Addr) (c0 : Nat) (l0 : List (S40)) (r : Bool) (w : World) (hr0 : Kd.C k40 w A0 l0.length l0) (hc0 : l0.length ≤ c0) (h : bindlelaw11_light.f k l0 = some r) :
  Calls Tryd.prog 14 #[.slice A0 l0.length c0] w fun e w' => e = .returned (.bool r) ∧ Below w.heap.size w w' := by
 have HR0 := A0_ hr0
 have HC0 := A0_ hc0
 clear hr0 hc0
 have HB := A0_ (Below.refl w.heap.size w)
 have H : (bindlelaw11_light.l0 k l0 0 0) = some r := h
 clear h
 have H' := A0_ H
 clear H
 go_enter Tryd.func14, Tryd.ntmps14
 go_wp2
 go_loopg [3, 4] k (fun kq v3 v4 w' => ∃ (x3_1 : Int) (x4_1 : Int), v3 = .int .i64 x3_1 ∧ v4 = .int .i64 x4_1 ∧ Aside0 (bindlelaw11_light.l0 kq l0 x3_1 x4_1 = some r) ∧ Aside0 (kq ≤ k) ∧ Aside0 (Below w.heap.size w w'))
 case atStart => exact ⟨(0), (0), wr_, wr_, H', ⟨Nat.le_refl _⟩, ⟨wb_ HB.out⟩⟩
 case round =>
  clear H'
  try clear c1
  obtain ⟨x3_1, x4_1, rfl, rfl, HA, HK1, HB⟩ := hrel
  cases gk with
  | zero => exact absurd HA.out (by simp [bindlelaw11_light.l0])
  | succ k1 =>
   have H := HA.out
   clear HA
   simp only [bindlelaw11_light.l0] at H
   by_cases c2 : x4_1 < (l0.length : Int)
   ·rw [if_pos c2] at H
    have c2b0 : decide (x4_1 < (l0.length : Int)) = true := decide_eq_true c2
    clear c2
    by_cases c3 : 0 ≤ x4_1
    rotate_left
    ·rw [if_neg c3] at H
     exact absurd H (by simp)
    rw [if_pos c3] at H
    have c3b0 : decide (0 ≤ x4_1) = true := decide_eq_true c3
    clear c3
    have H' := A0_ H
    clear H
    have p101 : 0 ≤ (x4_1 : Int) := wd_
    have q101 : x4_1 < (l0.length : Int) := wd_
    obtain ⟨ad101, A101_8, c101_8, e101, hx101_0, hx101_1, hx101_2, hx101_3, hx101_4, hx101_5, hx101_6, hx101_7, hx101_8, hl101_8, hi101_8⟩ := at_T40 HR0.out x4_1 p101 q101
    cases e101
    replace hx101_0 := (HB.out.cell (World.block_lt_of_cell? w _ hx101_0)).trans hx101_0
    replace hx101_1 := (HB.out.cell (World.block_lt_of_cell? w _ hx101_1)).trans hx101_1
    replace hx101_2 := (HB.out.cell (World.block_lt_of_cell? w _ hx101_2)).trans hx101_2
    replace hx101_3 := (HB.out.cell (World.block_lt_of_cell? w _ hx101_3)).trans hx101_3
    replace hx101_4 := (HB.out.cell (World.block_lt_of_cell? w _ hx101_4)).trans hx101_4
    replace hx101_5 := (HB.out.cell (World.block_lt_of_cell? w _ hx101_5)).trans hx101_5
    replace hx101_6 := (HB.out.cell (World.block_lt_of_cell? w _ hx101_6)).trans hx101_6
    replace hx101_7 := (HB.out.cell (World.block_lt_of_cell? w _ hx101_7)).trans hx101_7
    replace hx101_8 := (HB.out.cell (World.block_lt_of_cell? w _ hx101_8)).trans hx101_8
    have HR101_8 := A0_ hi101_8
    have HC101_8 := A0_ hl101_8
    clear hi101_8 hl101_8
    replace p101 := eq_true p101
    replace q101 := eq_true q101
    go_wp2
    go_roundg k1
    case measure => have := HK1.out; omega
    case rel => exact ⟨(wrap64 (x3_1 + (((rd_T40 l0 x4_1).f5).length : Int))), (wrap64 (x4_1 + 1)), wr_, wr_, H', ⟨by have := HK1.out; omega⟩, ⟨wb_ HB.out⟩⟩
   rw [if_neg c2] at H
   have c2b0 : decide (x4_1 < (l0.length : Int)) = false := decide_eq_false c2
   clear c2
   by_cases c4 : (l0.length : Int) ≤ 60
   rotate_left
   ·rw [if_neg c4] at H
    have c4b0 : decide ((l0.length : Int) ≤ 60) = false := decide_eq_false c4
    have c4b1 : decide (l0.length ≤ 60) = false := decide_eq_false (by omega)
    clear c4
    obtain rfl := Option.some.inj H
    go_wp2
    go_ret
    exact ⟨we_, wb_ HB.out⟩
   rw [if_pos c4] at H
   have c4b0 : decide ((l0.length : Int) ≤ 60) = true := decide_eq_true c4
   have c4b1 : decide (l0.length ≤ 60) = true := decide_eq_true (by omega)
   clear c4
   by_cases c5 : x3_1 ≤ 200000
   rotate_left
   ·rw [if_neg c5] at H
    have c5b0 : decide (x3_1 ≤ 200000) = false := decide_eq_false c5
    clear c5
    obtain rfl := Option.some.inj H
    go_wp2
    go_ret
    exact ⟨we_, wb_ HB.out⟩
   rw [if_pos c5] at H
   have c5b0 : decide (x3_1 ≤ 200000) = true := decide_eq_true c5
   clear c5
   replace H := Option.bind_eq_some_iff.mp H
   obtain ⟨t102, A60, H⟩ := H
   replace H : (some t102) = some r := H
   have A6 := A0_ A60
   clear A60
   obtain rfl := Option.some.inj H
   go_wp2_with (first | (go_at_call 33; (with_reducible refine (bindleref08_GoodTree.calls _ _ l0 t102 _ ?side1 ?side2 A6.out).mono ?_); (case side1 => exact wc_ (Kd.C_below HR0.out HB.out)); (case side2 => exact HC0.out); rintro e w7 ⟨rfl, hb⟩; have n0_ := A0_ (below_step (wb_ HB.out) hb); clear HB; have HB := n0_; clear n0_; (try clear hb); (try clear hb2); (try clear hk); (try clear hi)))
   go_ret
   exact ⟨we_, wb_ HB.out⟩
end Go.Proofs.YtfljbidecljlcaaDoor.Print

namespace Go.Proofs.YtfljbidecljlcaaDoor.Print
open Go.RowKit Go.Proofs.YtfljbidecljlcaaDoorW.PrintWords Go.Proofs.YtfljbidecljlcaaDoorW.PrintLast Go.Proofs.YtfljbidecljlcaaDoorW.PrintMore
attribute [local go_sem] max2_int min2_int max_two min_two max_three min_three max_four min_four   -- for this text's walks alone
set_option linter.unusedVariables false
set_option linter.unusedSimpArgs false
def bindleref08_Paths.l0 : Nat → List (S40) → List ByteArray → Int → Option (List ByteArray)
 | 0, _, _, _ => none
 | k + 1, x0, x3, x4 => if x4 < (x0.length : Int) then (if 0 ≤ x4 then (if x3.length < 8796093022208 then (bindleref08_Paths.l0 k x0 (x3 ++ [(rd_T40 x0 x4).f0]) (wrap64 (x4 + 1))) else (none)) else (none)) else (some x3)
def bindleref08_Paths.f (k : Nat) (l0 : List (S40)) : Option (List ByteArray) := bindleref08_Paths.l0 k l0 ([] : List ByteArray) 0
set_option maxHeartbeats 8000000 in
set_option maxRecDepth 100000 in
theorem bindleref08_Paths.calls (k : Nat) (A0 : Option Addr) (c0 : Nat) (l0 : List (S40)) (r : List ByteArray) (w : World) (hr0 : Kd.C k40 w A0 l0.length l0) (hc0 : l0.length ≤ c0) (h : bindleref08_Paths.f k l0 = some r) :
  Calls Tryd.prog 40 #[.slice A0 l0.length c0] w fun e w' => ∃ v0_ : Value, e = .returned (v0_) ∧ Kd.R Kd.string 9 w' w.heap.size (fun _ => True) v0_ r ∧ Below w.heap.size w w' := by
 have HR0 := A0_ hr0
 have HC0 := A0_ hc0
 clear hr0 hc0
 have HB := A0_ (Below.refl w.heap.size w)
 have H : (bindleref08_Paths.l0 k l0 ([] : List ByteArray) 0) = some r := h
 clear h
 have H' := A0_ H
 clear H
 go_enter Tryd.func40, Tryd.ntmps40
 go_wp2
 go_loopg [3, 4] k (fun kq v3 v4 w' => ∃ (x3_1 : List ByteArray) (x4_1 : Int), v4 = .int .i64 x4_1 ∧ Aside0 (bindleref08_Paths.l0 kq l0 x3_1 x4_1 = some r) ∧ Aside0 (kq ≤ k) ∧ Aside0 (Kd.R Kd.string 9 w' w.heap.size (fun _ => True) v3 x3_1) ∧ Aside0 (Below w.heap.size w w'))
 case atStart => exact ⟨(([] : List ByteArray)), (0), wr_, H', ⟨Nat.le_refl _⟩, ⟨by first | exact Kd.R_nil _ _ _ _ _ | exact Kd.N_nil _ _ _ _ _ | exact Kd.V_nil _ _ _ _ _ | exact Kd.Q_nil _ _ _ _ _ | exact Kd.S_nil _ _ _ _ _⟩, ⟨wb_ HB.out⟩⟩
 case round =>
  clear H'
  obtain ⟨x3_1, x4_1, rfl, HA, HK1, HO_3, HB⟩ := hrel
  cases gk with
  | zero => exact absurd HA.out (by simp [bindleref08_Paths.l0])
  | succ k1 =>
   have H := HA.out
   clear HA
   simp only [bindleref08_Paths.l0] at H
   by_cases c2 : x4_1 < (l0.length : Int)
   rotate_left
   ·rw [if_neg c2] at H
    have c2b0 : decide (x4_1 < (l0.length : Int)) = false := decide_eq_false c2
    clear c2
    obtain rfl := Option.some.inj H
    go_wp2
    go_ret
    exact ⟨_, we_, wR_ HO_3.out, wb_ HB.out⟩
   rw [if_pos c2] at H
   have c2b0 : decide (x4_1 < (l0.length : Int)) = true := decide_eq_true c2
   clear c2
   by_cases c3 : 0 ≤ x4_1
   rotate_left
   ·rw [if_neg c3] at H
    exact absurd H (by simp)
   rw [if_pos c3] at H
   have c3b0 : decide (0 ≤ x4_1) = true := decide_eq_true c3
   clear c3
   by_cases c4 : x3_1.length < 8796093022208
   rotate_left
   ·rw [if_neg c4] at H
    exact absurd H (by simp)
   rw [if_pos c4] at H
   have LMc4 := A0_ c4
   clear c4
   obtain ⟨y142, hy142⟩ : ∃ y_ : List ByteArray, y_ = (x3_1 ++ [(rd_T40 l0 x4_1).f0]) := ⟨_, rfl⟩
   replace H : (bindleref08_Paths.l0 k1 l0 y142 (wrap64 (x4_1 + 1))) = some r := by first | (rw [hy142]; with_reducible exact H) | (have H2_ := (Option.bind_some _ _).symm.trans H; rw [hy142]; with_reducible exact H2_) | (have H2_ := (Option.bind_some _ _).symm.trans H; with_reducible exact H2_) | with_reducible exact H | (rw [hy142]; exact H) | exact H
   have Ny142 := A0_ hy142
   clear hy142
   have H' := A0_ H
   clear H
   have p141 : 0 ≤ (x4_1 : Int) := wd_
   have q141 : x4_1 < (l0.length : Int) := wd_
   obtain ⟨ad141, A141_8, c141_8, e141, hx141_0, hx141_1, hx141_2, hx141_3, hx141_4, hx141_5, hx141_6, hx141_7, hx141_8, hl141_8, hi141_8⟩ := at_T40 HR0.out x4_1 p141 q141
   cases e141
   replace hx141_0 := (HB.out.cell (World.block_lt_of_cell? w _ hx141_0)).trans hx141_0
   replace hx141_1 := (HB.out.cell (World.block_lt_of_cell? w _ hx141_1)).trans hx141_1
   replace hx141_2 := (HB.out.cell (World.block_lt_of_cell? w _ hx141_2)).trans hx141_2
   replace hx141_3 := (HB.out.cell (World.block_lt_of_cell? w _ hx141_3)).trans hx141_3
   replace hx141_4 := (HB.out.cell (World.block_lt_of_cell? w _ hx141_4)).trans hx141_4
   replace hx141_5 := (HB.out.cell (World.block_lt_of_cell? w _ hx141_5)).trans hx141_5
   replace hx141_6 := (HB.out.cell (World.block_lt_of_cell? w _ hx141_6)).trans hx141_6
   replace hx141_7 := (HB.out.cell (World.block_lt_of_cell? w _ hx141_7)).trans hx141_7
   replace hx141_8 := (HB.out.cell (World.block_lt_of_cell? w _ hx141_8)).trans hx141_8
   have HR141_8 := A0_ hi141_8
   have HC141_8 := A0_ hl141_8
   clear hi141_8 hl141_8
   replace p141 := eq_true p141
   replace q141 := eq_true q141
   go_wp2_with (first | ((with_reducible refine gate_builtin (b := .append) (xs := #[.tmp 11, .tmp 17]) rfl ?_); at_builtin; refine Kd.R_append Kd.string (w0 := w) w.heap.size rfl (.tmp 11) (.tmp 17) 26 9 (.string ⟨#[]⟩) 16 rfl Tryd.underlying26 info9 rfl (by decide) (by omega) u3 x3_1 ((rd_T40 l0 x4_1).f0) [.string ((rd_T40 l0 x4_1).f0)] (fun _ => True) (fun _ => False) rfl rfl ?aP (fun _ hk => hk.elim) ?aF ?aO ?aB ?aS ?aL ?_; (case aP => exact rfl); (case aB => exact (wb_ HB.out)); (case aF => exact (fun _ _ => trivial)); (case aO => exact (wR_ HO_3.out)); (case aS => exact (below_size (wb_ HB.out))); (case aL => have := LMc4.out; omega); intro v143 w5 ho hb hg hat; rw [← Ny142.out] at ho; have n0_ := A0_ (hb); have n1_ := A0_ (ho); clear HB; clear HO_3; have HB := n0_; have HO144 := n1_; clear n0_ n1_; clear ho hb hg hat))
   go_roundg k1
   case measure => have := HK1.out; omega
   case rel => exact ⟨(y142), (wrap64 (x4_1 + 1)), wr_, H', ⟨by have := HK1.out; omega⟩, ⟨wR_ HO144.out⟩, ⟨wb_ HB.out⟩⟩
end Go.Proofs.YtfljbidecljlcaaDoor.Print

namespace Go.Proofs.YtfljbidecljlcaaDoor.Print
open Go.RowKit Go.Proofs.YtfljbidecljlcaaDoorW.PrintWords Go.Proofs.YtfljbidecljlcaaDoorW.PrintLast Go.Proofs.YtfljbidecljlcaaDoorW.PrintMore
attribute [local go_sem] max2_int min2_int max_two min_two max_three min_three max_four min_four   -- for this text's walks alone
set_option linter.unusedVariables false
set_option linter.unusedSimpArgs false
abbrev q16_0 : Array Bool := #[false, false, false, false, false, false, false, false, false, false, false, false, false, false, false, false]
abbrev q16_1 : Array Bool := #[true, false, false, false, false, false, false, false, false, false, false, false, false, false, false, false]
abbrev q16_2 : Array Bool := #[true, true, false, false, false, false, false, false, false, false, false, false, false, false, false, false]
abbrev q16_3 : Array Bool := #[true, true, true, false, false, false, false, false, false, false, false, false, false, false, false, false]
abbrev q16_4 : Array Bool := #[true, true, true, true, false, false, false, false, false, false, false, false, false, false, false, false]
abbrev q16_5 : Array Bool := #[true, true, true, true, true, false, false, false, false, false, false, false, false, false, false, false]
abbrev q16_6 : Array Bool := #[true, true, true, true, true, true, false, false, false, false, false, false, false, false, false, false]
abbrev q16_7 : Array Bool := #[true, true, true, true, true, true, true, false, false, false, false, false, false, false, false, false]
abbrev q16_8 : Array Bool := #[true, true, true, true, true, true, true, false, true, false, false, false, false, false, false, false]
abbrev q16_9 : Array Bool := #[true, true, true, true, true, true, true, false, true, true, false, false, false, false, false, false]
abbrev q16_10 : Array Bool := #[true, true, true, true, true, true, true, false, true, true, true, false, false, false, false, false]
abbrev q16_11 : Array Bool := #[true, true, true, true, true, true, true, true, true, true, true, false, false, false, false, false]
abbrev q16_12 : Array Bool := #[true, true, true, true, true, true, true, true, true, true, true, true, false, false, false, false]
abbrev q16_13 : Array Bool := #[true, true, true, true, true, true, true, true, true, true, true, true, true, false, false, false]
abbrev q16_14 : Array Bool := #[true, true, true, true, true, true, true, true, true, true, true, true, true, true, false, false]
abbrev q16_15 : Array Bool := #[true, true, true, true, true, true, true, true, true, true, true, true, true, true, true, false]
abbrev q16_16 : Array Bool := #[true, true, true, true, true, true, true, true, true, true, true, true, true, true, true, true]
def bindlelaw11_mixed.l0 : Nat → List Int → List ByteArray → Int → Option (List ByteArray)
 | 0, _, _, _ => none
 | k + 1, x1, x5, x6 => if x6 < (x5.length : Int) then (if x6 < (x1.length : Int) then (if 0 ≤ x6 then (if (wrap64 ((x5.length : Int) - x6)) = 0 then (none) else (if 0 ≤ (wrap64 (x6 + (Int.tmod (wrap64 (rd x1 x6)) (wrap64 ((x5.length : Int) - x6))))) then (if (wrap64 (x6 + (Int.tmod (wrap64 (rd x1 x6)) (wrap64 ((x5.length : Int) - x6))))) < (x5.length : Int) then (bindlelaw11_mixed.l0 k x1 ((x5.set (x6 : Int).toNat (rdOf ByteArray.empty x5 (wrap64 (x6 + (Int.tmod (wrap64 (rd x1 x6)) (wrap64 ((x5.length : Int) - x6))))))).set ((wrap64 (x6 + (Int.tmod (wrap64 (rd x1 x6)) (wrap64 ((x5.length : Int) - x6))))) : Int).toNat (rdOf ByteArray.empty x5 x6)) (wrap64 (x6 + 1))) else (none)) else (none))) else (none)) else (some x5)) else (some x5)
def bindlelaw11_mixed.f (k : Nat) (l0 : List (S40)) (l1 : List Int) : Option (List ByteArray) := (bindleref08_Paths.f k l0).bind fun t145 => (bindlelaw11_mixed.l0 k l1 t145 0)
def bindlelaw11_mixed.T6 : Bool × List (List Nat × List Nat) := (true, [([], []), ([], []), ([], []), ([], []), ([], []), ([], []), ([4, 5], [4, 5]), ([6], [6]), ([], []), ([], []), ([8, 9], [8, 9]), ([10], [10]), ([0, 1, 0, 1, 4, 5, 6, 7, 11], [0, 1]), ([12, 7, 0, 1, 4, 5, 6, 7, 11], [7, 12]), ([2, 3, 0, 1, 2, 3, 4, 5, 6, 7, 8, 9, 10, 11, 12, 13], [2, 3]), ([14, 11, 13, 0, 1, 2, 3, 4, 5, 6, 7, 8, 9, 10, 11, 12, 13], [11, 14])])
def bindlelaw11_mixed.B6 : List Nat := [0, 0, 0, 0, 0, 0, 48, 112, 0, 0, 768, 1792, 4083, 8179, 16383, 32767]
theorem bindlelaw11_mixed.tab6 : rtab .any (opsOf Tryd.f16 6) = bindlelaw11_mixed.T6 := by kernel_rfl
theorem bindlelaw11_mixed.bits6 : waitsOk bindlelaw11_mixed.T6.2 bindlelaw11_mixed.B6 = true := by kernel_rfl
set_option maxHeartbeats 8000000 in
set_option maxRecDepth 100000 in
theorem bindlelaw11_mixed.calls (k : Nat) (A0 : Option Addr) (c0 : Nat) (l0 : List (S40)) (A1 : Option Addr) (c1 : Nat) (l1 : List Int) (r : List ByteArray) (w : World) (hr0 : Kd.C k40 w A0 l0.length l0) (hc0 : l0.length ≤ c0) (hr1 : Kd.C (Kd.int .u8) w A1 l1.length l1) (hc1 : l1.length ≤ c1) (h : bindlelaw11_mixed.f k l0 l1 = some r) :
  Calls Tryd.prog 16 #[.slice A0 l0.length c0, .slice A1 l1.length c1] w fun e w' => ∃ v0_ : Value, e = .returned (v0_) ∧ Kd.R Kd.string 9 w' w.heap.size (fun _ => True) v0_ r ∧ Below w.heap.size w w' := by
 have HR0 := A0_ hr0
 have HC0 := A0_ hc0
 clear hr0 hc0
 have HR1 := A0_ hr1
 have HC1 := A0_ hc1
 clear hr1 hc1
 have HB := A0_ (Below.refl w.heap.size w)
 have H : ((bindleref08_Paths.f k l0).bind fun t145 => (bindlelaw11_mixed.l0 k l1 t145 0)) = some r := h
 clear h
 replace H := Option.bind_eq_some_iff.mp H
 obtain ⟨t145, A30, H⟩ := H
 replace H : (bindlelaw11_mixed.l0 k l1 t145 0) = some r := H
 have A3 := A0_ A30
 clear A30
 have H' := A0_ H
 clear H
 go_enter Tryd.func16, Tryd.ntmps16
 go_wp2_with (first | ((with_reducible refine gate_callee (f := 40) rfl ?_); refine goesL_ (some 9) rfl rfl Tryd.func40 (by kernel_rfl) rfl #[.slice A0 l0.length c0] rfl wm_ ?_; (with_reducible refine (bindleref08_Paths.calls k _ _ l0 t145 _ ?side1 ?side2 A3.out).mono ?_); (case side1 => exact wc_ HR0.out); (case side2 => exact HC0.out); rintro e w4 ⟨v146, rfl, ho0, hb⟩; refine ⟨_, rfl, ?_⟩; have n0_ := A0_ (Kd.R_lower ho0 (below_size (wb_ HB.out))); have n1_ := A0_ (below_step (wb_ HB.out) hb); clear HB; have HO147 := n0_; have HB := n1_; clear n0_ n1_; (try clear hb); (try clear hb2); (try clear hk); (try clear hi); (try clear ho0)))
 go_loopg [6] k (fun kq v6 w' => ∃ (x5_1 : List ByteArray) (x6_1 : Int), v6 = .int .i64 x6_1 ∧ Aside0 (bindlelaw11_mixed.l0 kq l1 x5_1 x6_1 = some r) ∧ Aside0 (kq ≤ k) ∧ Aside0 (Kd.R Kd.string 9 w' w.heap.size (fun _ => True) v146 x5_1) ∧ Aside0 (Below w.heap.size w w'))
 case atStart => exact ⟨(t145), (0), wr_, H', ⟨Nat.le_refl _⟩, ⟨wR_ HO147.out⟩, ⟨wb_ HB.out⟩⟩
 case round =>
  clear H'
  try clear c1
  try clear p2
  try clear c4
  obtain ⟨x5_1, x6_1, rfl, HA, HK1, HO_5, HB⟩ := hrel
  cases gk with
  | zero => exact absurd HA.out (by simp [bindlelaw11_mixed.l0])
  | succ k1 =>
   have H := HA.out
   clear HA
   simp only [bindlelaw11_mixed.l0] at H
   by_cases c5 : x6_1 < (x5_1.length : Int)
   rotate_left
   ·rw [if_neg c5] at H
    have c5b0 : decide (x6_1 < (x5_1.length : Int)) = false := decide_eq_false c5
    clear c5
    obtain rfl := Option.some.inj H
    obtain ⟨Ao19, co19, eo19⟩ := Kd.R_slice HO_5.out
    subst eo19
    go_wp2
    go_ret
    exact ⟨_, we_, wR_ HO_5.out, wb_ HB.out⟩
   rw [if_pos c5] at H
   have c5b0 : decide (x6_1 < (x5_1.length : Int)) = true := decide_eq_true c5
   clear c5
   by_cases c6 : x6_1 < (l1.length : Int)
   rotate_left
   ·rw [if_neg c6] at H
    have c6b0 : decide (x6_1 < (l1.length : Int)) = false := decide_eq_false c6
    clear c6
    obtain rfl := Option.some.inj H
    obtain ⟨Ao18, co18, eo18⟩ := Kd.R_slice HO_5.out
    subst eo18
    go_wp2
    go_ret
    exact ⟨_, we_, wR_ HO_5.out, wb_ HB.out⟩
   rw [if_pos c6] at H
   have c6b0 : decide (x6_1 < (l1.length : Int)) = true := decide_eq_true c6
   clear c6
   by_cases c7 : 0 ≤ x6_1
   rotate_left
   ·rw [if_neg c7] at H
    exact absurd H (by simp)
   rw [if_pos c7] at H
   have c7b0 : decide (0 ≤ x6_1) = true := decide_eq_true c7
   clear c7
   by_cases c8 : (wrap64 ((x5_1.length : Int) - x6_1)) = 0
   ·rw [if_pos c8] at H
    exact absurd H (by simp)
   rw [if_neg c8] at H
   have c8b0 : ((wrap64 ((x5_1.length : Int) - x6_1)) == 0) = false := beq_eq_false_iff_ne.mpr c8
   have c8b1 : ((wrap64 ((x5_1.length : Int) - x6_1)) != 0) = true := bne_iff_ne.mpr c8
   obtain ⟨ji9, hji9⟩ : ∃ j_ : Int, (wrap64 (x6_1 + (Int.tmod (wrap64 (rd l1 x6_1)) (wrap64 ((x5_1.length : Int) - x6_1))))) = j_ := ⟨_, rfl⟩
   replace H : (if 0 ≤ (ji9) then (if (ji9) < (x5_1.length : Int) then (bindlelaw11_mixed.l0 k1 l1 ((x5_1.set (x6_1 : Int).toNat (rdOf ByteArray.empty x5_1 (ji9))).set ((ji9) : Int).toNat (rdOf ByteArray.empty x5_1 x6_1)) (wrap64 (x6_1 + 1))) else (none)) else (none)) = some r := by first | (rw [hji9] at H; exact H) | (simp only [hji9] at H ⊢; exact H)
   have hji9w : (IntKind.i64.wrap (x6_1 + (Int.tmod (wrap64 (rd l1 x6_1)) (wrap64 ((x5_1.length : Int) - x6_1))))) = ji9 := (i64_w _).trans hji9
   by_cases c10 : 0 ≤ (ji9)
   rotate_left
   ·rw [if_neg c10] at H
    exact absurd H (by simp)
   rw [if_pos c10] at H
   have c10b0 : decide (0 ≤ (ji9)) = true := decide_eq_true c10
   clear c10
   by_cases c11 : (ji9) < (x5_1.length : Int)
   rotate_left
   ·rw [if_neg c11] at H
    exact absurd H (by simp)
   rw [if_pos c11] at H
   have c11b0 : decide ((ji9) < (x5_1.length : Int)) = true := decide_eq_true c11
   clear c11
   obtain ⟨y151, hy151⟩ : ∃ y_ : List ByteArray, y_ = (x5_1.set (x6_1 : Int).toNat (rdOf ByteArray.empty x5_1 (ji9))) := ⟨_, rfl⟩
   replace H : (bindlelaw11_mixed.l0 k1 l1 (y151.set ((ji9) : Int).toNat (rdOf ByteArray.empty x5_1 x6_1)) (wrap64 (x6_1 + 1))) = some r := by first | (rw [hy151]; with_reducible exact H) | (have H2_ := (Option.bind_some _ _).symm.trans H; rw [hy151]; with_reducible exact H2_) | (have H2_ := (Option.bind_some _ _).symm.trans H; with_reducible exact H2_) | with_reducible exact H | (rw [hy151]; exact H) | exact H
   have Ny151 := A0_ hy151
   clear hy151
   obtain ⟨y152, hy152⟩ : ∃ y_ : List ByteArray, y_ = (y151.set ((ji9) : Int).toNat (rdOf ByteArray.empty x5_1 x6_1)) := ⟨_, rfl⟩
   replace H : (bindlelaw11_mixed.l0 k1 l1 y152 (wrap64 (x6_1 + 1))) = some r := by first | (rw [hy152]; with_reducible exact H) | (have H2_ := (Option.bind_some _ _).symm.trans H; rw [hy152]; with_reducible exact H2_) | (have H2_ := (Option.bind_some _ _).symm.trans H; with_reducible exact H2_) | with_reducible exact H | (rw [hy152]; exact H) | exact H
   have Ny152 := A0_ hy152
   clear hy152
   have H' := A0_ H
   clear H
   obtain ⟨Ao14, co14, eo14⟩ := Kd.R_slice HO_5.out
   subst eo14
   have p148 : 0 ≤ (x6_1 : Int) := wd_
   have q148 : x6_1 < (l1.length : Int) := wd_
   obtain ⟨ad148, e148, hx148_0⟩ := Kd.at_int HR1.out x6_1 p148 q148
   cases e148
   replace hx148_0 := (HB.out.cell (World.block_lt_of_cell? w _ hx148_0)).trans hx148_0
   replace p148 := eq_true p148
   replace q148 := eq_true q148
   try go_wp2
   have n0_ := A0_ (R1_ HO_5.out)
   have n1_ := A0_ (b1_ HB.out)
   clear HO_5
   clear HB
   have HO_5 := n0_
   have HB := n1_
   clear n0_ n1_
   have p149 : 0 ≤ ((ji9) : Int) := wd_
   have q149 : (ji9) < (x5_1.length : Int) := wd_
   obtain ⟨ad149, e149, hx149_0⟩ := Kd.at_string (Kd.R_reads' HO_5.out).2.2 (ji9) p149 q149
   cases e149
   replace p149 := eq_true p149
   replace q149 := eq_true q149
   have p150 : 0 ≤ (x6_1 : Int) := wd_
   have q150 : x6_1 < (x5_1.length : Int) := wd_
   obtain ⟨ad150, e150, hx150_0⟩ := Kd.at_string (Kd.R_reads' HO_5.out).2.2 x6_1 p150 q150
   obtain rfl : ad149 = ad150 := (by injection e150)
   replace p150 := eq_true p150
   replace q150 := eq_true q150
   have p12 : 0 ≤ (x6_1 : Int) := wd_
   have q12 : (x6_1 : Int) < ((x5_1.length : Int) : Int) := wd_
   obtain ⟨go12, co12, eo12, gb12, gl12, cl12, HG12⟩ := Kd.R_form HO_5.out (by omega)
   (first | cases eo12 | (injection eo12 with ea_ en_ ec_; (first | subst ea_ | (injection ea_ with ea_; subst ea_)); subst ec_; clear en_))
   have GB12 := A0_ gb12
   have GG12 := A0_ HG12
   clear gb12 gl12 HG12
   (first | simp only [add_plain] at hx149_0 | skip)
   (first | simp only [add_plain] at hx150_0 | skip)
   obtain ⟨hx12_0, hf12_0⟩ := Kd.R_celln (⟨#[]⟩ : ByteArray) HO_5.out (x6_1 : Int) p12 q12
   replace p12 := eq_true p12
   replace q12 := eq_true q12
   have HP16 := Kd.R_putn HO_5.out (x6_1 : Int) (rdOf ByteArray.empty x5_1 (ji9))
   rw [← Ny151.out] at HP16
   have HQ16 := A0_ HP16
   clear HP16
   have p13 : 0 ≤ ((ji9) : Int) := wd_
   have q13 : ((ji9) : Int) < ((x5_1.length : Int) : Int) := wd_
   obtain ⟨hx13_0, hf13_0⟩ := Kd.R_celln (⟨#[]⟩ : ByteArray) HQ16.out ((ji9) : Int) p13 q13
   replace p13 := eq_true p13
   replace q13 := eq_true q13
   have HP17 := Kd.R_putn HQ16.out ((ji9) : Int) (rdOf ByteArray.empty x5_1 x6_1)
   rw [← Ny152.out] at HP17
   have HQ17 := A0_ HP17
   clear HP17
   refine start_ (n := 16) (S := fun w' => w'.cell? ⟨go12, ((ji9)).toNat, none⟩ = some (.string (rdOf ByteArray.empty x5_1 (ji9))) ∧ w'.cell? ⟨go12, (x6_1).toNat, none⟩ = some (.string (rdOf ByteArray.empty x5_1 x6_1))) (ds := [13, 15]) q16_0 (by kernel_rfl) rfl rfl ⟨hx149_0, hx150_0⟩ (fun hHeld => ?_); refine with_tabW bindlelaw11_mixed.tab6 bindlelaw11_mixed.bits6 (fun HT_ HW_ => ?_)
   generalize wr.drew = w15 at HO_5 HB GG12 HQ16 HQ17 hf12_0 hf13_0 hx12_0 hx13_0 hx149_0 hx150_0 hHeld ⊢
   refine pur_ (i := 0) (N := some 34) q16_1 (any_of HT_.out (by kernel_rfl)) ?_
   refine pur_ (i := 1) (N := some 35) q16_2 (any_of HT_.out (by kernel_rfl)) ?_
   refine pur_ (i := 2) (N := some 36) q16_3 (any_of HT_.out (by kernel_rfl)) ?_
   refine pur_ (i := 3) (N := some 37) q16_4 (any_of HT_.out (by kernel_rfl)) ?_
   refine pur_ (i := 4) (N := some 38) q16_5 (any_of HT_.out (by kernel_rfl)) ?_
   refine pur_ (i := 5) (N := some 39) q16_6 (any_of HT_.out (by kernel_rfl)) ?_
   refine pur_ (i := 6) (N := some 40) q16_7 (any_of HT_.out (by kernel_rfl)) ?_
   refine pur_ (i := 8) (N := some 42) q16_8 (any_of HT_.out (by kernel_rfl)) ?_
   refine pur_ (i := 9) (N := some 43) q16_9 (any_of HT_.out (by kernel_rfl)) ?_
   refine pur_ (i := 10) (N := some 44) q16_10 (any_of HT_.out (by kernel_rfl)) ?_
   refine take_ (i := 7) (N := some 41) (v := ?_) (a' := ?_) q16_11 rfl rfl (take_ofW HT_.out HW_.out (by kernel_rfl)) (fun _ _ _ h => h) (Or.inl ⟨by rfl, ?_⟩) hHeld ?_ ?_
   rotate_left
   ·rintro w' ⟨s0, s1⟩
    go_simp
    with_reducible rfl
   rotate_left
   ·simp only [Act.put, List.setIfInBounds_toArray, List.set_cons_zero, List.set_cons_succ, i64_w, i32_w]
    rfl
   refine take_ (i := 11) (N := some 45) (v := ?_) (a' := ?_) q16_12 rfl rfl (take_ofW HT_.out HW_.out (by kernel_rfl)) (fun _ _ _ h => h) (Or.inl ⟨by rfl, ?_⟩) hHeld ?_ ?_
   rotate_left
   ·rintro w' ⟨s0, s1⟩
    go_simp
    with_reducible rfl
   rotate_left
   ·simp only [Act.put, List.setIfInBounds_toArray, List.set_cons_zero, List.set_cons_succ, i64_w, i32_w]
    rfl
   refine pur_ (i := 12) (N := some 46) q16_13 (any_of HT_.out (by kernel_rfl)) ?_
   refine last_ (i := 13) (N := none) q16_14 rfl rfl (one_of HT_.out (by kernel_rfl)) (by decide) (fun K hK => ?_)
   refine skip_ (w1 := ?_) (by rfl) rfl ?_ ?_
   rotate_left
   ·go_simp
    rfl
   refine hK.out _ _ ?_
   clear hK K
   refine pur_ (i := 14) (N := some 47) q16_15 (any_of HT_.out (by kernel_rfl)) ?_
   refine last_ (i := 15) (N := none) q16_16 rfl rfl (one_of HT_.out (by kernel_rfl)) (by decide) (fun K hK => ?_)
   refine skip_ (w1 := ?_) (by rfl) rfl ?_ ?_
   rotate_left
   ·go_simp
    rfl
   refine hK.out _ _ ?_
   clear hK K
   refine done_ (done_of HT_.out (by kernel_rfl)) ?_
   try go_wp2
   go_roundg k1
   case measure => have := HK1.out; omega
   case rel => exact ⟨(y152), (wrap64 (x6_1 + 1)), wr_, H', ⟨by have := HK1.out; omega⟩, ⟨wR_ HQ17.out⟩, ⟨wb2_ HB.out GB12.out GB12.out⟩⟩
end Go.Proofs.YtfljbidecljlcaaDoor.Print

namespace Go.Proofs.YtfljbidecljlcaaDoor
open Go.RowKit Go.Proofs.YtfljbidecljlcaaDoor.Print Go.Proofs.YtfljbidecljlcaaDoorW.PrintWords
set_option linter.unusedVariables false
theorem w_sub {a b : Nat} (h : b ≤ a) (ha : a ≤ 1000000000000) : wrap64 ((a : Int) - (b : Int)) = ((a - b : Nat) : Int) := by unfold wrap64; omega
theorem w_addn {a b : Nat} (h : a + b ≤ 4611686018427387904) : wrap64 ((a : Int) + (b : Int)) = ((a + b : Nat) : Int) := by unfold wrap64; omega
theorem w_small {x : Int} (h : 0 ≤ x ∧ x ≤ 255) : wrap64 x = x := by unfold wrap64; omega
theorem nodesZ_small {l : List Node} (hz : ∀ x ∈ l, NodeZ x) (h : l.length ≤ 1000000000000) : nodesZ l = true := (nodesZ_iff l).2 ⟨h, hz⟩
theorem light11_l (l : List Node) (hz : ∀ x ∈ l, NodeZ x) (hlen : l.length ≤ 140737488351232) : ∀ (d i : Nat) (s : Int), i + d = l.length → ∃ b, Ev (fun k => bindlelaw11_light.l0 k l s (i : Int)) b ∧ (b = true → l.length ≤ 60 ∧ goodTree l = true) := by
 intro d
 induction d with
 | zero =>
  intro i s hi
  by_cases h60 : (l.length : Int) ≤ 60
  ·by_cases hs : s ≤ 200000
   ·refine ⟨goodTree l, Ev.step (f := fun _ => some (goodTree l)) (fun k => ?_) (Ev.now _), fun h => ⟨by omega, h⟩⟩
    rw [bindlelaw11_light.l0, if_neg (by omega), if_pos h60, if_pos hs]
    unfold bindleref08_GoodTree.f
    rw [if_pos (nodesZ_small hz (by omega))]
    rfl
   ·exact ⟨false, Ev.step (f := fun _ => some false) (fun k => by rw [bindlelaw11_light.l0, if_neg (by omega), if_pos h60, if_neg hs]) (Ev.now _), fun h => by cases h⟩
  ·exact ⟨false, Ev.step (f := fun _ => some false) (fun k => by rw [bindlelaw11_light.l0, if_neg (by omega), if_neg h60]) (Ev.now _), fun h => by cases h⟩
 | succ d ih =>
  intro i s hi
  have hil : i < l.length := by omega
  obtain ⟨b, h1, h2⟩ := ih (i + 1) (wrap64 (s + ((rd_T40 l (i : Int)).f5.length : Int))) (by omega)
  refine ⟨b, Ev.step (fun k => ?_) h1, h2⟩
  rw [bindlelaw11_light.l0, if_pos (by omega), if_pos (by omega), w_succ (by omega)]
theorem light11 (l : List Node) (hz : ∀ x ∈ l, NodeZ x) (hlen : l.length ≤ 140737488351232) : ∃ b, Ev (fun k => bindlelaw11_light.f k l) b ∧ (b = true → l.length ≤ 60 ∧ goodTree l = true) := light11_l l hz hlen l.length 0 0 (by omega)
theorem paths_l (l : List Node) (hlen : l.length ≤ 1000000000000) : ∀ (d i : Nat), i + d = l.length → Ev (fun k => bindleref08_Paths.l0 k l ((l.take i).map (fun x => x.f0)) (i : Int)) (l.map (fun x => x.f0)) := by
 intro d
 induction d with
 | zero =>
  intro i hi
  rw [List.take_of_length_le (by omega)]
  exact Ev.step (f := fun _ => some (l.map (fun x => x.f0))) (fun k => by rw [bindleref08_Paths.l0, if_neg (by omega)]) (Ev.now _)
 | succ d ih =>
  intro i hi
  have hil : i < l.length := by omega
  refine Ev.step (fun k => ?_) (ih (i + 1) (by omega))
  rw [bindleref08_Paths.l0, if_pos (by omega), if_pos (by omega), rdN_nat l i hil, if_pos (by rw [List.length_map, List.length_take]; omega), w_succ (by omega)]
  rw [List.take_add_one, List.getElem?_eq_getElem hil, List.map_append]
  rfl
theorem paths_eq (l : List Node) (hlen : l.length ≤ 1000000000000) : Ev (fun k => bindleref08_Paths.f k l) (l.map (fun x => x.f0)) := paths_l l hlen l.length 0 (by omega)
theorem mixed_l (u : List Int) (hu : ∀ x ∈ u, 0 ≤ x ∧ x ≤ 255) : ∀ (d i : Nat) (p : List ByteArray), i + d = p.length → p.length ≤ 1000000000000 → ∃ q, Ev (fun k => bindlelaw11_mixed.l0 k u p (i : Int)) q ∧ q.Perm p := by
 intro d
 induction d with
 | zero =>
  intro i p hi _
  exact ⟨p, Ev.step (f := fun _ => some p) (fun k => by rw [bindlelaw11_mixed.l0, if_neg (by omega)]) (Ev.now _), List.Perm.refl _⟩
 | succ d ih =>
  intro i p hi hp
  have hil : i < p.length := by omega
  by_cases hiu : i < u.length
  ·have hx : rd u (i : Int) = u[i] := by
    unfold rd
    rw [List.getD_eq_getElem?_getD, Int.toNat_natCast, List.getElem?_eq_getElem hiu]
    rfl
   have hb := hu u[i] (List.getElem_mem hiu)
   obtain ⟨m, hm⟩ : ∃ m : Nat, (m : Int) = Int.tmod u[i] ((p.length - i : Nat) : Int) := ⟨(Int.tmod u[i] ((p.length - i : Nat) : Int)).toNat, by
    have := Int.tmod_nonneg ((p.length - i : Nat) : Int) hb.1
    omega⟩
   have hml : m < p.length - i := by
    have := Int.tmod_lt_of_pos u[i] (show (0 : Int) < ((p.length - i : Nat) : Int) by omega)
    omega
   have hkl : i + m < p.length := by omega
   have hperm : ((p.set i p[i + m]).set (i + m) p[i]).Perm p := List.set_set_perm hil hkl
   obtain ⟨q, h1, h2⟩ := ih (i + 1) ((p.set i p[i + m]).set (i + m) p[i]) (by rw [List.length_set, List.length_set]; omega) (by rw [List.length_set, List.length_set]; omega)
   refine ⟨q, Ev.step (fun k => ?_) h1, h2.trans hperm⟩
   rw [bindlelaw11_mixed.l0, if_pos (by omega), if_pos (by omega), if_pos (by omega), hx, w_sub (by omega) hp, w_small hb, if_neg (by omega), ← hm, w_addn (by omega), if_pos (by omega), if_pos (by omega), rdS_nat p i hil, rdS_nat p (i + m) hkl, w_succ (by omega)]
   rfl
  ·exact ⟨p, Ev.step (f := fun _ => some p) (fun k => by rw [bindlelaw11_mixed.l0, if_pos (by omega), if_neg (by omega)]) (Ev.now _), List.Perm.refl _⟩
theorem mixed_eq (l : List Node) (u : List Int) (hlen : l.length ≤ 1000000000000) (hu : ∀ x ∈ u, 0 ≤ x ∧ x ≤ 255) : ∃ q, Ev (fun k => bindlelaw11_mixed.f k l u) q ∧ q.Perm (l.map (fun x => x.f0)) := by
 obtain ⟨q, h1, h2⟩ := mixed_l u hu (l.map (fun x => x.f0)).length 0 (l.map (fun x => x.f0)) (by omega) (by rw [List.length_map]; exact hlen)
 exact ⟨q, Ev.bind (f := fun k t => bindlelaw11_mixed.l0 k u t 0) (paths_eq l hlen) h1, h2⟩
end Go.Proofs.YtfljbidecljlcaaDoor

namespace Go.Proofs.YtfljbidecljlcaaDoor
open Go.RowKit Go.Maps Go.Proofs.YtfljbidecljlcaaDoor.Print Go.Proofs.YtfljbidecljlcaaDoorW.PrintWords Go.Proofs.YtfljbidecljlcaaDoorW.PrintLast Go.Proofs.YtfljbidecljlcaaDoorW.PrintMore
set_option linter.unusedVariables false
set_option linter.unusedSimpArgs false
theorem zeroStr (w : World) : (zeroValue 9).run Tryd.prog w = .ok (.string ⟨#[]⟩) w := by kernel_rfl
theorem zeroBool (w : World) : (zeroValue 4).run Tryd.prog w = .ok (.bool false) w := by kernel_rfl
def firstV (f : List (List UInt8 × ByteArray)) : List UInt8 → Option Value := fun s => (lk f s).map Value.string
theorem firstV_put (f : List (List UInt8 × ByteArray)) (s : List UInt8) (v : ByteArray) (t : List UInt8) : putS (firstV f) s (.string v) t = firstV ((s, v) :: f) t := by
 unfold putS firstV
 rw [lk]
 by_cases h : t = s
 ·rw [if_pos h, if_pos h]; rfl
 ·rw [if_neg h, if_neg h]
theorem gcell {W w1 : World} {b : Nat} (hg : W.grownBy w1 (some b)) : (∀ g o, g < W.heap.size → g ≠ b → w1.cell? ⟨g, o, none⟩ = W.cell? ⟨g, o, none⟩) ∧ (∀ g o, g < W.heap.size → g ≠ b → w1.frozen? ⟨g, o, none⟩ = W.frozen? ⟨g, o, none⟩) := by
 constructor
 ·intro g o h hne
  have := hg.block g h (by simpa using fun e => hne e)
  unfold World.cell?
  dsimp only
  rw [this]
 ·intro g o h hne
  have := hg.block g h (by simpa using fun e => hne e)
  unfold World.frozen?
  dsimp only
  rw [this]
theorem map_put {P : Program} {K : TypeId} {w : World} {b n : Nat} {f : List UInt8 → Option Value} (h : MapS P K w b n f) (g j : Nat) (hg : b < g) (u : Value) : MapS P K (w.setCell ⟨g, j, none⟩ u) b n f :=
 h.setCell (a := ⟨g, j, none⟩) (by show b ≠ g; omega) u
theorem int_kept {P : Program} {K : TypeId} {w w1 : World} {b n0 : Nat} {f : List UInt8 → Option Value} (hM : MapS P K w b n0 f) (hg : w.grownBy w1 (some b)) {k : IntKind} {A : Option Addr} {n : Nat} {xs : List Int} (h : Kd.C (Kd.int k) w A n xs) : Kd.C (Kd.int k) w1 A n xs := by
 obtain ⟨D, ⟨es, clock, hb, _⟩, _⟩ := hM
 refine ⟨h.1, h.2.1, fun hn => ?_⟩
 obtain ⟨ad, e, hc⟩ := h.2.2 hn
 refine ⟨ad, e, fun j p hj => ?_⟩
 obtain ⟨c, hs, hr, hcell⟩ := hc j p hj
 refine ⟨c, hs, hr, fun i u hu => ?_⟩
 have h1 := hcell i u hu
 have hlt : (ad.add (j * Kd.sz (Kd.int k) + i)).block < w.heap.size := by
  unfold World.cell? at h1
  rcases Nat.lt_or_ge (ad.add (j * Kd.sz (Kd.int k) + i)).block w.heap.size with h2 | h2
  ·exact h2
  ·rw [Array.getElem?_eq_none (by omega)] at h1; cases h1
 have hne : (ad.add (j * Kd.sz (Kd.int k) + i)).block ≠ b := by
  intro e2
  unfold World.cell? at h1
  rw [e2, hb] at h1
  cases h1
 rw [← h1]
 unfold World.cell?
 rw [hg.block _ hlt (by simpa using hne)]
theorem grown_add {W w w' : World} {row : Option Nat} (h : W.grownBy w row) (hb : Below W.heap.size w w') : W.grownBy w' row :=
 ⟨hb.os.trans h.os, hb.tape.trans h.tape, hb.output.trans h.output, Nat.le_trans h.size hb.size, fun k hk hr => (hb.block k hk).trans (h.block k hk hr)⟩
theorem grown_put {W w : World} {row : Option Nat} (h : W.grownBy w row) (g j : Nat) (hg : W.heap.size ≤ g) (u : Value) : W.grownBy (w.setCell ⟨g, j, none⟩ u) row := grown_add h (below_put (Below.refl _ _) g j hg u)
def memCells (m : Mem) (v : Value) : Array Value := #[.string m.f0, .string m.f1, .int .u8 m.f2, .int .i64 m.f3.f0, .int .i64 m.f3.f1, .int .i64 m.f3.f2, .int .i64 m.f3.f3, v]
set_option maxRecDepth 100000 in
set_option maxHeartbeats 2000000 in
theorem Member_calls (b k : Nat) (f : List (List UInt8 × ByteArray)) (x : Node) (A : Option Addr) (c : Nat) (W : World) (hM : MapS Tryd.prog 9 W b k (firstV f)) (hk : k < 1000000000000) (hC : Kd.C (Kd.int .u8) W A x.f5.length x.f5) (hz : NodeZ x) :
  Calls Tryd.prog 41 #[.map (some b), .agg (nodeCells x (.slice A x.f5.length c))] W fun e W' => ∃ v, e = .returned (.agg (memCells (memF f x).1 v)) ∧ Kd.R (Kd.int .u8) 5 W' W.heap.size (fun _ => True) v (memF f x).1.f4 ∧
   MapS Tryd.prog 9 W' b (k + 1) (firstV (memF f x).2) ∧ W.grownBy W' (some b) := by
 have hb : b < W.heap.size := hM.lt
 have hs2 : x.f2.size ≤ maxLen := by have := hz.2.2.1; unfold maxLen; omega
 have hlook := fun o1 o2 o3 => (((hM.alloc o1).alloc o2).alloc o3).look_ok Tryd.underlying9 Tryd.underlying62 (zeroStr _) hs2
 have HM := Aside0.mk hM
 have HC := Aside0.mk hC
 have HZ := Aside0.mk hz
 clear hM hC hz
 generalize hpost : (fun (e : Ending) (W' : World) => ∃ v, e = .returned (.agg (memCells (memF f x).1 v)) ∧ Kd.R (Kd.int .u8) 5 W' W.heap.size (fun _ => True) v (memF f x).1.f4 ∧
   MapS Tryd.prog 9 W' b (k + 1) (firstV (memF f x).2) ∧ W.grownBy W' (some b)) = Q
 have hQ := Aside0.mk hpost
 clear hpost
 unfold nodeCells
 by_cases h48 : x.f3 = 48
 ·have e48 : (x.f3 == 48) = true := beq_iff_eq.2 h48
  cases ht : (firstV f x.f2.data.toList) with
  | some v =>
   obtain ⟨q, rfl, hq⟩ : ∃ q, v = Value.string q ∧ lk f x.f2.data.toList = some q := by
    unfold firstV at ht
    cases hk : lk f x.f2.data.toList with
    | none => rw [hk] at ht; cases ht
    | some q => rw [hk] at ht; cases ht; exact ⟨q, rfl, rfl⟩
   simp only [ht, Option.getD_some, Option.isSome_some] at hlook
   have HQL := Aside0.mk hq
   have H48 := Aside0.mk h48
   clear ht hq h48
   go_enter Tryd.func41, Tryd.ntmps41
   go_wp2
   have hmf : memF f x = (⟨x.f0, q, 49, x.f4, []⟩, f) := by unfold memF; rw [if_pos H48.out]; simp only [HQL.out]
   refine bodyPost_ret (v := .agg (memCells (memF f x).1 (.slice none 0 0))) (by simp [results, Tryd.results41, go_sem, memCells, hmf]) rfl ?_
   rw [← hQ.out]
   refine ⟨.slice none 0 0, rfl, by rw [hmf]; exact Kd.R_nil _ _ _ _ _, ?_, grown_of_below ?_ _⟩
   ·rw [hmf]
    refine MapS.mono ?_ (Nat.le_succ k)
    repeat (first | with_reducible refine MapS.alloc ?_ _ | with_reducible refine map_put ?_ _ _ (by omega) _)
    exact HM.out
   ·repeat (first | with_reducible refine below_alloc ?_ _ | with_reducible refine below_put ?_ _ _ (by omega) _)
    exact Below.refl _ _
  | none =>
   have hq : lk f x.f2.data.toList = none := by
    unfold firstV at ht
    cases hk : lk f x.f2.data.toList with
    | none => rfl
    | some q => rw [hk] at ht; cases ht
   simp only [ht, Option.getD_none, Option.isSome_none] at hlook
   have HQL := Aside0.mk hq
   have H48 := Aside0.mk h48
   clear ht hq h48
   have hmf : memF f x = (⟨x.f0, x.f1, 48, x.f4, x.f5⟩, (x.f2.data.toList, x.f0) :: f) := by unfold memF; rw [if_pos H48.out]; simp only [HQL.out]
   have HMF := Aside0.mk hmf
   clear hmf
   have hMa := fun o1 o2 o3 => ((HM.out.alloc o1).alloc o2).alloc o3
   have HMA := Aside0.mk hMa
   clear hMa
   have hn0 : ¬ W.heap.size = b := by omega
   have hn1 : ¬ W.heap.size + 1 = b := by omega
   have hn2 : ¬ W.heap.size + 2 = b := by omega
   go_enter Tryd.func41, Tryd.ntmps41
   go_wp2_with (first
    | (at_mapUpdate; refine MapS.wpput (HMA.out _ _ _) rfl _ _ _ rfl Tryd.underlying9 Tryd.underlying62 (by unfold maxLen; omega) rfl rfl hs2 rfl ?_; intro w5 hM5 hturn5; obtain ⟨hc5, hf5⟩ := gcell hturn5.grown; have hz5 := hturn5.grown.size; simp only [World.size_alloc] at hz5; have hp0 : W.heap.size < w5.heap.size := (by omega); have hp1 : W.heap.size + 1 < w5.heap.size := (by omega); have hp2 : W.heap.size + 1 + 1 < w5.heap.size := (by omega); have HM5 := Aside0.mk hM5; have HG5 := Aside0.mk hturn5.grown; clear hM5 hturn5)
    | (go_at_call 59; refine (Clone_calls A c x.f5 _ (int_kept (HMA.out _ _ _) HG5.out (Kd.C_alloc (Kd.C_alloc (Kd.C_alloc HC.out _) _) _)) (HZ.out.2.2.2)).mono ?_; rintro e w6 ⟨v, rfl, hR6, hb6⟩; obtain ⟨Av, cv, rfl, hlv, hCv⟩ := Kd.R_reads hR6; clear hlv hCv; obtain ⟨hc6, hf6⟩ := bcell hb6; have HR6 := Aside0.mk hR6; have HB6 := Aside0.mk hb6; clear hR6 hb6))
   refine bodyPost_ret (v := .agg (memCells (memF f x).1 (.slice Av x.f5.length cv))) (by simp [results, Tryd.results41, go_sem, hc6, hc5, hn0, hn1, hn2, hp0, hp1, hp2, memCells, HMF.out, H48.out]) rfl ?_
   rw [← hQ.out]
   refine ⟨.slice Av x.f5.length cv, rfl, ?_, ?_, ?_⟩
   ·rw [HMF.out]
    refine Kd.R_lower (base := w5.heap.size) (Kd.R_mono (ok := fun k => w5.heap.size ≤ k) ?_ (fun _ _ => trivial)) (by omega)
    repeat (with_reducible refine row_put ?_ _ _ (by omega) _)
    exact Kd.R_mono (Kd.R_bound HR6.out) (fun k hk => hk.2.1)
   ·rw [HMF.out]
    refine MapS.ext ?_ (firstV_put f x.f2.data.toList x.f0)
    repeat (with_reducible refine map_put ?_ _ _ (by omega) _)
    exact HM5.out.below HB6.out
   ·repeat (with_reducible refine grown_put ?_ _ _ (by omega) _)
    refine grown_add ?_ (HB6.out.mono (by omega))
    refine World.grownBy.trans (grown_of_below ?_ _) HG5.out
    repeat (first | with_reducible refine below_alloc ?_ _ | with_reducible refine below_put ?_ _ _ (by omega) _)
    exact Below.refl _ _
 ·have e48 : (x.f3 == 48) = false := beq_eq_false_iff_ne.2 h48
  have hmf : memF f x = (⟨x.f0, x.f1, x.f3, x.f4, x.f5⟩, f) := by unfold memF; rw [if_neg h48]
  have HMF := Aside0.mk hmf
  clear hmf h48
  go_enter Tryd.func41, Tryd.ntmps41
  go_wp2_with (go_at_call 59; refine (Clone_calls A c x.f5 _ (Kd.C_alloc (Kd.C_alloc (Kd.C_alloc HC.out _) _) _) (HZ.out.2.2.2)).mono ?_; rintro e w6 ⟨v, rfl, hR6, hb6⟩; obtain ⟨Av, cv, rfl, hlv, hCv⟩ := Kd.R_reads hR6; clear hlv hCv; obtain ⟨hc6, hf6⟩ := bcell hb6; have HR6 := Aside0.mk hR6; have HB6 := Aside0.mk hb6; clear hR6 hb6)
  refine bodyPost_ret (v := .agg (memCells (memF f x).1 (.slice Av x.f5.length cv))) (by simp [results, Tryd.results41, go_sem, hc6, memCells, HMF.out]) rfl ?_
  rw [← hQ.out]
  refine ⟨.slice Av x.f5.length cv, rfl, ?_, ?_, ?_⟩
  ·rw [HMF.out]
   have hR6 := HR6.out
   simp only [World.size_alloc] at hR6
   refine Kd.R_lower (base := W.heap.size + 1 + 1 + 1) (Kd.R_mono (ok := fun k => W.heap.size + 1 + 1 + 1 ≤ k) ?_ (fun _ _ => trivial)) (by omega)
   repeat (with_reducible refine row_put ?_ _ _ (by omega) _)
   exact Kd.R_mono (Kd.R_bound hR6) (fun k hk => hk.2.1)
  ·rw [HMF.out]
   refine MapS.mono ?_ (Nat.le_succ k)
   repeat (with_reducible refine map_put ?_ _ _ (by omega) _)
   exact (((HM.out.alloc _).alloc _).alloc _).below HB6.out
  ·repeat (with_reducible refine grown_put ?_ _ _ (by omega) _)
   refine grown_add ?_ (HB6.out.mono (by simp only [World.size_alloc]; omega))
   refine grown_of_below ?_ _
   repeat (first | with_reducible refine below_alloc ?_ _ | with_reducible refine below_put ?_ _ _ (by omega) _)
   exact Below.refl _ _
end Go.Proofs.YtfljbidecljlcaaDoor

namespace Go.Proofs.YtfljbidecljlcaaDoor
open Go.RowKit Go.Maps Go.Proofs.YtfljbidecljlcaaDoor.Print Go.Proofs.YtfljbidecljlcaaDoorW.PrintWords Go.Proofs.YtfljbidecljlcaaDoorW.PrintLast Go.Proofs.YtfljbidecljlcaaDoorW.PrintMore
set_option linter.unusedVariables false
set_option linter.unusedSimpArgs false
def seenV (f : List ByteArray) : List UInt8 → Option Value := fun s => if f.any (fun q => decide (q.toList = s)) = true then some (.bool true) else none
theorem seenV_put (f : List ByteArray) (p : ByteArray) (t : List UInt8) : putS (seenV f) p.data.toList (.bool true) t = seenV (p :: f) t := by
 unfold putS seenV
 rw [List.any_cons, Lib.toList_data]
 by_cases h : t = p.data.toList
 ·rw [if_pos h, if_pos (by simp [h])]
 ·rw [if_neg h, decide_eq_false (fun e => h e.symm), Bool.false_or]
theorem findF_some {l : List Node} {p : ByteArray} {x : Node} (h : findF l p = some x) : x ∈ l ∧ x.f0.toList = p.toList := by
 unfold findF at h
 exact ⟨List.mem_of_find?_eq_some h, by simpa using List.find?_some h⟩
theorem foldlM_take {α β : Type} (g : β → α → Option β) (z : β) (l : List α) (i : Nat) (hi : i < l.length) {f : β} (h : (l.take i).foldlM g z = some f) : (l.take (i + 1)).foldlM g z = g f l[i] := by
 rw [List.take_add_one, List.getElem?_eq_getElem hi, List.foldlM_append, h]
 simp
theorem foldlM_none {α β : Type} (g : β → α → Option β) (z : β) (l : List α) (i : Nat) (h : (l.take i).foldlM g z = none) : l.foldlM g z = none := by
 rw [← List.take_append_drop i l, List.foldlM_append, h]
 rfl
theorem members_stop (l : List Node) (order : List ByteArray) (i : Nat) (hi : i < order.length) {s : MemSt} (h : (order.take i).foldlM (stepM l) ⟨[], [], []⟩ = some s) (hs : stepM l s order[i] = none) : membersF l order = ([], 1) := by
 unfold membersF
 split
 ·rfl
 ·rw [foldlM_none (stepM l) _ order (i + 1) (by rw [foldlM_take _ _ _ _ hi h, hs])]
theorem members_end (l : List Node) (order : List ByteArray) (hl : order.length = l.length) {s : MemSt} (h : (order.take order.length).foldlM (stepM l) ⟨[], [], []⟩ = some s) : membersF l order = (s.out, 0) := by
 rw [List.take_length] at h
 unfold membersF
 rw [if_neg (fun e => e hl), h]
theorem memb_keep {W wr w1 w2 w3 : World} {o : Obj} {v : Value} {xs : List Mem} (hN : Kd.N k45 45 wr W.heap.size (fun k => W.heap.size + 2 ≤ k) v xs) (hB : Below W.heap.size W wr) (hw : W.heap.size + 2 ≤ wr.heap.size) (hb1 : Below wr.heap.size wr w1) (hg2 : (w1.alloc o).grownBy w2 (some (W.heap.size + 1))) (hg3 : w2.grownBy w3 (some W.heap.size)) :
  Kd.N k45 45 w3 W.heap.size (fun k => W.heap.size + 2 ≤ k) v xs ∧ Below W.heap.size W w3 ∧ wr.heap.size ≤ w2.heap.size ∧ w2.heap.size ≤ w3.heap.size ∧ (∀ k, v.ownBlock = some k → W.heap.size + 2 ≤ k ∧ k < wr.heap.size) := by
 have h1 := hb1.size
 have h2 := hg2.size
 have h3 := hg3.size
 rw [World.size_alloc] at h2
 refine ⟨Kd.N_grown (Kd.N_grown (Kd.N_alloc (Kd.N_below hN hb1) _) hg2 (fun k hk e => by cases e; omega)) hg3 (fun k hk e => by cases e; omega), ?_, by omega, h3, fun k hk => ⟨hN.1 k hk, Kd.N_lt hN k hk⟩⟩
 have hB1 := (hB.trans (hb1.mono hB.size)).alloc (by omega) o
 have hB2 := hB1.grown hg2 hB1.size (fun j hj => by cases hj; omega)
 exact hB2.grown hg3 hB2.size (fun j hj => by cases hj; exact Nat.le_refl _)
def MembRel (l : List Node) (order : List ByteArray) (W : World) (i : Int) (v : Value) (wr : World) : Prop :=
 0 ≤ i ∧ i ≤ order.length ∧ (∃ s, (order.take i.toNat).foldlM (stepM l) ⟨[], [], []⟩ = some s ∧ s.out.length = i.toNat ∧ MapS Tryd.prog 9 wr W.heap.size i.toNat (firstV s.first) ∧
  MapS Tryd.prog 9 wr (W.heap.size + 1) i.toNat (seenV s.seen) ∧ Kd.N k45 45 wr W.heap.size (fun k => W.heap.size + 2 ≤ k) v s.out) ∧ Below W.heap.size W wr ∧ W.heap.size + 2 ≤ wr.heap.size
set_option maxRecDepth 100000 in
set_option maxHeartbeats 2000000 in
theorem Members_calls (A0 : Option Addr) (c0 : Nat) (l : List Node) (A1 : Option Addr) (c1 : Nat) (order : List ByteArray) (W : World) (hC : Kd.C k40 W A0 l.length l) (hD : Kd.C Kd.string W A1 order.length order) (hr : riseB l = true) (hz : NodesZ l) :
  Calls Tryd.prog 17 #[.slice A0 l.length c0, .slice A1 order.length c1] W fun e W' => ∃ v, e = .returned (.tuple #[v, .int .i64 (membersF l order).2]) ∧ Kd.V k45 45 W' W.heap.size (fun k => W.heap.size ≤ k) v (membersF l order).1 ∧ Below W.heap.size W W' := by
 have hmm := @run_makeMap Tryd.prog
 have cF := fun p W2 (h : Kd.C k40 W2 A0 l.length l) => Find_calls A0 c0 l p W2 h hr hz
 have HC := Aside0.mk hC
 have HD := Aside0.mk hD
 have HZ := Aside0.mk hz
 have HFN := Aside0.mk cF
 have hlen : (l.length : Int) ≤ 1000000000000 := by have := hz.1; omega
 clear hC hz cF hr hD
 generalize hpost : (fun (e : Ending) (W' : World) => ∃ v, e = .returned (.tuple #[v, .int .i64 (membersF l order).2]) ∧ Kd.V k45 45 W' W.heap.size (fun k => W.heap.size ≤ k) v (membersF l order).1 ∧ Below W.heap.size W W') = Q
 have hQ := Aside0.mk hpost
 clear hpost
 by_cases hne : order.length = l.length
 case neg =>
  have hb : ((order.length : Int) != (l.length : Int)) = true := by rw [bne_iff_ne]; omega
  have HNE := Aside0.mk hne
  clear hne
  go_enter Tryd.func17, Tryd.ntmps17
  go_wp2
  rw [← hQ.out]
  have he : membersF l order = ([], 1) := by unfold membersF; rw [if_pos HNE.out]
  exact ⟨.slice none 0 0, by rw [he]; rfl, by rw [he]; exact Kd.V_nil _ _ _ _ _, Below.refl _ _⟩
 case pos =>
  have hb : ((order.length : Int) != (l.length : Int)) = false := by rw [bne_eq_false_iff_eq]; omega
  have hlo : (order.length : Int) ≤ 1000000000000 := by omega
  have HE := Aside0.mk hne
  clear hne
  go_enter Tryd.func17, Tryd.ntmps17
  go_wp2
  go_loopw [22, 8] (fun i o wr => ∃ n : Int, i = .int .i64 n ∧ Aside0 (MembRel l order W n o wr)) (fun i _ _ => (order.length - (intOf i)).toNat)
  case atStart =>
   refine ⟨0, rfl, ⟨⟨by omega, by omega, ⟨⟨[], [], []⟩, rfl, rfl, ?_, ?_, Kd.N_nil _ _ _ _ _⟩, ?_, by simp⟩⟩⟩
   ·exact ((MapS.made _ _ _).ext (fun s => rfl)).alloc _
   ·have h := MapS.made Tryd.prog 9 (W.alloc (.map #[] 0))
    rw [World.size_alloc] at h
    exact h.ext (fun s => rfl)
   ·exact ((Below.refl _ _).alloc (Nat.le_refl _) _).alloc (by simp) _
  case round =>
   obtain ⟨n, rfl, HR⟩ := hrel
   have h0 := HR.out.1
   have h1 := HR.out.2.1
   obtain ⟨s, hs, hsl, hM1, hM2, hN⟩ := HR.out.2.2.1
   have hB := HR.out.2.2.2.1
   have hw2 := HR.out.2.2.2.2
   have HB := Aside0.mk hB
   have HS := Aside0.mk hs
   have HM1 := Aside0.mk hM1
   have HM2 := Aside0.mk hM2
   have HNN := Aside0.mk hN
   obtain ⟨Ao, co, rfl⟩ := Kd.N_slice hN
   have HSL := Aside0.mk hsl
   clear hs hM1 hM2 hN hsl
   by_cases hlt : n < (order.length : Int)
   ·have c1b : decide (n < (order.length : Int)) = true := decide_eq_true hlt
    obtain ⟨ad, rfl, x0⟩ := Kd.at_string (Kd.C_below HD.out hB) n h0 hlt
    have hx : rdOf ByteArray.empty order n = order[n.toNat]'(by omega) := by
     unfold rdOf
     rw [List.getD_eq_getElem?_getD, List.getElem?_eq_getElem (by omega)]
     rfl
    generalize rdOf ByteArray.empty order n = p at hx x0
    have HX := Aside0.mk hx
    have HCw := Aside0.mk (Kd.C_below HC.out hB)
    clear hx hB
    cases hfp : findF l p with
    | none =>
     have HFP := Aside0.mk hfp
     clear hfp
     go_wp2_with (go_at_call 36; refine (HFN.out p _ HCw.out).mono ?_; rintro e w1 ⟨x, b, v, hm, rfl, hR1, hb1⟩; rw [HFP.out] at hm; obtain ⟨rfl, rfl⟩ := hm; obtain ⟨Av, cv, rfl, hlv, hCv⟩ := Kd.R_reads hR1; clear hlv hCv hR1; have HB1 := Aside0.mk hb1; clear hb1; simp only [nodeCells])
     rw [← hQ.out]
     have he : membersF l order = ([], 1) := members_stop l order n.toNat (by omega) HS.out (by rw [← HX.out]; unfold stepM; rw [HFP.out])
     refine ⟨.slice none 0 0, by rw [he]; rfl, by rw [he]; exact Kd.V_nil _ _ _ _ _, ?_⟩
     have hB1 := HB.out.trans (HB1.out.mono HB.out.size)
     repeat (first | with_reducible refine below_put ?_ _ _ (by have := hB1.size; simp; omega) _ | with_reducible refine Below.alloc ?_ hB1.size _)
     exact hB1
    | some y =>
     obtain ⟨hyl, hyp⟩ := findF_some hfp
     have hyz := HZ.out.2 _ hyl
     have hps : p.size ≤ maxLen := by
      have h2 : p.size = y.f0.size := by
       have := congrArg List.length hyp
       rw [Lib.toList_data, Lib.toList_data] at this
       rw [Array.length_toList, Array.length_toList] at this
       exact this.symm
      have := hyz.1
      unfold maxLen; omega
     have HFP := Aside0.mk hfp
     have HYZ := Aside0.mk hyz
     clear hfp hyl hyp hyz
     cases hsn : seenV s.seen p.data.toList with
     | some u =>
      obtain rfl : u = .bool true := by
       unfold seenV at hsn
       split at hsn
       ·cases hsn; rfl
       ·cases hsn
      have hany : s.seen.any (fun q => decide (q.toList = p.toList)) = true := by
       unfold seenV at hsn
       rw [← Lib.toList_data] at hsn
       split at hsn
       ·assumption
       ·cases hsn
      have HAN := Aside0.mk hany
      have HSN := Aside0.mk hsn
      clear hany hsn
      go_wp2_with (go_at_call 36; refine (HFN.out p _ HCw.out).mono ?_; rintro e w1 ⟨x, b, v, hm, rfl, hR1, hb1⟩; rw [HFP.out] at hm; obtain ⟨rfl, rfl⟩ := hm; obtain ⟨Av, cv, rfl, hlv, hCv⟩ := Kd.R_reads hR1; clear hlv hCv hR1; have HB1 := Aside0.mk hb1; have hlook := fun o => ((HM2.out.below hb1).alloc o).look Tryd.underlying9 Tryd.underlying63 (zeroBool _) hps; simp only [HSN.out, Option.getD_some] at hlook; clear hb1; simp only [nodeCells])
      rw [← hQ.out]
      have he : membersF l order = ([], 1) := members_stop l order n.toNat (by omega) HS.out (by rw [← HX.out]; unfold stepM; rw [HFP.out]; dsimp only; rw [if_pos HAN.out])
      refine ⟨.slice none 0 0, by rw [he]; rfl, by rw [he]; exact Kd.V_nil _ _ _ _ _, ?_⟩
      have hB1 := HB.out.trans (HB1.out.mono HB.out.size)
      repeat (first | with_reducible refine below_put ?_ _ _ (by have := hB1.size; simp; omega) _ | with_reducible refine Below.alloc ?_ hB1.size _)
      exact hB1
     | none =>
      have hany : ¬ s.seen.any (fun q => decide (q.toList = p.toList)) = true := by
       unfold seenV at hsn
       rw [← Lib.toList_data] at hsn
       split at hsn
       ·cases hsn
       ·assumption
      have HAN := Aside0.mk hany
      have HSN := Aside0.mk hsn
      clear hany hsn
      have hne1 : ¬ W.heap.size = W.heap.size + 1 := by omega
      go_wp2_with (first
       | (go_at_call 36; refine (HFN.out p _ HCw.out).mono ?_; rintro e w1 ⟨x, b, v, hm, rfl, hR1, hb1⟩; rw [HFP.out] at hm; obtain ⟨rfl, rfl⟩ := hm; obtain ⟨Av, cv, rfl, hlv, hCv⟩ := Kd.R_reads hR1; clear hlv hR1; have hlook := fun o => ((HM2.out.below hb1).alloc o).look Tryd.underlying9 Tryd.underlying63 (zeroBool _) hps; simp only [HSN.out, Option.getD_none] at hlook; have hM2a := fun o => (HM2.out.below hb1).alloc o; have hM1a := fun o => (HM1.out.below hb1).alloc o; have HMA := Aside0.mk hM2a; have HMB := Aside0.mk hM1a; have HCV := Aside0.mk hCv; have HB1 := Aside0.mk hb1; have hz1 : W.heap.size + 2 ≤ w1.heap.size := (by have := hb1.size; omega); have hnb : ¬ w1.heap.size = W.heap.size + 1 := (by omega); clear hb1 hM2a hM1a hCv; simp only [nodeCells])
       | (at_mapUpdate; refine MapS.wpput (HMA.out _) rfl _ _ _ rfl Tryd.underlying9 Tryd.underlying63 (by unfold maxLen; omega) rfl rfl hps rfl ?_; intro w2 hM2 hturn; obtain ⟨hc2, hf2⟩ := gcell hturn.grown; have hz2 := hturn.grown.size; simp only [World.size_alloc] at hz2; have hM1c := (HMB.out _).kept hturn.grown (by simp); have hCc := int_kept (HMA.out _) hturn.grown (Kd.C_alloc HCV.out _); have HM1c := Aside0.mk hM1c; have HCc := Aside0.mk hCc; have HM2c := Aside0.mk hM2; have HG2 := Aside0.mk hturn.grown; clear hM2 hturn hM1c hCc)
       | (go_at_call 41; refine (Member_calls W.heap.size n.toNat s.first x Av cv _ HM1c.out (by omega) HCc.out HYZ.out).mono ?_; rintro e w3 ⟨v3, rfl, hR3, hM3, hg3⟩; obtain ⟨A3, c3, rfl, hl3, hC3⟩ := Kd.R_reads hR3; have HL3 := Aside0.mk hl3; clear hC3 hl3; have HR3 := Aside0.mk hR3; have HM3 := Aside0.mk hM3; have HG3 := Aside0.mk hg3; clear hR3 hM3 hg3; simp only [memCells])
       | (at_builtin; obtain ⟨hN3, hB3, hz12, hz23, hob⟩ := memb_keep HNN.out HB.out hw2 HB1.out HG2.out HG3.out; have hFK : Kd.FK k45 w3 (fun k => w2.heap.size ≤ k ∧ k < w3.heap.size) (memF s.first x).1 [.string (memF s.first x).1.f0, .string (memF s.first x).1.f1, .int .u8 (memF s.first x).1.f2, .int .i64 (memF s.first x).1.f3.f0, .int .i64 (memF s.first x).1.f3.f1, .int .i64 (memF s.first x).1.f3.f2, .int .i64 (memF s.first x).1.f3.f3, .slice A3 (memF s.first x).1.f4.length c3] := k45_mkF w3 _ _ HL3.out (Kd.R_F (Kd.R_mono (Kd.R_bound HR3.out) (fun k hk => ⟨hk.2.1, hk.2.2.1⟩))); refine Kd.N_append k45 (w0 := W) W.heap.size rfl _ _ 28 45 (.agg #[(.string ⟨#[]⟩), (.string ⟨#[]⟩), (.int .u8 0), (.int .i64 0), (.int .i64 0), (.int .i64 0), (.int .i64 0), (.slice none 0 0)]) 96 rfl Tryd.underlying28 info45 rfl (by decide) (by decide) (.slice Ao s.out.length co) s.out (memF s.first x).1 [.string (memF s.first x).1.f0, .string (memF s.first x).1.f1, .int .u8 (memF s.first x).1.f2, .int .i64 (memF s.first x).1.f3.f0, .int .i64 (memF s.first x).1.f3.f1, .int .i64 (memF s.first x).1.f3.f2, .int .i64 (memF s.first x).1.f3.f3, .slice A3 (memF s.first x).1.f4.length c3] (fun k => W.heap.size + 2 ≤ k) (fun k => w2.heap.size ≤ k ∧ k < w3.heap.size) rfl rfl hFK (fun k hk => ⟨by have := hk.1; omega, fun e => by have := (hob k e.symm).2; have := hk.1; omega⟩) (fun k hk => by omega) hN3 hB3 (by omega) (by have := HSL.out; omega) ?_; intro v4 w4 hN4 hB4 hg4 hat4; have hne : ∀ k, k < W.heap.size + 2 → some k ≠ (Value.slice Ao s.out.length co).ownBlock := (fun k hk e => by have := (hob k e.symm).1; omega); have hM4 := HM3.out.kept hg4 (hne _ (by omega)); have hM4b := (HM2c.out.kept HG3.out (by simp)).kept hg4 (hne _ (by omega)); have HN4 := Aside0.mk hN4; have HB4 := Aside0.mk hB4; have HM4 := Aside0.mk hM4; have HM4b := Aside0.mk hM4b; have hz4 : W.heap.size + 2 ≤ w4.heap.size := (by have := hg4.size; omega); clear hN4 hB4 hM4 hM4b hg4 hat4 hN3 hB3 hFK hob hne))
      have hfin : MembRel l order W (n + 1) v4 w4 := by
       refine ⟨by omega, by omega, ⟨⟨p :: s.seen, (memF s.first x).2, s.out ++ [(memF s.first x).1]⟩, ?_, ?_, ?_, ?_, HN4.out⟩, HB4.out, hz4⟩
       ·rw [show (n + 1).toNat = n.toNat + 1 from by omega, foldlM_take _ _ _ n.toNat (by omega) HS.out, ← HX.out]
        unfold stepM
        rw [HFP.out]
        dsimp only
        rw [if_neg HAN.out]
       ·have := HSL.out
        simp only [List.length_append, List.length_cons, List.length_nil]
        omega
       ·rw [show (n + 1).toNat = n.toNat + 1 from by omega]
        exact HM4.out
       ·rw [show (n + 1).toNat = n.toNat + 1 from by omega]
        exact HM4b.out.ext (fun t => seenV_put s.seen p t)
      go_roundw
      case rel => exact ⟨n + 1, by go_num, ⟨hfin⟩⟩
      case measure => simp [intOf]; omega
   ·have c1b : decide (n < (order.length : Int)) = false := decide_eq_false hlt
    go_wp2
    rw [← hQ.out]
    have he : membersF l order = (s.out, 0) := members_end l order HE.out (by rw [show order.length = n.toNat from by omega]; exact HS.out)
    refine ⟨_, by rw [he], ?_, HB.out⟩
    rw [he]
    exact Kd.V_mono (Kd.N_V HNN.out) (fun k hk => by omega)
end Go.Proofs.YtfljbidecljlcaaDoor

namespace Go.Proofs.YtfljbidecljlcaaDoor
open Go.RowKit Go.Maps Go.Proofs.YtfljbidecljlcaaDoor.Print Go.Proofs.YtfljbidecljlcaaDoorW.PrintWords Go.Proofs.YtfljbidecljlcaaDoorW.PrintLast Go.Proofs.YtfljbidecljlcaaDoorW.PrintMore
set_option linter.unusedVariables false
set_option linter.unusedSimpArgs false
abbrev cq_0 : Array Bool := #[false, false, false, false, false, false, false, false, false, false, false, false]
abbrev cq_1 : Array Bool := #[true, false, false, false, false, false, false, false, false, false, false, false]
abbrev cq_2 : Array Bool := #[true, true, false, false, false, false, false, false, false, false, false, false]
abbrev cq_3 : Array Bool := #[true, true, true, false, false, false, false, false, false, false, false, false]
abbrev cq_4 : Array Bool := #[true, true, true, true, false, false, false, false, false, false, false, false]
abbrev cq_5 : Array Bool := #[true, true, true, true, true, false, false, false, false, false, false, false]
abbrev cq_6 : Array Bool := #[true, true, true, true, true, false, true, false, false, false, false, false]
abbrev cq_7 : Array Bool := #[true, true, true, true, true, true, true, false, false, false, false, false]
abbrev cq_8 : Array Bool := #[true, true, true, true, true, true, true, true, false, false, false, false]
abbrev cq_9 : Array Bool := #[true, true, true, true, true, true, true, true, true, false, false, false]
abbrev cq_10 : Array Bool := #[true, true, true, true, true, true, true, true, true, true, false, false]
abbrev cq_11 : Array Bool := #[true, true, true, true, true, true, true, true, true, true, true, false]
abbrev cq_12 : Array Bool := #[true, true, true, true, true, true, true, true, true, true, true, true]
theorem zeroI64 (w : World) : (zeroValue 3).run Tryd.prog w = .ok (.int .i64 0) w := by kernel_rfl
def intsV (f : List (List UInt8 × Int)) : List UInt8 → Option Value := fun s => (lkI f s).map (Value.int .i64)
theorem intsV_put (f : List (List UInt8 × Int)) (s : List UInt8) (v : Int) (t : List UInt8) : putS (intsV f) s (.int .i64 v) t = intsV ((s, v) :: f) t := by
 unfold putS intsV
 rw [lkI]
 by_cases h : t = s
 ·rw [if_pos h, if_pos h]; rfl
 ·rw [if_neg h, if_neg h]
theorem infoRow : (Tryd.prog.info? 26).map (fun i => (i.zero, i.size, i.bytes)) = some (some (.slice none 0 0), 1, 24) := by kernel_rfl
theorem setCells_one (w : World) (g o : Nat) (v : Value) : w.setCells g o [v] = w.setCell ⟨g, o, none⟩ v := rfl
theorem row_turn {W1 : World} {base g N cap : Nat} {ok : Nat → Prop} {xs : List (List ByteArray)} (h : Kd.S (Kd.slice 9 Kd.string) 26 W1 base ok (.slice (some ⟨g, 0, none⟩) N cap) xs) (hok : ∀ k, W1.heap.size ≤ k → ok k) (hgl : g < W1.heap.size) (i : Int) (h0 : 0 ≤ i) (h1 : i < N) :
  ∃ (oki : Nat → Prop) (ve : Value), W1.cell? ⟨g, i.toNat, none⟩ = some ve ∧ W1.frozen? ⟨g, i.toNat, none⟩ = false ∧ Kd.R Kd.string 9 W1 base oki ve (xs.getD i.toNat []) ∧ (∀ k, oki k → ok k ∧ k ≠ g ∧ k < W1.heap.size) ∧
   ∀ w2 v1 ys, Kd.R Kd.string 9 w2 base (fun k => oki k ∨ W1.heap.size ≤ k) v1 ys → W1.grownBy w2 ve.ownBlock → Kd.S (Kd.slice 9 Kd.string) 26 (w2.setCell ⟨g, i.toNat, none⟩ v1) base ok (.slice (some ⟨g, 0, none⟩) N cap) (xs.set i.toNat ys) := by
 have h' := Kd.S_mono (ok' := fun k => ok k ∧ ¬ W1.heap.size ≤ k) (Kd.S_bound h) (fun k hk => ⟨hk.1, by have := hk.2.2.1; omega⟩)
 obtain ⟨oki, c, hcl, hM, hcc, hfr, hoki, hH⟩ := Kd.S_elem h' [] i h0 h1
 obtain ⟨ve, rfl, hR⟩ := hM
 refine ⟨oki, ve, ?_, ?_, hR, fun k hk => ⟨(hoki k hk).1.1, (hoki k hk).2, by have := (hoki k hk).1.2; omega⟩, fun w2 v1 ys hR1 hg => ?_⟩
 ·have := hcc 0 ve rfl
  simpa [Kd.slice] using this
 ·have := hfr 0
  simpa [Kd.slice] using this
 ·have hH2 := Kd.H_grown hH hg (fun k hk => hR.1 k hk)
  obtain ⟨h3, _⟩ := Kd.S_seg (okp := fun k => oki k ∨ W1.heap.size ≤ k) (okg := fun k => W1.heap.size ≤ k) hH2 h0 h1 (seg := [v1]) (j := 0) (x' := ys) (Nat.le_refl 1) ⟨v1, rfl, hR1⟩ (fun k hk => hk) (fun k hk => ⟨hok k hk, by omega⟩)
  rw [setCells_one] at h3
  simpa [Kd.slice] using h3
theorem rcell {W w1 : World} {row : Option Nat} (hg : W.grownBy w1 row) (g o : Nat) (h : g < W.heap.size) (hne : some g ≠ row) : w1.cell? ⟨g, o, none⟩ = W.cell? ⟨g, o, none⟩ := World.cell?_of_block (a := ⟨g, o, none⟩) (hg.block g h hne)
theorem rfrozen {W w1 : World} {row : Option Nat} (hg : W.grownBy w1 row) (g o : Nat) (h : g < W.heap.size) (hne : some g ≠ row) : w1.frozen? ⟨g, o, none⟩ = W.frozen? ⟨g, o, none⟩ := World.frozen?_of_block (a := ⟨g, o, none⟩) (hg.block g h hne)
def ClsOk (i : Nat) (s : ClsSt) : Prop := s.out.length ≤ i ∧ (∀ k n, lkI s.by_ k = some n → 0 ≤ n ∧ n < s.out.length) ∧ ∀ c ∈ s.out, c.length ≤ i
theorem ClsOk.step {i : Nat} {s : ClsSt} (h : ClsOk i s) (x : Node) : ClsOk (i + 1) (stepC s x) := by
 obtain ⟨h1, h2, h3⟩ := h
 unfold stepC
 split
 ·split
  ·rename_i n hn
   obtain ⟨h4, h5⟩ := h2 _ _ hn
   refine ⟨by rw [List.length_set]; omega, fun k m hm => by rw [List.length_set]; exact h2 k m hm, fun c hc => ?_⟩
   rcases List.mem_or_eq_of_mem_set hc with hc | rfl
   ·have := h3 c hc; omega
   ·rw [List.length_append, List.length_singleton, List.getD_eq_getElem?_getD, List.getElem?_eq_getElem (by omega)]
    have := h3 _ (List.getElem_mem (l := s.out) (n := n.toNat) (by omega))
    simp only [Option.getD_some]
    omega
  ·refine ⟨by rw [List.length_append, List.length_singleton]; omega, fun k m hm => ?_, fun c hc => ?_⟩
   ·rw [List.length_append, List.length_singleton]
    rw [lkI] at hm
    split at hm
    ·cases hm; omega
    ·have := h2 k m hm; omega
   ·rcases List.mem_append.1 hc with hc | hc
    ·have := h3 c hc; omega
    ·rw [List.mem_singleton.1 hc, List.length_singleton]; omega
 ·exact ⟨by omega, h2, fun c hc => by have := h3 c hc; omega⟩
def ClsRel (l : List Node) (W : World) (i : Int) (v : Value) (wr : World) : Prop :=
 0 ≤ i ∧ i ≤ l.length ∧ (∃ s, (l.take i.toNat).foldl stepC ⟨[], []⟩ = s ∧ ClsOk i.toNat s ∧ MapS Tryd.prog 9 wr W.heap.size i.toNat (intsV s.by_) ∧ Kd.S (Kd.slice 9 Kd.string) 26 wr W.heap.size (fun k => W.heap.size + 1 ≤ k) v s.out) ∧
  Below W.heap.size W wr ∧ W.heap.size + 1 ≤ wr.heap.size
set_option maxRecDepth 100000 in
set_option maxHeartbeats 2000000 in
theorem Classes_calls (A0 : Option Addr) (c0 : Nat) (l : List Node) (W : World) (hC : Kd.C k40 W A0 l.length l) (hz : NodesZ l) :
  Calls Tryd.prog 24 #[.slice A0 l.length c0] W fun e W' => ∃ v, e = .returned v ∧ Kd.S (Kd.slice 9 Kd.string) 26 W' W.heap.size (fun _ => True) v (classesF l) ∧ Below W.heap.size W W' := by
 have hmm := @run_makeMap Tryd.prog
 have HC := Aside0.mk hC
 have HZ := Aside0.mk hz
 have hlen : (l.length : Int) ≤ 1000000000000 := by have := hz.1; omega
 clear hC hz
 generalize hpost : (fun (e : Ending) (W' : World) => ∃ v, e = .returned v ∧ Kd.S (Kd.slice 9 Kd.string) 26 W' W.heap.size (fun _ => True) v (classesF l) ∧ Below W.heap.size W W') = Q
 have hQ := Aside0.mk hpost
 clear hpost
 go_enter Tryd.func24, Tryd.ntmps24
 go_wp2
 go_loopw [12, 4] (fun i o wr => ∃ n : Int, i = .int .i64 n ∧ Aside0 (ClsRel l W n o wr)) (fun i _ _ => (l.length - (intOf i)).toNat)
 case atStart =>
  refine ⟨0, rfl, ⟨⟨by omega, by omega, ⟨⟨[], []⟩, rfl, ⟨by simp, fun k n h => (by cases h), fun c hc => (by cases hc)⟩, ?_, Kd.S_nil _ _ _ _ _⟩, ?_, by simp⟩⟩⟩
  ·exact (MapS.made _ _ _).ext (fun s => rfl)
  ·exact (Below.refl _ _).alloc (Nat.le_refl _) _
 case round =>
  obtain ⟨n, rfl, HR⟩ := hrel
  have h0 := HR.out.1
  have h1 := HR.out.2.1
  obtain ⟨s, hs, hok, hM, hS⟩ := HR.out.2.2.1
  have hB := HR.out.2.2.2.1
  have hw1 := HR.out.2.2.2.2
  have HB := Aside0.mk hB
  have HS := Aside0.mk hs
  have HOK := Aside0.mk hok
  have HM := Aside0.mk hM
  have HSS := Aside0.mk hS
  obtain ⟨Ao, co, rfl⟩ := Kd.S_slice hS
  clear hs hok hM hS
  by_cases hlt : n < (l.length : Int)
  ·obtain ⟨ad, A7, c7, rfl, x0, x1, x2, x3, x4, x5, x6, x7, x8, hl7, hC7⟩ := at_T40 (Kd.C_below HC.out hB) n h0 hlt
   have hx := rdN_at l n h0 hlt
   have hxz : NodeZ (rd_T40 l n) := by rw [hx]; exact HZ.out.2 _ (List.getElem_mem _)
   generalize rd_T40 l n = x at hx hxz x0 x1 x2 x3 x4 x5 x6 x7 x8 hl7 hC7
   have HX := Aside0.mk hx
   have hs2 : x.f2.size ≤ maxLen := by have := hxz.2.2.1; unfold maxLen; omega
   have c1b : decide (n < (l.length : Int)) = true := decide_eq_true hlt
   have hstep : (l.take (n + 1).toNat).foldl stepC ⟨[], []⟩ = stepC s x := by
    rw [show (n + 1).toNat = n.toNat + 1 from by omega, List.take_add_one, List.getElem?_eq_getElem (by omega), List.foldl_append, HS.out, hx]
    rfl
   have HST := Aside0.mk hstep
   clear hx hxz hC7 hl7 hB hstep
   by_cases h48 : x.f3 = 48
   ·have e48 : (x.f3 != 48) = false := by rw [bne_eq_false_iff_eq]; exact h48
    have H48 := Aside0.mk h48
    clear h48
    have hlook := fun o => (HM.out.alloc o).look_ok Tryd.underlying9 Tryd.underlying68 (zeroI64 _) hs2
    cases ht : (intsV s.by_ x.f2.data.toList) with
    | some v =>
     obtain ⟨q, rfl, hq⟩ : ∃ q, v = Value.int .i64 q ∧ lkI s.by_ x.f2.data.toList = some q := by
      unfold intsV at ht
      cases hk : lkI s.by_ x.f2.data.toList with
      | none => rw [hk] at ht; cases ht
      | some q => rw [hk] at ht; cases ht; exact ⟨q, rfl, rfl⟩
     simp only [ht, Option.getD_some, Option.isSome_some] at hlook
     have HQ := Aside0.mk hq
     obtain ⟨hq0, hq1⟩ := HOK.out.2.1 _ _ hq
     clear ht hq
     obtain ⟨g, cap, hv, hg0, hg1, _⟩ := Kd.S_form HSS.out (by omega)
     cases hv
     have hgW : W.heap.size + 1 ≤ g := by
      obtain ⟨f, hh⟩ := HSS.out
      exact hh.1 g rfl
     have hturn := fun o => row_turn (Kd.S_alloc HSS.out o) (fun k hk => by rw [World.size_alloc] at hk; omega) (by rw [World.size_alloc]; omega) q hq0 (by omega)
     obtain ⟨oki, ve, hc1, hf1, hR1, hoki, hback⟩ := hturn (.cells #[.string x.f0, .string x.f1, .string x.f2, .int .u8 x.f3, .int .i64 x.f4.f0, .int .i64 x.f4.f1, .int .i64 x.f4.f2, .int .i64 x.f4.f3, .slice A7 x.f5.length c7] 40)
     have hcl := HOK.out.2.2 (s.out.getD q.toNat []) (by rw [List.getD_eq_getElem?_getD, List.getElem?_eq_getElem (by omega)]; exact List.getElem_mem _)
     generalize hys : s.out.getD q.toNat [] = ys at hR1 hcl
     obtain ⟨Ae, ce, rfl⟩ := Kd.R_slice hR1
     have hRd := Kd.R_mono (ok' := fun k => oki k ∨ (wr.alloc (.cells #[.string x.f0, .string x.f1, .string x.f2, .int .u8 x.f3, .int .i64 x.f4.f0, .int .i64 x.f4.f1, .int .i64 x.f4.f2, .int .i64 x.f4.f3, .slice A7 x.f5.length c7] 40)).heap.size ≤ k) (Kd.R_drew hR1) (fun k hk => Or.inl hk)
     have hBd := below_drew ((HB.out.alloc HB.out.size (.cells #[.string x.f0, .string x.f1, .string x.f2, .int .u8 x.f3, .int .i64 x.f4.f0, .int .i64 x.f4.f1, .int .i64 x.f4.f2, .int .i64 x.f4.f3, .slice A7 x.f5.length c7] 40)))
     have hnb : ∀ k, wr.heap.size = k ∨ g = k → some k ≠ (Value.slice Ae ys.length ce).ownBlock := fun k hk => by
      rcases hk with rfl | rfl
      ·exact Kd.R_ne (cells := #[.string x.f0, .string x.f1, .string x.f2, .int .u8 x.f3, .int .i64 x.f4.f0, .int .i64 x.f4.f1, .int .i64 x.f4.f2, .int .i64 x.f4.f3, .slice A7 x.f5.length c7]) (t := 40) hR1 (blk_new _ _) (by decide)
      ·exact fun e => (hoki _ (hR1.1 _ e.symm)).2.1 rfl
     have hnm : some W.heap.size ≠ (Value.slice Ae ys.length ce).ownBlock := fun e => by
      have := (hoki _ (hR1.1 _ e.symm)).1
      omega
     have HRd := Aside0.mk hRd
     have HBd := Aside0.mk hBd
     have HNB := Aside0.mk hnb
     have HYS := Aside0.mk hys
     have HBK := Aside0.mk hback
     clear hR1 hoki hback hturn hRd hBd hnb hys
     have hgne : ¬ g = wr.heap.size := by omega
     go_upto_region 12 with (fail)
     refine start_ (n := 12) (S := fun w' => w'.cell? ⟨g, q.toNat, none⟩ = some (.slice Ae ys.length ce) ∧ w'.cell? ⟨wr.heap.size, 0, none⟩ = some (.string x.f0)) (ds := [11]) cq_0 (by kernel_rfl) rfl rfl ⟨hc1, by simp⟩ (fun hHeld => ?_)
     generalize hwq : (wr.alloc (.cells #[.string x.f0, .string x.f1, .string x.f2, .int .u8 x.f3, .int .i64 x.f4.f0, .int .i64 x.f4.f1, .int .i64 x.f4.f2, .int .i64 x.f4.f3, .slice A7 x.f5.length c7] 40)).drew = wq at hHeld ⊢
     have hzq : wq.heap.size = wr.heap.size + 1 := by rw [← hwq]; show (wr.alloc (.cells #[.string x.f0, .string x.f1, .string x.f2, .int .u8 x.f3, .int .i64 x.f4.f0, .int .i64 x.f4.f1, .int .i64 x.f4.f2, .int .i64 x.f4.f3, .slice A7 x.f5.length c7] 40)).heap.size = _; rw [World.size_alloc]
     rw [hwq] at HRd HBd
     refine pur_ (i := 0) (N := some 37) cq_1 (by kernel_rfl) ?_
     refine pur_ (i := 1) (N := some 38) cq_2 (by kernel_rfl) ?_
     refine pur_ (i := 2) (N := some 39) cq_3 (by kernel_rfl) ?_
     refine pur_ (i := 3) (N := some 40) cq_4 (by kernel_rfl) ?_
     refine pur_ (i := 4) (N := some 41) cq_5 (by kernel_rfl) ?_
     refine pur_ (i := 6) (N := some 43) cq_6 (by kernel_rfl) ?_
     refine tak_ (i := 5) (N := some 42) cq_7 (by kernel_rfl) hHeld ?_
     refine tak_ (i := 7) (N := some 44) cq_8 (by kernel_rfl) hHeld ?_
     refine one_ (i := 8) (N := some 45) cq_9 rfl rfl (by kernel_rfl) (by decide) (fun K hK => ?_)
     refine value_ (w1 := ?_) (v := ?_) (by rfl) rfl ?_ ?_
     rotate_left 2
     ·go_simp
      constructor
      ·rfl
      ·rfl
     refine hK.out _ _ ⟨acell hHeld.1 _, acell hHeld.2 _⟩ (fun hHeld2 => ?_)
     clear hK K
     refine norm_ (a' := ?_) ?_ ?_
     rotate_left
     ·show Act.put _ (some 45) _ = _
      simp only [Act.put, List.setIfInBounds_toArray, List.set_cons_zero, List.set_cons_succ, i64_w, i32_w]
      rfl
     refine one_ (i := 9) (N := some 46) cq_10 rfl rfl (by kernel_rfl) (by decide) (fun K hK => ?_)
     refine Kd.R_append_step Kd.string (w0 := W) (W := wq) W.heap.size (by rfl) (.tmp 42) (.tmp 45) 26 9 (.string ⟨#[]⟩) 16 rfl Tryd.underlying26 info9 rfl (by decide) (by decide) (.slice Ae ys.length ce) ys x.f0 [.string x.f0] (fun k => oki k ∨ (wr.alloc (.cells #[.string x.f0, .string x.f1, .string x.f2, .int .u8 x.f3, .int .i64 x.f4.f0, .int .i64 x.f4.f1, .int .i64 x.f4.f2, .int .i64 x.f4.f3, .slice A7 x.f5.length c7] 40)).heap.size ≤ k) (fun _ => False) (by rfl) (by rw [hzq]; rfl) rfl (fun _ h => h.elim) (fun k hk => Or.inr (by rw [hzq] at hk; rw [World.size_alloc]; exact hk)) HRd.out HBd.out (below_size HBd.out) (by omega) ?_
     intro v1 w1 ho hb hg hat
     obtain ⟨A1, c1, rfl⟩ := Kd.R_slice ho
     have k1 := (rcell hg g q.toNat (by omega) (HNB.out _ (Or.inr rfl))).trans hHeld.1
     have k2 := (rcell hg wr.heap.size 0 (by omega) (HNB.out _ (Or.inl rfl))).trans hHeld.2
     have k3 : w1.frozen? ⟨g, q.toNat, none⟩ = false := (rfrozen hg g q.toNat (by omega) (HNB.out _ (Or.inr rfl))).trans (by rw [← hwq]; exact hf1)
     have hg1 : (wr.alloc (.cells #[.string x.f0, .string x.f1, .string x.f2, .int .u8 x.f3, .int .i64 x.f4.f0, .int .i64 x.f4.f1, .int .i64 x.f4.f2, .int .i64 x.f4.f3, .slice A7 x.f5.length c7] 40)).grownBy w1 (Value.slice Ae ys.length ce).ownBlock := by rw [← hwq] at hg; exact ⟨hg.os, hg.tape, hg.output, hg.size, hg.block⟩
     have HO := Aside0.mk ho
     have HB2 := Aside0.mk hb
     have HG := Aside0.mk hg1
     clear ho hb hg hat hg1
     refine hK.out _ _ ⟨k1, k2⟩ (fun hHeld3 => ?_)
     clear hK K
     refine norm_ (a' := ?_) ?_ ?_
     rotate_left
     ·show Act.put _ (some 46) _ = _
      simp only [Act.put, List.setIfInBounds_toArray, List.set_cons_zero, List.set_cons_succ, i64_w, i32_w]
      rfl
     refine pur_ (i := 10) (N := some 47) cq_11 (by kernel_rfl) ?_
     refine last_ (i := 11) (N := none) cq_12 rfl rfl (by kernel_rfl) (by decide) (fun K hK => ?_)
     refine skip_ (w1 := ?_) (by rfl) rfl ?_ ?_
     rotate_left
     ·go_simp
      rfl
     refine hK.out _ _ ?_
     clear hK K
     refine done_ (by kernel_rfl) ?_
     have hst : stepC s x = ⟨s.by_, s.out.set q.toNat (s.out.getD q.toNat [] ++ [x.f0])⟩ := by unfold stepC; rw [if_pos H48.out]; simp only [HQ.out]
     have hfin : ClsRel l W (n + 1) (.slice (some ⟨g, 0, none⟩) s.out.length co) (w1.setCell ⟨g, q.toNat, none⟩ (.slice A1 (ys ++ [x.f0]).length c1)) := by
      refine ⟨by omega, by omega, ⟨stepC s x, HST.out, ?_, ?_, ?_⟩, below_put HB2.out _ _ (by omega) _, ?_⟩
      ·rw [show (n + 1).toNat = n.toNat + 1 from by omega]
       exact HOK.out.step x
      ·rw [hst, show (n + 1).toNat = n.toNat + 1 from by omega]
       exact map_put (((HM.out.alloc (.cells #[.string x.f0, .string x.f1, .string x.f2, .int .u8 x.f3, .int .i64 x.f4.f0, .int .i64 x.f4.f1, .int .i64 x.f4.f2, .int .i64 x.f4.f3, .slice A7 x.f5.length c7] 40)).kept HG.out hnm).mono (Nat.le_succ _)) _ _ (by omega) _
      ·rw [hst]
       exact by rw [HYS.out]; exact HBK.out w1 _ _ HO.out HG.out
      ·have := HG.out.size
       simp at this ⊢
       omega
     clear HBK HO HG HB2 k1 k2 k3 hHeld hHeld2 hHeld3
     go_wp2
     go_roundw
     case rel => exact ⟨n + 1, by go_num, ⟨by simpa using hfin⟩⟩
     case measure => simp [intOf]; omega
    | none =>
     have hnl : lkI s.by_ x.f2.data.toList = none := by
      unfold intsV at ht
      cases hk : lkI s.by_ x.f2.data.toList with
      | none => rfl
      | some q => rw [hk] at ht; cases ht
     simp only [ht, Option.getD_none, Option.isSome_none] at hlook
     have HQ := Aside0.mk hnl
     clear ht hnl
     have hol := HOK.out.1
     go_upto_region 12 with (first
      | (at_mapUpdate; refine MapS.wpput (HM.out.alloc _) rfl _ _ _ rfl Tryd.underlying9 Tryd.underlying68 (by unfold maxLen; omega) rfl rfl hs2 rfl ?_; intro w2 hM2 hturn; obtain ⟨hc2, hf2⟩ := gcell hturn.grown; have hz2 := hturn.grown.size; simp only [World.size_alloc] at hz2; have HM2 := Aside0.mk hM2; have HG2 := Aside0.mk hturn.grown; have hxb := ((hturn.grown.block wr.heap.size (by simp) (fun e => by injection e with e; omega)).trans (blk_new _ _)); clear hM2 hturn)
      | (at_builtin; refine Kd.S_append (Kd.slice 9 Kd.string) (w0 := W) W.heap.size rfl (.tmp 34) (.tmp 35) 46 26 (.slice none 0 0) 24 rfl Tryd.underlying46 infoRow rfl (by decide) (by decide) (.slice Ao s.out.length co) s.out [] [.slice none 0 0] (fun k => W.heap.size + 1 ≤ k) (fun _ => False) rfl rfl ⟨_, rfl, Kd.R_nil _ _ _ _ _⟩ (fun _ h => h.elim) (fun k hk => by omega) (Kd.S_mono (Kd.S_grown (Kd.S_alloc HSS.out _) HG2.out (fun k hk e => by cases e; omega)) (fun k hk => ⟨hk, fun h => h⟩)) ((HB.out.alloc HB.out.size _).grown HG2.out (by simp; omega) (fun j hj => by cases hj; exact Nat.le_refl _)) (by omega) (by omega) ?_; intro v3 w3 hS3 hB3 hg3 hat3; obtain ⟨g, cap, hv, hg0, hg1, _⟩ := Kd.S_form hS3 (by simp); subst hv; have HS3 := Aside0.mk hS3; have HB3 := Aside0.mk hB3; have HG3 := Aside0.mk hg3; clear hS3 hB3 hg3 hat3))
     have hxb3 := (HG3.out.block wr.heap.size (by omega) (fun e => by have := Kd.S_lt HSS.out _ e.symm; omega)).trans hxb
     have hcx : w3.cell? ⟨wr.heap.size, 0, none⟩ = some (.string x.f0) := by
      unfold World.cell?
      dsimp only
      rw [hxb3]
      rfl
     have hsz3 := HG3.out.size
     have hgW : W.heap.size + 1 ≤ g := by
      obtain ⟨f, hh⟩ := HS3.out
      exact hh.1 g rfl
     obtain ⟨oki, ve, hc1, hf1, hR1, hoki, hback⟩ := row_turn HS3.out (fun k hk => by omega) hg1 (s.out.length : Int) (by omega) (by simp; omega)
     generalize hys : (s.out ++ [[]]).getD ((s.out.length : Int)).toNat [] = ys at hR1
     have hcl : ys.length ≤ n.toNat := by rw [← hys]; simp
     obtain ⟨Ae, ce, rfl⟩ := Kd.R_slice hR1
     simp only [Int.toNat_natCast] at hc1 hf1 hback hys
     have hRd := Kd.R_mono (ok' := fun k => oki k ∨ w3.heap.size ≤ k) (Kd.R_drew hR1) (fun k hk => Or.inl hk)
     have hBd := below_drew HB3.out
     have hnb : ∀ k, wr.heap.size = k ∨ g = k → some k ≠ (Value.slice Ae ys.length ce).ownBlock := fun k hk => by
      rcases hk with rfl | rfl
      ·exact Kd.R_ne hR1 hxb3 (by decide)
      ·exact fun e => (hoki _ (hR1.1 _ e.symm)).2.1 rfl
     have hnm : some W.heap.size ≠ (Value.slice Ae ys.length ce).ownBlock := fun e => by
      have := (hoki _ (hR1.1 _ e.symm)).1
      omega
     have hnm3 : some W.heap.size ≠ (Value.slice Ao s.out.length co).ownBlock := fun e => by
      obtain ⟨f, hh⟩ := HSS.out
      have := hh.1 _ e.symm
      omega
     have HRd := Aside0.mk hRd
     have HBd := Aside0.mk hBd
     have HNB := Aside0.mk hnb
     have HYS := Aside0.mk hys
     have HBK := Aside0.mk hback
     clear hR1 hoki hback hRd hBd hnb hys hxb3 hxb
     have hi1 : ((s.out.length : Int) < (s.out.length : Int) + 1) := by omega
     refine start_ (n := 12) (S := fun w' => w'.cell? ⟨g, s.out.length, none⟩ = some (.slice Ae ys.length ce) ∧ w'.cell? ⟨wr.heap.size, 0, none⟩ = some (.string x.f0)) (ds := [11]) cq_0 (by kernel_rfl) rfl rfl ⟨hc1, hcx⟩ (fun hHeld => ?_)
     generalize hwq : w3.drew = wq at hHeld ⊢
     have hzq : wq.heap.size = w3.heap.size := by rw [← hwq]; show w3.heap.size = _; rfl
     rw [hwq] at HRd HBd
     refine pur_ (i := 0) (N := some 37) cq_1 (by kernel_rfl) ?_
     refine pur_ (i := 1) (N := some 38) cq_2 (by kernel_rfl) ?_
     refine pur_ (i := 2) (N := some 39) cq_3 (by kernel_rfl) ?_
     refine pur_ (i := 3) (N := some 40) cq_4 (by kernel_rfl) ?_
     refine pur_ (i := 4) (N := some 41) cq_5 (by kernel_rfl) ?_
     refine pur_ (i := 6) (N := some 43) cq_6 (by kernel_rfl) ?_
     refine tak_ (i := 5) (N := some 42) cq_7 (by kernel_rfl) hHeld ?_
     refine tak_ (i := 7) (N := some 44) cq_8 (by kernel_rfl) hHeld ?_
     refine one_ (i := 8) (N := some 45) cq_9 rfl rfl (by kernel_rfl) (by decide) (fun K hK => ?_)
     refine value_ (w1 := ?_) (v := ?_) (by rfl) rfl ?_ ?_
     rotate_left 2
     ·go_simp
      constructor
      ·rfl
      ·rfl
     refine hK.out _ _ ⟨acell hHeld.1 _, acell hHeld.2 _⟩ (fun hHeld2 => ?_)
     clear hK K
     refine norm_ (a' := ?_) ?_ ?_
     rotate_left
     ·show Act.put _ (some 45) _ = _
      simp only [Act.put, List.setIfInBounds_toArray, List.set_cons_zero, List.set_cons_succ, i64_w, i32_w]
      rfl
     refine one_ (i := 9) (N := some 46) cq_10 rfl rfl (by kernel_rfl) (by decide) (fun K hK => ?_)
     refine Kd.R_append_step Kd.string (w0 := W) (W := wq) W.heap.size (by rfl) (.tmp 42) (.tmp 45) 26 9 (.string ⟨#[]⟩) 16 rfl Tryd.underlying26 info9 rfl (by decide) (by decide) (.slice Ae ys.length ce) ys x.f0 [.string x.f0] (fun k => oki k ∨ w3.heap.size ≤ k) (fun _ => False) (by rfl) (by rw [hzq]; rfl) rfl (fun _ h => h.elim) (fun k hk => Or.inr (by rw [hzq] at hk; exact hk)) HRd.out HBd.out (below_size HBd.out) (by omega) ?_
     intro v1 w1 ho hb hg hat
     obtain ⟨A1, c1, rfl⟩ := Kd.R_slice ho
     have k1 := (rcell hg g s.out.length (by omega) (HNB.out _ (Or.inr rfl))).trans hHeld.1
     have k2 := (rcell hg wr.heap.size 0 (by omega) (HNB.out _ (Or.inl rfl))).trans hHeld.2
     have k3 : w1.frozen? ⟨g, s.out.length, none⟩ = false := (rfrozen hg g s.out.length (by omega) (HNB.out _ (Or.inr rfl))).trans (by rw [← hwq]; exact hf1)
     have hg1 : w3.grownBy w1 (Value.slice Ae ys.length ce).ownBlock := by rw [← hwq] at hg; exact ⟨hg.os, hg.tape, hg.output, hg.size, hg.block⟩
     have HO := Aside0.mk ho
     have HB2 := Aside0.mk hb
     have HG := Aside0.mk hg1
     clear ho hb hg hat hg1
     refine hK.out _ _ ⟨k1, k2⟩ (fun hHeld3 => ?_)
     clear hK K
     refine norm_ (a' := ?_) ?_ ?_
     rotate_left
     ·show Act.put _ (some 46) _ = _
      simp only [Act.put, List.setIfInBounds_toArray, List.set_cons_zero, List.set_cons_succ, i64_w, i32_w]
      rfl
     refine pur_ (i := 10) (N := some 47) cq_11 (by kernel_rfl) ?_
     refine last_ (i := 11) (N := none) cq_12 rfl rfl (by kernel_rfl) (by decide) (fun K hK => ?_)
     refine skip_ (w1 := ?_) (by rfl) rfl ?_ ?_
     rotate_left
     ·go_simp
      rfl
     refine hK.out _ _ ?_
     clear hK K
     refine done_ (by kernel_rfl) ?_
     have hst : stepC s x = ⟨(x.f2.data.toList, (s.out.length : Int)) :: s.by_, s.out ++ [[x.f0]]⟩ := by unfold stepC; rw [if_pos H48.out]; simp only [HQ.out]
     have hfin : ClsRel l W (n + 1) (.slice (some ⟨g, 0, none⟩) (s.out.length + 1) cap) (w1.setCell ⟨g, s.out.length, none⟩ (.slice A1 (ys ++ [x.f0]).length c1)) := by
      refine ⟨by omega, by omega, ⟨stepC s x, HST.out, ?_, ?_, ?_⟩, below_put HB2.out _ _ (by omega) _, ?_⟩
      ·rw [show (n + 1).toNat = n.toNat + 1 from by omega]
       exact HOK.out.step x
      ·rw [hst, show (n + 1).toNat = n.toNat + 1 from by omega]
       exact map_put (((HM2.out.kept HG3.out hnm3).kept HG.out hnm).ext (fun t => intsV_put s.by_ _ _ t)) _ _ (by omega) _
      ·rw [hst]
       exact by have h := HBK.out w1 _ _ HO.out HG.out; have hy0 : ys = [] := (by rw [← HYS.out]; simp); rw [hy0] at h ⊢; simpa using h
      ·have := HG.out.size
       simp at this ⊢
       omega
     clear HBK HO HG HB2 k1 k2 k3 hHeld hHeld2 hHeld3
     go_wp2
     go_roundw
     case rel => exact ⟨n + 1, by go_num, ⟨by simpa using hfin⟩⟩
     case measure => simp [intOf]; omega
   ·have e48 : (x.f3 != 48) = true := by rw [bne_iff_ne]; exact h48
    have hid : stepC s x = s := by unfold stepC; rw [if_neg h48]
    have hok1 := HOK.out.step x
    rw [hid] at hok1
    have HID := Aside0.mk hid
    have HOK1 := Aside0.mk hok1
    clear h48 hid hok1
    go_wp2
    have hfin : ∀ o, ClsRel l W (n + 1) (.slice Ao s.out.length co) (wr.alloc o) := fun o =>
     ⟨by omega, by omega, ⟨s, by rw [HST.out, HID.out], by rw [show (n + 1).toNat = n.toNat + 1 from by omega]; exact HOK1.out, by rw [show (n + 1).toNat = n.toNat + 1 from by omega]; exact (HM.out.alloc o).mono (Nat.le_succ _), Kd.S_alloc HSS.out o⟩, HB.out.alloc HB.out.size o, by simp; omega⟩
    go_roundw
    case rel => exact ⟨n + 1, by go_num, ⟨hfin _⟩⟩
    case measure => simp [intOf]; omega
  ·have c1b : decide (n < (l.length : Int)) = false := decide_eq_false hlt
   go_wp2
   rw [← hQ.out]
   refine ⟨_, rfl, ?_, HB.out⟩
   have he : classesF l = s.out := by
    unfold classesF
    rw [← HS.out, List.take_of_length_le (by omega)]
   rw [he]
   exact Kd.S_mono HSS.out (fun _ _ => trivial)
end Go.Proofs.YtfljbidecljlcaaDoor

namespace Go.Proofs.YtfljbidecljlcaaDoor.Print
open Go.RowKit Go.Proofs.YtfljbidecljlcaaDoor Go.Proofs.YtfljbidecljlcaaDoorW.PrintWords Go.Proofs.YtfljbidecljlcaaDoorW.PrintLast Go.Proofs.YtfljbidecljlcaaDoorW.PrintMore
set_option linter.unusedVariables false
def links_Members.f (l : List S40) (order : List ByteArray) : Option (List S45 × Int) :=
 if riseB l = true ∧ nodesZ l = true then some (membersF l order) else none
theorem links_Members.calls (A0 : Option Addr) (c0 : Nat) (l0 : List S40) (A1 : Option Addr) (c1 : Nat) (l1 : List ByteArray) (r1 : List S45) (r2 : Int) (w : World) (hr0 : Kd.C k40 w A0 l0.length l0) (hc0 : l0.length ≤ c0) (hr1 : Kd.C Kd.string w A1 l1.length l1) (hc1 : l1.length ≤ c1) (h : links_Members.f l0 l1 = some (r1, r2)) :
  Calls Tryd.prog 17 #[.slice A0 l0.length c0, .slice A1 l1.length c1] w fun e w' => ∃ v0_ : Value, e = .returned (.tuple #[v0_, .int .i64 r2]) ∧ Kd.V k45 45 w' w.heap.size (fun k_ => w.heap.size ≤ k_) v0_ r1 ∧ Below w.heap.size w w' := by
 unfold links_Members.f at h
 split at h
 ·rename_i hc
  simp only [Option.some.injEq] at h
  refine (Members_calls A0 c0 l0 A1 c1 l1 w hr0 hr1 hc.1 ((nodesZ_iff l0).1 hc.2)).mono ?_
  rintro e w' ⟨v, rfl, hV, hB⟩
  rw [h] at hV ⊢
  exact ⟨v, rfl, hV, hB⟩
 ·cases h
def links_Sound.f (l : List S45) : Option Bool := if memsZ l = true then some (soundF l) else none
theorem links_Sound.calls (A0 : Option Addr) (c0 : Nat) (l0 : List S45) (r : Bool) (w : World) (hT : Aside0 (Tabs w)) (hr0 : Kd.C k45 w A0 l0.length l0) (hc0 : l0.length ≤ c0) (h : links_Sound.f l0 = some r) :
  Calls Tryd.prog 22 #[.slice A0 l0.length c0] w fun e w' => e = .returned (.bool r) ∧ Below w.heap.size w w' := by
 unfold links_Sound.f at h
 split at h
 ·rename_i hc
  simp only [Option.some.injEq] at h
  subst h
  exact Sound_calls A0 c0 l0 w hT.out hr0 ((memsZ_iff l0).1 hc)
 ·cases h
def links_Classes.f (l : List S40) : Option (List (List ByteArray)) := if nodesZ l = true then some (classesF l) else none
theorem links_Classes.calls (A0 : Option Addr) (c0 : Nat) (l0 : List S40) (r : List (List ByteArray)) (w : World) (hr0 : Kd.C k40 w A0 l0.length l0) (hc0 : l0.length ≤ c0) (h : links_Classes.f l0 = some r) :
  Calls Tryd.prog 24 #[.slice A0 l0.length c0] w fun e w' => ∃ v0_ : Value, e = .returned (v0_) ∧ Kd.S (Kd.slice 9 Kd.string) 26 w' w.heap.size (fun _ => True) v0_ r ∧ Below w.heap.size w w' := by
 unfold links_Classes.f at h
 split at h
 ·rename_i hc
  simp only [Option.some.injEq] at h
  subst h
  exact Classes_calls A0 c0 l0 w hr0 ((nodesZ_iff l0).1 hc)
 ·cases h
end Go.Proofs.YtfljbidecljlcaaDoor.Print

namespace Go.Proofs.YtfljbidecljlcaaDoor
open Go.RowKit Go.Proofs.YtfljbidecljlcaaDoor.Print Go.Proofs.YtfljbidecljlcaaDoorW.PrintWords
set_option linter.unusedVariables false
theorem members_from (l : List Node) (f : List (List UInt8 × ByteArray)) (x : Node) (hf : ∀ q r, lk f q = some r → r.size ≤ 8000000000000) (hx : NodeZ x) (hp : x.f0.size ≤ 8000000000000 ∧ x.f1.size ≤ 8000000000000) : MemZ (memF f x).1 ∧ ∀ q r, lk (memF f x).2 q = some r → r.size ≤ 8000000000000 := by
 unfold memF
 by_cases h48 : x.f3 = 48
 ·rw [if_pos h48]
  cases hl : lk f x.f2.data.toList with
  | some q => exact ⟨⟨hp.1, hf _ _ hl, by show ([] : List Int).length ≤ _; simp⟩, hf⟩
  | none =>
   refine ⟨⟨hp.1, hp.2, hx.2.2.2⟩, fun q r h => ?_⟩
   dsimp only at h
   rw [lk] at h
   split at h
   ·cases h; exact hp.1
   ·exact hf q r h
 ·rw [if_neg h48]
  exact ⟨⟨hp.1, hp.2, hx.2.2.2⟩, hf⟩
theorem fold_memZ {l : List Node} (hx : ∀ x ∈ l, NodeZ x ∧ x.f0.size ≤ 8000000000000 ∧ x.f1.size ≤ 8000000000000) : ∀ (rest : List ByteArray) (s s' : MemSt), rest.foldlM (stepM l) s = some s' → (∀ m ∈ s.out, MemZ m) → (∀ q r, lk s.first q = some r → r.size ≤ 8000000000000) → (∀ m ∈ s'.out, MemZ m) ∧ s'.out.length = s.out.length + rest.length := by
 intro rest
 induction rest with
 | nil => intro s s' h h1 h2; obtain rfl : s = s' := Option.some.inj h; exact ⟨h1, rfl⟩
 | cons p rest ih =>
  intro s s' h h1 h2
  rw [List.foldlM_cons] at h
  cases hs : stepM l s p with
  | none => rw [hs] at h; cases h
  | some s1 =>
   rw [hs] at h
   unfold stepM at hs
   cases hf : findF l p with
   | none => rw [hf] at hs; cases hs
   | some x =>
    rw [hf] at hs
    dsimp only at hs
    split at hs
    ·cases hs
    ·simp only [Option.some.injEq] at hs
     subst hs
     obtain ⟨g1, g2, g3⟩ := hx x (findF_mem hf).1
     obtain ⟨k1, k2⟩ := members_from l s.first x h2 g1 ⟨g2, g3⟩
     obtain ⟨r1, r2⟩ := ih _ s' h (fun m hm => by
      rcases List.mem_append.1 hm with hm | hm
      ·exact h1 m hm
      ·rw [List.mem_singleton] at hm; rw [hm]; exact k1) k2
     exact ⟨r1, by rw [r2]; simp; omega⟩
theorem cleanF_short (s : ByteArray) (h : (cleanF s).2 = 0) : (cleanF s).1.size ≤ 200 := by
 unfold cleanF at h ⊢
 by_cases a : rightB s = false
 ·rw [if_pos a] at h; cases h
 ·rw [if_neg a] at h ⊢
  by_cases b : Lib.hasPrefix s.data.toList [47] = true
  ·rw [if_pos b] at h; cases h
  ·rw [if_neg b] at h ⊢
   by_cases c : (splitS s).any isUp = true
   ·rw [if_pos c] at h; cases h
   ·rw [if_neg c] at h ⊢
    by_cases d : ((outOf s).toList == [] || decide (200 < (outOf s).size)) = true
    ·rw [if_pos d] at h; cases h
    ·rw [if_neg d]
     rw [Bool.or_eq_true, not_or, decide_eq_true_iff] at d
     have := d.2
     show (outOf s).size ≤ 200
     omega
theorem clean_short {p : ByteArray} (h : cleanOk p = true) : p.size ≤ 200 := by
 unfold cleanOk at h
 rw [Bool.and_eq_true, decide_eq_true_iff, decide_eq_true_iff] at h
 have h2 := cleanF_short p h.1
 rw [ba_ext h.2]
 exact h2
theorem good_short {x : Node} (h : goodM (memOf x) = true) : x.f0.size ≤ 200 ∧ x.f1.size ≤ 200 := by
 refine ⟨clean_short (goodM_clean h).1, ?_⟩
 unfold goodM at h
 simp only [Bool.and_eq_true] at h
 have h2 := h.2
 split at h2
 ·have := ba_ext (b := (⟨#[]⟩ : ByteArray)) (by rw [of_decide_eq_true h2, Lib.toList_data])
  have h3 : (memOf x).f1 = x.f1 := rfl
  rw [← h3, this]
  exact Nat.zero_le _
 ·split at h2
  ·exact clean_short h2
  ·split at h2
   ·unfold targetOk at h2
    rw [Bool.and_eq_true, decide_eq_true_iff] at h2
    exact h2.2.2
   ·cases h2
theorem members_Z {l : List Node} (hz : ∀ x ∈ l, NodeZ x) (hg : goodTree l = true) (hl : l.length ≤ 1000000000000) (order : List ByteArray) : memsZ (membersF l order).1 = true := by
 rw [memsZ_iff]
 unfold membersF
 split
 ·exact ⟨Nat.zero_le _, by simp⟩
 ·rename_i ho
  cases hf : order.foldlM (stepM l) ⟨[], [], []⟩ with
  | none => exact ⟨Nat.zero_le _, by simp⟩
  | some s =>
   have hsh := fun x (hx : x ∈ l) => good_short ((good_parts hg).2.1 x hx).2
   obtain ⟨h1, h2⟩ := fold_memZ (fun x hx => ⟨hz x hx, by have := (hsh x hx).1; omega, by have := (hsh x hx).2; omega⟩) order _ s hf (by simp) (fun q r h => by cases h)
   refine ⟨?_, h1⟩
   rw [h2]
   have : order.length = l.length := Decidable.of_not_not ho
   simp
   omega
end Go.Proofs.YtfljbidecljlcaaDoor

namespace Go.Proofs.YtfljbidecljlcaaDoor
open Go.RowKit Go.Maps Go.Proofs.YtfljbidecljlcaaDoor.Print Go.Proofs.YtfljbidecljlcaaDoorW.PrintWords
abbrev PS := List (ByteArray × Nat)
def atD (s : PS) (k : List UInt8) : Option Nat := match s with
 | [] => none
 | (p, c) :: r => if k = p.data.toList then some c else atD r k
theorem at_atD (s : PS) (p : ByteArray) : at_ s p = atD s p.data.toList := by
 induction s with
 | nil => rfl
 | cons q r ih =>
  obtain ⟨k, v⟩ := q
  rw [at_, atD, ih]
  by_cases h : k = p
  ·rw [if_pos (by rw [h]), if_pos (by rw [h])]
  ·rw [if_neg (fun e => h (ba_ext e)), if_neg (fun e => h (ba_data.1 e.symm))]
def without (s : PS) (p : ByteArray) : PS := s.filter (fun q => !decide (q.1.toList = p.toList))
theorem atD_without (s : PS) (p : ByteArray) (k : List UInt8) : atD (without s p) k = if k = p.data.toList then none else atD s k := by
 induction s with
 | nil => simp [without, atD]
 | cons q r ih =>
  obtain ⟨a, v⟩ := q
  unfold without at ih ⊢
  rw [List.filter_cons]
  by_cases h : a = p
  ·subst h
   rw [if_neg (by simp), ih, atD]
   by_cases h2 : k = a.data.toList
   ·rw [if_pos h2, if_pos h2]
   ·rw [if_neg h2, if_neg h2, if_neg h2]
  ·rw [if_pos (by simpa using fun e => h (ba_ext e)), atD, ih, atD]
   by_cases h2 : k = a.data.toList
   ·rw [if_pos h2, if_pos h2, if_neg (fun e => h (ba_data.1 (h2.symm.trans e)))]
   ·rw [if_neg h2, if_neg h2]
theorem atD_snoc (s : PS) (p : ByteArray) (c : Nat) (k : List UInt8) : atD (s ++ [(p, c)]) k = match atD s k with | some x => some x | none => if k = p.data.toList then some c else none := by
 induction s with
 | nil => rfl
 | cons q r ih =>
  obtain ⟨a, v⟩ := q
  rw [List.cons_append, atD, atD, ih]
  by_cases h : k = a.data.toList
  ·rw [if_pos h, if_pos h]
  ·rw [if_neg h, if_neg h]
def putP (s : PS) (p : ByteArray) (c : Nat) : PS := without s p ++ [(p, c)]
theorem atD_put (s : PS) (p : ByteArray) (c : Nat) (k : List UInt8) : atD (putP s p c) k = if k = p.data.toList then some c else atD s k := by
 unfold putP
 rw [atD_snoc, atD_without]
 by_cases h : k = p.data.toList
 ·rw [if_pos h, if_pos h]; dsimp only; rw [if_pos h]
 ·rw [if_neg h, if_neg h]
  cases atD s k with
  | some x => dsimp only; rw [if_neg h]
  | none => dsimp only; rw [if_neg h]
theorem stepF_eq (l : List Mem) (s : PS) (i : Nat) (hi : i < l.length) : stepF l s i = if l[i].f2 = 49 then (match atD s l[i].f1.data.toList with
   | none => none
   | some c => match l[c]? with
    | none => none
    | some t => if t.f2 = 48 then some (putP s l[i].f0 c) else none) else some (putP s l[i].f0 i) := by
 unfold stepF
 rw [List.getElem?_eq_getElem hi]
 dsimp only
 rw [at_atD]
 rfl
structure FInv (l : List Mem) (i : Nat) (s : PS) : Prop where
 nodup : (s.map (fun q => q.1)).Nodup
 cls : ∀ q ∈ s, q.2 < i ∧ ∃ m, l[q.2]? = some m ∧ ¬ m.f2 = 49
 len : s.length ≤ i
 full : ∀ q ∈ s, q.1.toList ≠ []
 small : ∀ q ∈ s, q.1.size ≤ 8000000000000
theorem without_sub {s : PS} {p : ByteArray} {q : ByteArray × Nat} (h : q ∈ without s p) : q ∈ s ∧ q.1 ≠ p := by
 unfold without at h
 rw [List.mem_filter] at h
 refine ⟨h.1, fun e => ?_⟩
 have := h.2
 rw [e] at this
 simp at this
theorem FInv.start (l : List Mem) : FInv l 0 [] := ⟨List.nodup_nil, fun q h => (by cases h), Nat.le_refl _, fun q h => (by cases h), fun q h => (by cases h)⟩
theorem FInv.put {l : List Mem} {i : Nat} {s : PS} (h : FInv l i s) {p : ByteArray} {c : Nat} (hp : p.toList ≠ []) (hps : p.size ≤ 8000000000000) (hc : c < i + 1) {m : Mem} (hm : l[c]? = some m) (h49 : ¬ m.f2 = 49) : FInv l (i + 1) (putP s p c) := by
 refine ⟨?_, ?_, ?_, ?_, ?_⟩
 ·unfold putP
  rw [List.map_append, List.nodup_append]
  refine ⟨(List.Sublist.map _ List.filter_sublist).nodup h.nodup, by simp, fun a ha b hb => ?_⟩
  obtain ⟨q, hq, rfl⟩ := List.mem_map.1 ha
  simp only [List.map_cons, List.map_nil, List.mem_singleton] at hb
  subst hb
  exact (without_sub hq).2
 ·intro q hq
  rcases List.mem_append.1 hq with hq | hq
  ·have := h.cls q (without_sub hq).1
   exact ⟨by omega, this.2⟩
  ·rw [List.mem_singleton] at hq
   subst hq
   exact ⟨hc, m, hm, h49⟩
 ·unfold putP
  rw [List.length_append]
  have h1 : (without s p).length ≤ s.length := List.length_filter_le _ _
  have := h.len
  simp only [List.length_cons, List.length_nil]
  omega
 ·intro q hq
  rcases List.mem_append.1 hq with hq | hq
  ·exact h.full q (without_sub hq).1
  ·rw [List.mem_singleton] at hq
   subst hq
   exact hp
 ·intro q hq
  rcases List.mem_append.1 hq with hq | hq
  ·exact h.small q (without_sub hq).1
  ·rw [List.mem_singleton] at hq
   subst hq
   exact hps
theorem atD_mem {s : PS} {k : List UInt8} {c : Nat} (h : atD s k = some c) : ∃ q ∈ s, q.1.data.toList = k ∧ q.2 = c := by
 induction s with
 | nil => cases h
 | cons q r ih =>
  obtain ⟨a, v⟩ := q
  rw [atD] at h
  by_cases h2 : k = a.data.toList
  ·rw [if_pos h2] at h
   cases h
   exact ⟨_, List.mem_cons_self, h2.symm, rfl⟩
  ·rw [if_neg h2] at h
   obtain ⟨q, hq, h3⟩ := ih h
   exact ⟨q, List.mem_cons_of_mem _ hq, h3⟩
theorem atD_of_mem {s : PS} (hn : (s.map (fun q => q.1)).Nodup) {q : ByteArray × Nat} (hq : q ∈ s) : atD s q.1.data.toList = some q.2 := by
 induction s with
 | nil => cases hq
 | cons r s ih =>
  obtain ⟨a, v⟩ := r
  rw [List.map_cons, List.nodup_cons] at hn
  rw [atD]
  rcases List.mem_cons.1 hq with rfl | hq
  ·rw [if_pos rfl]
  ·rw [if_neg, ih hn.2 hq]
   intro e
   exact hn.1 (List.mem_map.2 ⟨q, hq, ba_data.1 e⟩)
theorem FInv.step {l : List Mem} {i : Nat} {s s' : PS} (h : FInv l i s) (hi : i < l.length) (hp : l[i].f0.toList ≠ []) (hps : l[i].f0.size ≤ 8000000000000) (hs : stepF l s i = some s') : FInv l (i + 1) s' := by
 rw [stepF_eq l s i hi] at hs
 by_cases h49 : l[i].f2 = 49
 ·rw [if_pos h49] at hs
  cases ha : atD s l[i].f1.data.toList with
  | none => rw [ha] at hs; cases hs
  | some c =>
   rw [ha] at hs
   obtain ⟨q, hq, _, rfl⟩ := atD_mem ha
   obtain ⟨h1, m, hm, h2⟩ := h.cls q hq
   dsimp only at hs
   rw [hm] at hs
   dsimp only at hs
   split at hs
   ·cases hs
    exact h.put hp hps (by omega) hm h2
   ·cases hs
 ·rw [if_neg h49] at hs
  cases hs
  exact h.put hp hps (by omega) (List.getElem?_eq_getElem hi) h49
theorem insP_perm (q : ByteArray × Nat) (s : PS) : (insP q s).Perm (q :: s) := by
 induction s with
 | nil => exact List.Perm.refl _
 | cons r s ih =>
  rw [insP]
  split
  ·exact List.Perm.refl _
  ·exact (List.Perm.cons r ih).trans (List.Perm.swap _ _ _)
theorem sortP_perm (s : PS) : (sortP s).Perm s := by
 induction s with
 | nil => exact List.Perm.refl _
 | cons q s ih => exact (insP_perm q _).trans (List.Perm.cons q ih)
theorem sortP_len (s : PS) : (sortP s).length = s.length := (sortP_perm s).length_eq
def RiseP (s : PS) : Prop := s.Pairwise (fun a b => lt a.1 b.1 = true)
theorem insP_rise {q : ByteArray × Nat} {s : PS} (h : RiseP s) (hq : ∀ r ∈ s, r.1 ≠ q.1) : RiseP (insP q s) := by
 induction s with
 | nil => exact List.pairwise_singleton _ _
 | cons r s ih =>
  unfold RiseP at h ih ⊢
  rw [List.pairwise_cons] at h
  rw [insP]
  by_cases hl : lt q.1 r.1 = true
  ·rw [if_pos hl, List.pairwise_cons]
   refine ⟨fun x hx => ?_, List.pairwise_cons.2 h⟩
   rcases List.mem_cons.1 hx with rfl | hx
   ·exact hl
   ·exact lt_trans hl (h.1 x hx)
  ·rw [if_neg hl, List.pairwise_cons]
   refine ⟨fun x hx => ?_, ih h.2 (fun x hx => hq x (List.mem_cons_of_mem _ hx))⟩
   rcases List.mem_cons.1 ((insP_perm q s).mem_iff.1 hx) with rfl | hx
   ·rcases lt_tri r.1 x.1 with h2 | h2 | h2
    ·exact h2
    ·exact absurd (ba_ext h2) (hq r List.mem_cons_self)
    ·exact absurd h2 hl
   ·exact h.1 x hx
theorem sortP_rise {s : PS} (hn : (s.map (fun q => q.1)).Nodup) : RiseP (sortP s) := by
 induction s with
 | nil => exact List.Pairwise.nil
 | cons q s ih =>
  rw [List.map_cons, List.nodup_cons] at hn
  exact insP_rise (ih hn.2) (fun r hr e => hn.1 (List.mem_map.2 ⟨r, (sortP_perm s).mem_iff.1 hr, e⟩))
theorem less_le : ∀ a b : List UInt8, Op.bytesLess a b = true → a ≤ b := by
 intro a b h
 rw [← List.not_lt]
 have key : ∀ a b : List UInt8, a < b → Op.bytesLess a b = true := by
  intro a
  induction a with
  | nil => intro b h; cases b with | nil => exact absurd h (List.lt_irrefl _) | cons => rfl
  | cons x a ih =>
   intro b h
   cases b with
   | nil => exact absurd h (by simp)
   | cons y b =>
    rw [less_cons]
    rw [List.cons_lt_cons_iff] at h
    rcases h with h | ⟨h, h2⟩
    ·exact .inl (by rw [u8_lt] at h; exact h)
    ·exact .inr ⟨h, ih b h2⟩
 intro h2
 have h3 := less_trans _ _ _ h (key b a h2)
 rw [less_irr] at h3
 cases h3
def keysP (s : PS) : List (List UInt8) := s.map (fun q => q.1.data.toList)
theorem keysP_nodup {s : PS} (hn : (s.map (fun q => q.1)).Nodup) : (keysP s).Nodup := by
 unfold keysP
 rw [List.nodup_iff_pairwise_ne, List.pairwise_map] at *
 exact hn.imp (fun h e => h (ba_data.1 e))
theorem atD_is {s : PS} (k : List UInt8) : k ∈ keysP s ↔ (atD s k).isSome = true := by
 induction s with
 | nil => simp [keysP, atD]
 | cons q s ih =>
  obtain ⟨a, v⟩ := q
  unfold keysP at ih ⊢
  rw [List.map_cons, List.mem_cons, atD]
  by_cases h : k = a.data.toList
  ·rw [if_pos h]; simp [h]
  ·rw [if_neg h, ← ih]; simp [h]
theorem keys_sorted {s : PS} (hn : (s.map (fun q => q.1)).Nodup) {ss : List (List UInt8)} (hp : ss.Perm (keysP s)) : ss.mergeSort (fun x y => decide (x ≤ y)) = keysP (sortP s) := by
 have h1 : ss.mergeSort leB = (keysP (sortP s)).mergeSort leB := mergeSort_of_perm (hp.trans ((sortP_perm s).map _).symm)
 refine h1.trans (List.mergeSort_of_pairwise ?_)
 unfold keysP
 rw [List.pairwise_map]
 exact (sortP_rise hn).imp (fun hl => decide_eq_true (less_le _ _ (by rw [← lt_data]; exact hl)))
theorem MapS.keys {P : Program} {K : TypeId} {w : World} {b n : Nat} {f : List UInt8 → Option Value} (h : MapS P K w b n f) (hK : P.underlying K = some .string) {qs : List (List UInt8)} (hn : qs.Nodup) (hq : ∀ k, k ∈ qs ↔ (f k).isSome = true) :
  ∃ D : DataW Value, w.ownsMap P K heldE b n D ∧ qs.Perm (strKeys D) ∧ Maps.size D = qs.length := by
 obtain ⟨D, hown, hh, _⟩ := h
 obtain ⟨es, hD, hpw, _⟩ := hown.entries (string_keyed hK)
 obtain ⟨es', hD', hko⟩ := hown.keysOf
 obtain rfl : es = es' := by rw [hD] at hD'; simpa using hD'
 have hp : qs.Perm (strKeys D) := by
  rw [hD]
  exact perm_strKeys hpw (fun p hp => by obtain ⟨v, hv⟩ := hko p hp; obtain ⟨x, _, hx, _⟩ := Maps.keyOf_str hK hv; exact ⟨x, hx⟩) hn (fun x => by rw [hq x, ← hh x, hD])
 refine ⟨D, hown, hp, ?_⟩
 rw [hp.length_eq, hD]
 simp [strKeys, Maps.size]
theorem leadOf_take_none {s : PS} {c : Nat} (h : ∀ q ∈ s, q.2 ≠ c) : leadOf s c = emp := by
 unfold leadOf
 rw [List.find?_eq_none.2 (fun q hq => by simpa using h q hq)]
theorem leadOf_snoc (s : PS) (q : ByteArray × Nat) (c : Nat) : leadOf (s ++ [q]) c = if s.any (fun r => decide (r.2 = c)) = true then leadOf s c else if q.2 = c then q.1 else emp := by
 unfold leadOf
 rw [List.find?_append]
 cases hf : s.find? (fun q => decide (q.2 = c)) with
 | some r =>
  have := List.mem_of_find?_eq_some hf
  have h2 := List.find?_some hf
  rw [if_pos (List.any_eq_true.2 ⟨r, this, h2⟩)]
  rfl
 | none =>
  rw [List.find?_eq_none] at hf
  rw [if_neg (by rw [List.any_eq_true]; rintro ⟨r, hr, h2⟩; exact hf r hr h2)]
  by_cases h : q.2 = c
  ·rw [if_pos h]; simp [h]
  ·rw [if_neg h]; simp [h]
theorem leadOf_full {s : PS} (hf : ∀ q ∈ s, q.1.toList ≠ []) (c : Nat) : (leadOf s c).toList = [] ↔ s.any (fun r => decide (r.2 = c)) = false := by
 unfold leadOf
 cases h : s.find? (fun q => decide (q.2 = c)) with
 | some r =>
  have h1 := List.mem_of_find?_eq_some h
  have h2 := List.find?_some h
  have h3 : s.any (fun r => decide (r.2 = c)) = true := List.any_eq_true.2 ⟨r, h1, h2⟩
  rw [h3]
  dsimp only
  constructor
  ·intro e; exact absurd e (hf r h1)
  ·intro e; cases e
 | none =>
  rw [List.find?_eq_none] at h
  have h3 : s.any (fun r => decide (r.2 = c)) = false := by
   rw [List.any_eq_false]
   exact h
  rw [h3]
  exact ⟨fun _ => rfl, fun _ => by simp [emp, Lib.toList_data]⟩
theorem leadOf_take {s : PS} {n : Nat} (hn : n < s.length) : leadOf (s.take (n + 1)) s[n].2 = leadOf s s[n].2 := by
 unfold leadOf
 have e : s.find? (fun q => decide (q.2 = s[n].2)) = (s.take (n + 1) ++ s.drop (n + 1)).find? (fun q => decide (q.2 = s[n].2)) := by rw [List.take_append_drop]
 rw [e, List.find?_append]
 cases hf : (s.take (n + 1)).find? (fun q => decide (q.2 = s[n].2)) with
 | some r => rfl
 | none =>
  rw [List.find?_eq_none] at hf
  exact absurd (decide_eq_true rfl) (hf s[n] (by rw [List.mem_take_iff_getElem]; exact ⟨n, by omega, rfl⟩))
end Go.Proofs.YtfljbidecljlcaaDoor

namespace Go.Proofs.YtfljbidecljlcaaDoor
open Go.RowKit Go.Proofs.YtfljbidecljlcaaDoor.Print Go.Proofs.YtfljbidecljlcaaDoorW.PrintWords
set_option linter.unusedVariables false
def stepsF (l : List Mem) : Nat → Option PS
 | 0 => some []
 | n + 1 => match stepsF l n with
  | some s => stepF l s n
  | none => none
theorem stepsF_succ {l : List Mem} {i : Nat} {s : PS} (h : stepsF l i = some s) : stepsF l (i + 1) = stepF l s i := by rw [stepsF, h]
theorem runF_from (l : List Mem) : ∀ (n i : Nat) (s : PS), stepsF l i = some s → (∀ j s', i ≤ j → j ≤ i + n → stepsF l j = some s' → True) → (match runF l n i s with
  | .inl s' => stepsF l (i + n) = some s'
  | .inr j => i ≤ j ∧ j < i + n ∧ ∃ s', stepsF l j = some s' ∧ stepF l s' j = none)
 | 0, i, s, h, _ => h
 | n + 1, i, s, h, _ => by
  rw [runF]
  cases hs : stepF l s i with
  | none => exact ⟨Nat.le_refl _, by omega, s, h, hs⟩
  | some s' =>
   have h2 : stepsF l (i + 1) = some s' := by rw [stepsF, h]; exact hs
   have h3 := runF_from l n (i + 1) s' h2 (fun _ _ _ _ _ => trivial)
   dsimp only
   cases hr : runF l n (i + 1) s' with
   | inl t => rw [hr] at h3; rw [show i + (n + 1) = i + 1 + n from by omega]; exact h3
   | inr j => rw [hr] at h3; exact ⟨by omega, by omega, h3.2.2⟩
theorem stepsF_le {l : List Mem} {i j : Nat} {s : PS} (h : stepsF l j = some s) (hij : i ≤ j) : ∃ t, stepsF l i = some t := by
 induction j generalizing s with
 | zero =>
  obtain rfl : i = 0 := by omega
  exact ⟨_, h⟩
 | succ j ih =>
  rcases Nat.lt_or_ge i (j + 1) with h1 | h1
  ·rw [stepsF] at h
   cases hs : stepsF l j with
   | none => rw [hs] at h; cases h
   | some t => exact ih hs (by omega)
  ·obtain rfl : i = j + 1 := by omega
   exact ⟨_, h⟩
theorem foldF_bad {l : List Mem} {i : Nat} (h : l.findIdx? (fun m => !goodM m) = some i) : foldF l = ([], 1, (i : Int)) := by unfold foldF; rw [h]
theorem foldF_stop {l : List Mem} (hg : l.findIdx? (fun m => !goodM m) = none) {i : Nat} (hi : i < l.length) {s : PS} (hs : stepsF l i = some s) (h : stepF l s i = none) : foldF l = ([], 7, (i : Int)) := by
 unfold foldF
 rw [hg]
 dsimp only
 have h1 := runF_from l l.length 0 [] rfl (fun _ _ _ _ _ => trivial)
 cases hr : runF l l.length 0 [] with
 | inl t =>
  rw [hr] at h1
  obtain ⟨u, hu⟩ := stepsF_le (i := i + 1) h1 (by omega)
  rw [stepsF_succ hs] at hu
  rw [h] at hu
  cases hu
 | inr j =>
  rw [hr] at h1
  obtain ⟨_, _, t, ht, htn⟩ := h1
  have : i = j := by
   rcases Nat.lt_trichotomy i j with h2 | h2 | h2
   ·obtain ⟨u, hu⟩ := stepsF_le (i := i + 1) ht (by omega)
    rw [stepsF_succ hs] at hu
    rw [h] at hu
    cases hu
   ·exact h2
   ·obtain ⟨u, hu⟩ := stepsF_le (i := j + 1) hs (by omega)
    rw [stepsF_succ ht] at hu
    rw [htn] at hu
    cases hu
  rw [this]
theorem foldF_end {l : List Mem} (hg : l.findIdx? (fun m => !goodM m) = none) {s : PS} (hs : stepsF l l.length = some s) : foldF l = ((sortP s).map (nodeOf l (sortP s)), 0, 0) := by
 unfold foldF
 rw [hg]
 dsimp only
 have h1 := runF_from l l.length 0 [] rfl (fun _ _ _ _ _ => trivial)
 cases hr : runF l l.length 0 [] with
 | inl t =>
  rw [hr] at h1
  rw [Nat.zero_add] at h1
  rw [hs] at h1
  cases h1
  rfl
 | inr j =>
  rw [hr] at h1
  obtain ⟨_, hj, t, ht, htn⟩ := h1
  obtain ⟨u, hu⟩ := stepsF_le (i := j + 1) hs (by omega)
  rw [stepsF_succ ht] at hu
  rw [htn] at hu
  cases hu
theorem all_good {l : List Mem} (h : l.findIdx? (fun m => !goodM m) = none) {m : Mem} (hm : m ∈ l) : goodM m = true := by
 rw [List.findIdx?_eq_none_iff] at h
 have := h m hm
 simpa using this
end Go.Proofs.YtfljbidecljlcaaDoor

namespace Go.Proofs.YtfljbidecljlcaaDoor
open Go.RowKit Go.Proofs.YtfljbidecljlcaaDoor.Print Go.Proofs.YtfljbidecljlcaaDoorW.PrintWords
set_option linter.unusedVariables false
theorem nodup_at {α : Type} {l : List α} (h : l.Nodup) {i j : Nat} (hi : i < l.length) (hj : j < l.length) (e : l[i] = l[j]) : i = j := by
 rw [List.nodup_iff_pairwise_ne, List.pairwise_iff_getElem] at h
 rcases Nat.lt_trichotomy i j with h1 | h1 | h1
 ·exact absurd e (h i j hi hj h1)
 ·exact h1
 ·exact absurd e.symm (h j i hj hi h1)
def gx (xs : List Node) (k : Nat) : Node := xs.getD k z40
theorem gx_at {xs : List Node} {k : Nat} (h : k < xs.length) : gx xs k = xs[k] := by unfold gx; rw [List.getD_eq_getElem?_getD, List.getElem?_eq_getElem h]; rfl
def oneB (xs : List Node) (k i : Nat) : Bool := decide ((gx xs i).f3 = 48 ∧ (gx xs k).f3 = 48 ∧ (gx xs k).f2 = (gx xs i).f2)
theorem oneB_iff {xs : List Node} {k i : Nat} : oneB xs k i = true ↔ (gx xs i).f3 = 48 ∧ (gx xs k).f3 = 48 ∧ (gx xs k).f2 = (gx xs i).f2 := by unfold oneB; rw [decide_eq_true_iff]
def frst (xs : List Node) (i : Nat) : Option Nat := (List.range i).find? (fun k => oneB xs k i)
def memAt (xs : List Node) (i : Nat) : Mem := match frst xs i with
 | some k => ⟨(gx xs i).f0, (gx xs k).f0, 49, (gx xs i).f4, []⟩
 | none => ⟨(gx xs i).f0, (gx xs i).f1, (gx xs i).f3, (gx xs i).f4, (gx xs i).f5⟩
def clsAt (xs : List Node) (i : Nat) : Nat := (frst xs i).getD i
theorem frst_some {xs : List Node} {i k : Nat} (h : frst xs i = some k) : k < i ∧ oneB xs k i = true ∧ ∀ j, j < k → oneB xs j i = false := by
 unfold frst at h
 rw [List.find?_range_eq_some] at h
 refine ⟨by simpa using h.2.1, h.1, fun j hj => by have := h.2.2 j hj; simpa using this⟩
theorem frst_none {xs : List Node} {i : Nat} (h : frst xs i = none) : ∀ j, j < i → oneB xs j i = false := by
 unfold frst at h
 rw [List.find?_eq_none] at h
 intro j hj
 have := h j (List.mem_range.2 hj)
 simpa using this
theorem frst_first {xs : List Node} {i k : Nat} (h : frst xs i = some k) : frst xs k = none := by
 obtain ⟨hk, h1, h2⟩ := frst_some h
 cases hf : frst xs k with
 | none => rfl
 | some j =>
  obtain ⟨hj, h3, _⟩ := frst_some hf
  have h4 := h2 j hj
  rw [oneB_iff] at h1 h3
  have h5 : oneB xs j i = true := oneB_iff.2 ⟨h1.1, h3.2.1, h3.2.2.trans h1.2.2⟩
  rw [h4] at h5
  cases h5
theorem cls_first (xs : List Node) (i : Nat) : frst xs (clsAt xs i) = none := by
 unfold clsAt
 cases h : frst xs i with
 | none => exact h
 | some k => exact frst_first h
theorem cls_le (xs : List Node) (i : Nat) : clsAt xs i ≤ i := by
 unfold clsAt
 cases h : frst xs i with
 | none => exact Nat.le_refl _
 | some k => have := (frst_some h).1; show k ≤ i; omega
theorem cls_one {xs : List Node} {i : Nat} (h48 : (gx xs i).f3 = 48) : (gx xs (clsAt xs i)).f3 = 48 ∧ (gx xs (clsAt xs i)).f2 = (gx xs i).f2 := by
 unfold clsAt
 cases h : frst xs i with
 | none => exact ⟨h48, rfl⟩
 | some k =>
  have := oneB_iff.1 (frst_some h).2.1
  exact ⟨this.2.1, this.2.2⟩
theorem cls_plain {xs : List Node} {i : Nat} (h48 : ¬ (gx xs i).f3 = 48) : clsAt xs i = i := by
 unfold clsAt
 cases h : frst xs i with
 | none => rfl
 | some k => exact absurd (oneB_iff.1 (frst_some h).2.1).1 h48
theorem cls_same {xs : List Node} {i j : Nat} (hi : (gx xs i).f3 = 48) (hj : (gx xs j).f3 = 48) (h2 : (gx xs i).f2 = (gx xs j).f2) : clsAt xs i = clsAt xs j := by
 have key : ∀ a b : Nat, (gx xs a).f3 = 48 → (gx xs b).f3 = 48 → (gx xs a).f2 = (gx xs b).f2 → ¬ clsAt xs a < clsAt xs b := by
  intro a b ha hb h2 hlt
  obtain ⟨h3, h4⟩ := cls_one ha
  obtain ⟨h5, h6⟩ := cls_one hb
  have h7 := frst_none (cls_first xs b) (clsAt xs a) hlt
  rw [oneB_iff.2 ⟨h5, h3, by rw [h4, h6, h2]⟩] at h7
  cases h7
 have h3 := key i j hi hj h2
 have h4 := key j i hj hi h2.symm
 omega
theorem mems_run {l : List Node} {q : List ByteArray} {xs : List Node} (hf : ∀ (i : Nat) (h : i < q.length), findF l q[i] = some (gx xs i)) (hn : q.Nodup) : ∀ n, n ≤ q.length → ∃ s, (q.take n).foldlM (stepM l) ⟨[], [], []⟩ = some s ∧ s.out = (List.range n).map (memAt xs) ∧ s.seen = (q.take n).reverse ∧
  ∀ key, lk s.first key = ((List.range n).find? (fun k => decide ((gx xs k).f3 = 48 ∧ (gx xs k).f2.data.toList = key))).map (fun k => (gx xs k).f0) := by
 intro n
 induction n with
 | zero => intro _; exact ⟨⟨[], [], []⟩, rfl, rfl, rfl, fun key => rfl⟩
 | succ n ih =>
  intro hle
  obtain ⟨s, h1, h2, h3, h4⟩ := ih (by omega)
  have hnl : n < q.length := by omega
  have hx := hf n hnl
  have hstep : stepM l s q[n] = some ⟨q[n] :: s.seen, (memF s.first (gx xs n)).2, s.out ++ [(memF s.first (gx xs n)).1]⟩ := by
   unfold stepM
   rw [hx]
   dsimp only
   rw [if_neg]
   rw [h3, List.any_eq_true]
   rintro ⟨p, hp, he⟩
   rw [List.mem_reverse] at hp
   have he := ba_ext (of_decide_eq_true he)
   subst he
   obtain ⟨j, hj, hje⟩ := List.getElem_of_mem hp
   rw [List.length_take] at hj
   rw [List.getElem_take] at hje
   have := nodup_at hn (by omega) hnl hje
   omega
  have hmem : (memF s.first (gx xs n)).1 = memAt xs n := by
   unfold memF memAt
   by_cases h48 : (gx xs n).f3 = 48
   ·rw [if_pos h48, h4]
    have e : (List.range n).find? (fun k => decide ((gx xs k).f3 = 48 ∧ (gx xs k).f2.data.toList = (gx xs n).f2.data.toList)) = frst xs n := by
     unfold frst
     congr 1
     funext k
     unfold oneB
     rw [decide_eq_decide]
     exact ⟨fun h => ⟨h48, h.1, ba_data.1 h.2⟩, fun h => ⟨h.2.1, ba_data.2 h.2.2⟩⟩
    rw [e]
    cases frst xs n with
    | none => simp only [Option.map_none]; rw [h48]
    | some k => rfl
   ·rw [if_neg h48]
    have e : frst xs n = none := by
     unfold frst
     rw [List.find?_eq_none]
     intro k _ hk
     exact h48 (oneB_iff.1 hk).1
    rw [e]
  refine ⟨⟨q[n] :: s.seen, (memF s.first (gx xs n)).2, s.out ++ [(memF s.first (gx xs n)).1]⟩, ?_, ?_, ?_, fun key => ?_⟩
  ·rw [List.take_succ_eq_append_getElem hnl, List.foldlM_append, h1]
   show List.foldlM (stepM l) s [q[n]] = _
   rw [List.foldlM_cons, hstep]
   rfl
  ·show s.out ++ [(memF s.first (gx xs n)).1] = _
   rw [hmem, h2, List.range_succ, List.map_append]
   rfl
  ·show q[n] :: s.seen = _
   rw [h3, List.take_succ_eq_append_getElem hnl, List.reverse_append]
   rfl
  ·show lk (memF s.first (gx xs n)).2 key = _
   rw [List.range_succ, List.find?_append, Option.map_or, ← h4 key]
   have hsing : ∀ P : Nat → Bool, ([n].find? P).map (fun k => (gx xs k).f0) = if P n = true then some (gx xs n).f0 else none := by
    intro P
    rw [List.find?_cons]
    cases P n with
    | true => rfl
    | false => rfl
   rw [hsing]
   unfold memF
   by_cases h48 : (gx xs n).f3 = 48
   ·rw [if_pos h48]
    cases hl : lk s.first (gx xs n).f2.data.toList with
    | some r =>
     dsimp only
     by_cases hk : (gx xs n).f2.data.toList = key
     ·rw [← hk, hl]; rfl
     ·rw [if_neg (by rw [decide_eq_true_iff]; exact fun h => hk h.2)]
      cases lk s.first key <;> rfl
    | none =>
     dsimp only
     rw [lk]
     by_cases hk : key = (gx xs n).f2.data.toList
     ·rw [if_pos hk, hk, hl, if_pos (by rw [decide_eq_true_iff]; exact ⟨h48, rfl⟩)]; rfl
     ·rw [if_neg hk, if_neg (by rw [decide_eq_true_iff]; exact fun h => hk h.2.symm)]
      cases lk s.first key <;> rfl
   ·rw [if_neg h48, if_neg (by rw [decide_eq_true_iff]; exact fun h => h48 h.1)]
    cases lk s.first key <;> rfl
theorem membersF_is {l : List Node} {q : List ByteArray} {xs : List Node} (hl : q.length = l.length) (hf : ∀ (i : Nat) (h : i < q.length), findF l q[i] = some (gx xs i)) (hn : q.Nodup) : membersF l q = ((List.range q.length).map (memAt xs), 0) := by
 obtain ⟨s, h1, h2, _⟩ := mems_run hf hn q.length (Nat.le_refl _)
 rw [List.take_length] at h1
 unfold membersF
 rw [if_neg (fun e => e hl), h1]
 dsimp only
 rw [h2]
theorem putP_new {s : PS} {p : ByteArray} (h : ∀ q ∈ s, q.1 ≠ p) (c : Nat) : putP s p c = s ++ [(p, c)] := by
 unfold putP without
 rw [List.filter_eq_self.2 (fun q hq => by simpa using fun e => h q hq (ba_ext e))]
def nameAt (xs : List Node) (j : Nat) : ByteArray × Nat := ((gx xs j).f0, clsAt xs j)
theorem names_nodup {xs : List Node} {n : Nat} (hd : ∀ i j, i < n → j < n → (gx xs i).f0 = (gx xs j).f0 → i = j) : (((List.range n).map (nameAt xs)).map (fun q => q.1)).Nodup := by
 rw [List.map_map]
 rw [List.nodup_iff_pairwise_ne, List.pairwise_map]
 have h := @List.nodup_range n
 rw [List.nodup_iff_pairwise_ne] at h
 exact h.imp_of_mem (fun {a b} ha hb hne e => hne (hd a b (List.mem_range.1 ha) (List.mem_range.1 hb) e))
theorem steps_mems {xs : List Node} {n : Nat} (hd : ∀ i j, i < n → j < n → (gx xs i).f0 = (gx xs j).f0 → i = j) (h49 : ∀ i, i < n → ¬ (gx xs i).f3 = 49) : ∀ i, i ≤ n → stepsF ((List.range n).map (memAt xs)) i = some ((List.range i).map (nameAt xs)) := by
 intro i
 induction i with
 | zero => intro _; rfl
 | succ i ih =>
  intro hle
  have hin : i < ((List.range n).map (memAt xs)).length := by rw [List.length_map, List.length_range]; omega
  have hget : ∀ (j : Nat) (hj : j < ((List.range n).map (memAt xs)).length), ((List.range n).map (memAt xs))[j] = memAt xs j := fun j hj => by rw [List.getElem_map, List.getElem_range]
  rw [stepsF_succ (ih (by omega)), stepF_eq _ _ _ hin, hget i hin]
  have hnew : ∀ q ∈ (List.range i).map (nameAt xs), q.1 ≠ (gx xs i).f0 := by
   intro q hq e
   obtain ⟨j, hj, rfl⟩ := List.mem_map.1 hq
   rw [List.mem_range] at hj
   have := hd j i (by omega) (by omega) e
   omega
  have hadd : (List.range (i + 1)).map (nameAt xs) = (List.range i).map (nameAt xs) ++ [((gx xs i).f0, clsAt xs i)] := by rw [List.range_succ, List.map_append]; rfl
  rw [hadd]
  cases hf : frst xs i with
  | none =>
   have e : memAt xs i = ⟨(gx xs i).f0, (gx xs i).f1, (gx xs i).f3, (gx xs i).f4, (gx xs i).f5⟩ := by unfold memAt; rw [hf]
   have ec : clsAt xs i = i := by unfold clsAt; rw [hf]; rfl
   rw [e, if_neg (h49 i (by omega)), putP_new hnew, ec]
  | some k =>
   obtain ⟨hk, h1, _⟩ := frst_some hf
   have e : memAt xs i = ⟨(gx xs i).f0, (gx xs k).f0, 49, (gx xs i).f4, []⟩ := by unfold memAt; rw [hf]
   have ec : clsAt xs i = k := by unfold clsAt; rw [hf]; rfl
   have hkc : clsAt xs k = k := by unfold clsAt; rw [frst_first hf]; rfl
   have hat : atD ((List.range i).map (nameAt xs)) (gx xs k).f0.data.toList = some k := by
    have := atD_of_mem (names_nodup (n := i) (fun a b ha hb => hd a b (by omega) (by omega))) (q := nameAt xs k) (List.mem_map.2 ⟨k, List.mem_range.2 hk, rfl⟩)
    unfold nameAt at this ⊢
    rw [hkc] at this
    exact this
   have hmk : memAt xs k = ⟨(gx xs k).f0, (gx xs k).f1, (gx xs k).f3, (gx xs k).f4, (gx xs k).f5⟩ := by unfold memAt; rw [frst_first hf]
   rw [e, if_pos rfl, hat]
   dsimp only
   rw [List.getElem?_eq_getElem (by rw [List.length_map, List.length_range]; omega), hget]
   dsimp only
   rw [hmk, if_pos (oneB_iff.1 h1).2.1, putP_new hnew, ec]
theorem sameB_idx : ∀ (l r : List Node) (hl : l.length = r.length), (∀ (i : Nat) (hi : i < l.length), l[i].f2.toList = (r[i]'(by omega)).f2.toList ∧ equalB l[i] (r[i]'(by omega)) = true) → sameB l r = true
 | [], [], _, _ => rfl
 | [], _ :: _, h, _ => by cases h
 | _ :: _, [], h, _ => by cases h
 | a :: l, b :: r, hl, h => by
  rw [sameB]
  have h0 := h 0 (Nat.succ_pos _)
  rw [Bool.and_eq_true, Bool.and_eq_true]
  exact ⟨⟨decide_eq_true h0.1, h0.2⟩, sameB_idx l r (by simpa using hl) (fun i hi => h (i + 1) (by simpa using hi))⟩
theorem led48 {l : List Node} {x : Node} (h : ledB l x = true) (h48 : x.f3 = 48) : ∃ z, findF l x.f2 = some z ∧ z.f3 = 48 ∧ z.f2 = z.f0 ∧ lt x.f0 z.f0 = false ∧ z.f4.f0 = x.f4.f0 ∧ z.f4.f1 = x.f4.f1 ∧ z.f4.f2 = x.f4.f2 ∧ z.f4.f3 = x.f4.f3 ∧ (strOfNums z.f5).toList = (strOfNums x.f5).toList := by
 unfold ledB at h
 rw [if_pos h48] at h
 cases hf : findF l x.f2 with
 | none => rw [hf] at h; cases h
 | some z =>
  rw [hf] at h
  dsimp only at h
  rw [decide_eq_true_iff] at h
  exact ⟨z, rfl, h.1, ba_ext h.2.1, h.2.2⟩
theorem led_no {l : List Node} {x : Node} (h : ledB l x = true) (h48 : ¬ x.f3 = 48) : x.f2.toList = [] := by
 unfold ledB at h
 rw [if_neg h48] at h
 exact of_decide_eq_true h
theorem good_target {m : Mem} (h : goodM m = true) (h48 : m.f2 = 48) : m.f1.toList = [] := by
 unfold goodM at h
 rw [Bool.and_eq_true] at h
 have := h.2
 rw [if_pos (.inl h48)] at this
 exact of_decide_eq_true this
theorem tree_back {l : List Node} (hg : goodTree l = true) {q : List ByteArray} (hq : q.Perm (l.map (fun x => x.f0))) : (membersF l q).2 = 0 ∧ ∃ u, foldF (membersF l q).1 = (u, 0, 0) ∧ sameB l u = true := by
 obtain ⟨hr, hgm, _, hled⟩ := good_parts hg
 have hnd := paths_nodup hr
 have hqn : q.Nodup := hq.nodup_iff.2 hnd
 have hql : q.length = l.length := by rw [hq.length_eq, List.length_map]
 -- what is found, in order
 have hfind : ∀ p ∈ q, ∃ x ∈ l, findF l p = some x ∧ x.f0 = p := by
  intro p hp
  obtain ⟨x, hx, rfl⟩ := List.mem_map.1 (hq.mem_iff.1 hp)
  exact ⟨x, hx, findF_here hr hx, rfl⟩
 obtain ⟨xs, hxs⟩ : ∃ xs : List Node, xs = q.map (fun p => (findF l p).getD z40) := ⟨_, rfl⟩
 have hxl : xs.length = q.length := by rw [hxs, List.length_map]
 have hf : ∀ (i : Nat) (h : i < q.length), findF l q[i] = some (gx xs i) := by
  intro i h
  obtain ⟨x, _, h2, _⟩ := hfind q[i] (List.getElem_mem h)
  rw [gx_at (by omega)]
  subst hxs
  rw [List.getElem_map, h2]
  rfl
 have hmem : ∀ i, i < q.length → gx xs i ∈ l ∧ ∃ h : i < q.length, (gx xs i).f0 = q[i] := fun i hi => ⟨(findF_mem (hf i hi)).1, hi, (findF_mem (hf i hi)).2⟩
 have hd : ∀ i j, i < q.length → j < q.length → (gx xs i).f0 = (gx xs j).f0 → i = j := by
  intro i j hi hj e
  obtain ⟨_, _, h1⟩ := hmem i hi
  obtain ⟨_, _, h2⟩ := hmem j hj
  rw [h1, h2] at e
  exact nodup_at hqn hi hj e
 have h49 : ∀ i, i < q.length → ¬ (gx xs i).f3 = 49 := fun i hi => (hgm _ (hmem i hi).1).1
 have hM := membersF_is hql hf hqn
 rw [hM]
 refine ⟨rfl, ?_⟩
 dsimp only
 have hok : ((List.range q.length).map (memAt xs)).findIdx? (fun m => !goodM m) = none := by
  rw [List.findIdx?_eq_none_iff]
  intro m hm
  obtain ⟨i, hi, rfl⟩ := List.mem_map.1 hm
  rw [List.mem_range] at hi
  have h1 := (hgm _ (hmem i hi).1).2
  rw [Bool.not_eq_false']
  unfold memAt
  cases hfr : frst xs i with
  | none => exact h1
  | some k =>
   have hk := (frst_some hfr).1
   exact goodM_hard h1 (goodM_clean (hgm _ (hmem k (by omega)).1).2).1
 have hst := steps_mems hd h49 q.length (Nat.le_refl _)
 have hfold := foldF_end hok (s := (List.range q.length).map (nameAt xs)) (by rw [List.length_map, List.length_range]; exact hst)
 rw [hfold]
 refine ⟨_, rfl, ?_⟩
 generalize hsp : sortP ((List.range q.length).map (nameAt xs)) = sp
 have hspm : ∀ r, r ∈ sp ↔ ∃ j, j < q.length ∧ nameAt xs j = r := fun r => by
  rw [← hsp, (sortP_perm _).mem_iff, List.mem_map]
  exact ⟨fun ⟨j, hj, e⟩ => ⟨j, List.mem_range.1 hj, e⟩, fun ⟨j, hj, e⟩ => ⟨j, List.mem_range.2 hj, e⟩⟩
 have hrise : RiseP sp := by rw [← hsp]; exact sortP_rise (names_nodup hd)
 have hpaths : sp.map (fun r => r.1) = l.map (fun x => x.f0) := by
  refine List.Perm.eq_of_pairwise (le := fun a b => lt a b = true) (fun a b _ _ h1 h2 => by rw [lt_asym h1] at h2; cases h2) ?_ ?_ ?_
  ·rw [List.pairwise_map]; exact hrise
  ·rw [List.pairwise_map, List.pairwise_iff_getElem]
   exact fun i j hi hj hij => riseB_at hr i j hi hj hij
  ·have h1 : (sp.map (fun r => r.1)).Perm (((List.range q.length).map (nameAt xs)).map (fun r => r.1)) := by rw [← hsp]; exact (sortP_perm _).map _
   refine h1.trans ?_
   have h2 : ((List.range q.length).map (nameAt xs)).map (fun r => r.1) = q := by
    apply List.ext_getElem
    ·simp
    ·intro i h3 h4
     rw [List.getElem_map, List.getElem_map, List.getElem_range]
     exact (hmem i h4).2.2
   rw [h2]
   exact hq
 have hlen : sp.length = l.length := by have := congrArg List.length hpaths; simpa using this
 refine sameB_idx l _ (by rw [List.length_map, hlen]) (fun i hi => ?_)
 have his : i < sp.length := by omega
 rw [List.getElem_map]
 obtain ⟨j, hj, hje⟩ := (hspm sp[i]).1 (List.getElem_mem his)
 have hpi : sp[i].1 = l[i].f0 := by
  have h1 : (sp.map (fun r => r.1))[i]'(by simpa using his) = (l.map (fun x => x.f0))[i]'(by simpa using hi) := by congr 1
  simpa using h1
 have hxj : gx xs j = l[i] := by
  have h1 := findF_here hr (hmem j hj).1
  have h2 := findF_here hr (List.getElem_mem hi)
  have h3 : (gx xs j).f0 = l[i].f0 := by rw [← hpi, ← hje]; rfl
  rw [h3, h2] at h1
  exact (Option.some.inj h1).symm
 rw [← hje]
 have hcj := cls_le xs j
 have hm : ((List.range q.length).map (memAt xs)).getD (clsAt xs j) zM = ⟨(gx xs (clsAt xs j)).f0, (gx xs (clsAt xs j)).f1, (gx xs (clsAt xs j)).f3, (gx xs (clsAt xs j)).f4, (gx xs (clsAt xs j)).f5⟩ := by
  rw [List.getD_eq_getElem?_getD, List.getElem?_eq_getElem (by simp; omega), List.getElem_map, List.getElem_range]
  show memAt xs (clsAt xs j) = _
  unfold memAt
  rw [cls_first]
 unfold nodeOf nameAt
 dsimp only
 rw [hm]
 dsimp only
 have hxg := hgm _ (hmem j hj).1
 have hxl2 := hled _ (hmem j hj).1
 rw [← hxj]
 by_cases h48 : (gx xs j).f3 = 48
 ·obtain ⟨hy48, hyl⟩ := cls_one h48
  have hcm := hmem (clsAt xs j) (by omega)
  have hyg := hgm _ hcm.1
  have hyl2 := hled _ hcm.1
  obtain ⟨z, hz1, hz2, hz3, hz4, hz5, hz6, hz7, hz8, hz9⟩ := led48 hxl2 h48
  obtain ⟨z', hz1', hz2', hz3', hz4', hz5', hz6', hz7', hz8', hz9'⟩ := led48 hyl2 hy48
  rw [hyl, hz1] at hz1'
  cases hz1'
  rw [if_pos hy48]
  have hzm := findF_mem hz1
  -- the leader is the first one of its class
  have hlead : leadOf sp (clsAt xs j) = (gx xs j).f2 := by
   obtain ⟨jz, hjz, hjze⟩ : ∃ jz, jz < q.length ∧ gx xs jz = z := by
    have h1 : z.f0 ∈ q := hq.mem_iff.2 (List.mem_map.2 ⟨z, hzm.1, rfl⟩)
    obtain ⟨jz, hjz, e⟩ := List.getElem_of_mem h1
    refine ⟨jz, hjz, ?_⟩
    have h2 := hf jz hjz
    rw [e, findF_here hr hzm.1] at h2
    exact (Option.some.inj h2).symm
   have hcz : clsAt xs jz = clsAt xs j := cls_same (by rw [hjze]; exact hz2) h48 (by rw [hjze, hz3, hzm.2])
   have hin : ((gx xs jz).f0, clsAt xs j) ∈ sp := (hspm _).2 ⟨jz, hjz, by unfold nameAt; rw [hcz]⟩
   unfold leadOf
   cases hfd : sp.find? (fun r => decide (r.2 = clsAt xs j)) with
   | none =>
    rw [List.find?_eq_none] at hfd
    exact absurd (decide_eq_true rfl) (hfd _ hin)
   | some r =>
    dsimp only
    rw [List.find?_eq_some_iff_append] at hfd
    obtain ⟨hr2, as_, bs, hsplit, has⟩ := hfd
    have hr2 := of_decide_eq_true hr2
    obtain ⟨jr, hjr, hjre⟩ := (hspm r).1 (by rw [hsplit]; simp)
    have hrc : clsAt xs jr = clsAt xs j := by rw [← hr2, ← hjre]; rfl
    have h48r : (gx xs jr).f3 = 48 := by
     apply Decidable.byContradiction
     intro hno
     have h1 := cls_plain hno
     rw [hrc] at h1
     rw [← h1] at hno
     exact hno hy48
    have hfr : (gx xs jr).f2 = (gx xs j).f2 := by
     have h1 := (cls_one h48r).2
     rw [hrc, hyl] at h1
     exact h1.symm
    obtain ⟨z2, hw1, _, _, hw4, _⟩ := led48 (hled _ (hmem jr hjr).1) h48r
    rw [hfr, hz1] at hw1
    cases hw1
    have hrp : r.1 = (gx xs jr).f0 := by rw [← hjre]; rfl
    have hzp : (gx xs jz).f0 = (gx xs j).f2 := by rw [hjze]; exact hzm.2
    rw [hsplit] at hin
    rcases List.mem_append.1 hin with h1 | h1
    ·have := has _ h1
     simp at this
    ·rcases List.mem_cons.1 h1 with h1 | h1
     ·rw [← hzp, ← h1]
     ·exfalso
      unfold RiseP at hrise
      rw [hsplit, List.pairwise_append] at hrise
      have h2 := (List.pairwise_cons.1 hrise.2.1).1 _ h1
      dsimp only at h2
      rw [hrp, hjze, hw4] at h2
      cases h2
  rw [hlead]
  refine ⟨rfl, ?_⟩
  unfold equalB
  rw [decide_eq_true_iff]
  refine ⟨rfl, by rw [hy48, h48], ?_, ?_, ?_, ?_, ?_, ?_⟩
  ·rw [← hz5, hz5']
  ·rw [← hz6, hz6']
  ·rw [← hz7, hz7']
  ·rw [← hz8, hz8']
  ·have a1 : (gx xs j).f1.toList = [] := good_target hxg.2 h48
   have a2 : (gx xs (clsAt xs j)).f1.toList = [] := good_target hyg.2 hy48
   rw [a1]
   exact a2.symm
  ·rw [← hz9, hz9']
 ·rw [cls_plain h48, if_neg h48]
  have h1 := led_no hxl2 h48
  refine ⟨by rw [h1]; simp [emp, Lib.toList_data], ?_⟩
  unfold equalB
  simp
end Go.Proofs.YtfljbidecljlcaaDoor

namespace Go.Proofs.YtfljbidecljlcaaDoor.Print
open Go.RowKit Go.Proofs.YtfljbidecljlcaaDoorW.PrintWords Go.Proofs.YtfljbidecljlcaaDoorW.PrintLast Go.Proofs.YtfljbidecljlcaaDoorW.PrintMore
attribute [local go_sem] max2_int min2_int max_two min_two max_three min_three max_four min_four   -- for this text's walks alone
set_option linter.unusedVariables false
set_option linter.unusedSimpArgs false
end Go.Proofs.YtfljbidecljlcaaDoor.Print

namespace Go.Proofs.YtfljbidecljlcaaDoor.Print
open Go.RowKit Go.Proofs.YtfljbidecljlcaaDoorW.PrintWords Go.Proofs.YtfljbidecljlcaaDoorW.PrintLast Go.Proofs.YtfljbidecljlcaaDoorW.PrintMore
attribute [local go_sem] max2_int min2_int max_two min_two max_three min_three max_four min_four   -- for this text's walks alone
set_option linter.unusedVariables false
set_option linter.unusedSimpArgs false
attribute [local go_sem high] eqA38
end Go.Proofs.YtfljbidecljlcaaDoor.Print

namespace Go.Proofs.YtfljbidecljlcaaDoor
open Go.RowKit Go.Proofs.YtfljbidecljlcaaDoor.Print Go.Proofs.YtfljbidecljlcaaDoorW.PrintWords
theorem equal_chain (a b : Node) {r : Option Bool} (h : r = some ((strOfNums a.f5).toList == (strOfNums b.f5).toList)) : (if a.f0.toList = b.f0.toList then (if a.f3 = b.f3 then (if (a.f4.f0 == b.f4.f0 && (a.f4.f1 == b.f4.f1 && (a.f4.f2 == b.f4.f2 && (a.f4.f3 == b.f4.f3)))) = true then (if a.f1.toList = b.f1.toList then r else (some false)) else (some false)) else (some false)) else (some false)) = some (equalB a b) := by
 subst h
 unfold equalB
 by_cases h0 : a.f0.toList = b.f0.toList
 ·rw [if_pos h0]
  by_cases h1 : a.f3 = b.f3
  ·rw [if_pos h1]
   by_cases h2 : (a.f4.f0 == b.f4.f0 && (a.f4.f1 == b.f4.f1 && (a.f4.f2 == b.f4.f2 && (a.f4.f3 == b.f4.f3)))) = true
   ·rw [if_pos h2]
    simp only [Bool.and_eq_true, beq_iff_eq] at h2
    by_cases h3 : a.f1.toList = b.f1.toList
    ·rw [if_pos h3]
     congr 1
     rw [Bool.eq_iff_iff, beq_iff_eq, decide_eq_true_iff]
     exact ⟨fun h => ⟨h0, h1, h2.1, h2.2.1, h2.2.2.1, h2.2.2.2, h3, h⟩, fun h => h.2.2.2.2.2.2.2⟩
    ·rw [if_neg h3, decide_eq_false]
     exact fun h => h3 h.2.2.2.2.2.2.1
   ·rw [if_neg h2, decide_eq_false]
    intro h
    apply h2
    simp only [Bool.and_eq_true, beq_iff_eq]
    exact ⟨h.2.2.1, h.2.2.2.1, h.2.2.2.2.1, h.2.2.2.2.2.1⟩
  ·rw [if_neg h1, decide_eq_false]
   exact fun h => h1 h.2.1
 ·rw [if_neg h0, decide_eq_false]
  exact fun h => h0 h.1
end Go.Proofs.YtfljbidecljlcaaDoor

namespace Go.Proofs.YtfljbidecljlcaaDoor.Print
open Go.RowKit Go.Proofs.YtfljbidecljlcaaDoorW.PrintWords Go.Proofs.YtfljbidecljlcaaDoorW.PrintLast Go.Proofs.YtfljbidecljlcaaDoorW.PrintMore
attribute [local go_sem] max2_int min2_int max_two min_two max_three min_three max_four min_four   -- for this text's walks alone
set_option linter.unusedVariables false
set_option linter.unusedSimpArgs false
attribute [local go_sem high] eqA38
def bindleref08_Equal.f (a0_0 : ByteArray) (a0_1 : ByteArray) (a0_2 : ByteArray) (a0_3 : Int) (a0_4 : Int) (a0_5 : Int) (a0_6 : Int) (a0_7 : Int) (l0_8 : List Int) (a1_0 : ByteArray) (a1_1 : ByteArray) (a1_2 : ByteArray) (a1_3 : Int) (a1_4 : Int) (a1_5 : Int) (a1_6 : Int) (a1_7 : Int) (l1_8 : List Int) : Option (Bool) := if a0_0.toList = a1_0.toList then (if a0_3 = a1_3 then (if (a0_4 == a1_4 && (a0_5 == a1_5 && (a0_6 == a1_6 && (a0_7 == a1_7)))) = true then (if a0_1.toList = a1_1.toList then (some ((strOfNums l0_8).toList == (strOfNums l1_8).toList)) else (some false)) else (some false)) else (some false)) else (some false)
set_option maxHeartbeats 8000000 in
set_option maxRecDepth 100000 in
theorem bindleref08_Equal.calls (a0_0 : ByteArray) (a0_1 : ByteArray) (a0_2 : ByteArray) (a0_3 : Int) (a0_4 : Int) (a0_5 : Int) (a0_6 : Int) (a0_7 : Int) (A0_8 : Option Addr) (c0_8 : Nat) (l0_8 : List Int) (a1_0 : ByteArray) (a1_1 : ByteArray) (a1_2 : ByteArray) (a1_3 : Int) (a1_4 : Int) (a1_5 : Int) (a1_6 : Int) (a1_7 : Int) (A1_8 : Option Addr) (c1_8 : Nat) (l1_8 : List Int) (r : Bool) (w : World) (hr0_8 : Kd.C (Kd.int .u8) w A0_8 l0_8.length l0_8) (hc0_8 : l0_8.length ≤ c0_8) (hr1_8 : Kd.C (Kd.int .u8) w A1_8 l1_8.length l1_8) (hc1_8 : l1_8.length ≤ c1_8) (h : bindleref08_Equal.f a0_0 a0_1 a0_2 a0_3 a0_4 a0_5 a0_6 a0_7 l0_8 a1_0 a1_1 a1_2 a1_3 a1_4 a1_5 a1_6 a1_7 l1_8 = some r) :
  Calls Tryd.prog 35 #[.agg #[.string a0_0, .string a0_1, .string a0_2, .int .u8 a0_3, .int .i64 a0_4, .int .i64 a0_5, .int .i64 a0_6, .int .i64 a0_7, .slice A0_8 l0_8.length c0_8], .agg #[.string a1_0, .string a1_1, .string a1_2, .int .u8 a1_3, .int .i64 a1_4, .int .i64 a1_5, .int .i64 a1_6, .int .i64 a1_7, .slice A1_8 l1_8.length c1_8]] w fun e w' => e = .returned (.bool r) ∧ Below w.heap.size w w' := by
 have hu40 := Tryd.underlying40
 have hu38 := Tryd.underlying38
 have HR0_8 := A0_ hr0_8
 have HC0_8 := A0_ hc0_8
 clear hr0_8 hc0_8
 have HR1_8 := A0_ hr1_8
 have HC1_8 := A0_ hc1_8
 clear hr1_8 hc1_8
 have HB := A0_ (Below.refl w.heap.size w)
 have H : (if a0_0.toList = a1_0.toList then (if a0_3 = a1_3 then (if (a0_4 == a1_4 && (a0_5 == a1_5 && (a0_6 == a1_6 && (a0_7 == a1_7)))) = true then (if a0_1.toList = a1_1.toList then (some ((strOfNums l0_8).toList == (strOfNums l1_8).toList)) else (some false)) else (some false)) else (some false)) else (some false)) = some r := h
 clear h
 by_cases c3 : a0_0.toList = a1_0.toList
 rotate_left
 ·rw [if_neg c3] at H
  have c3b0 : (a0_0.toList == a1_0.toList) = false := beq_eq_false_iff_ne.mpr c3
  have c3b1 : (a0_0.toList != a1_0.toList) = true := bne_iff_ne.mpr c3
  obtain rfl := Option.some.inj H
  go_enter Tryd.func35, Tryd.ntmps35
  go_wp2_with (first | ((with_reducible refine gate_dst (N := 2) rfl ?_); refine box_event ?hg (N := 2) ?hd (cs := #[.string a0_0, .string a0_1, .string a0_2, .int .u8 a0_3, .int .i64 a0_4, .int .i64 a0_5, .int .i64 a0_6, .int .i64 a0_7, .slice A0_8 l0_8.length c0_8]) (t := 40) ?hr ?_; (case hd => rfl); (case hg => rfl); (case hr => first | (go_simp; done) | (go_simp; rfl)); intro gb391 hg w29 hbox hb; have n0_ := A0_ (below_step (wb_ HB.out) hb); have n1_ := A0_ (hbox); have n2_ := A0_ ((by rw [hg]; exact (below_size (wb_ HB.out)) : w.heap.size ≤ gb391)); have n3_ := A0_ ((by rw [hg]; exact (below_size (wb_ HB.out)) : w.heap.size ≤ gb391)); clear HB; have HB := n0_; have BK391 := n1_; have GW391 := n2_; have GE391 := n3_; clear n0_ n1_ n2_ n3_; clear hb hbox hg) | ((with_reducible refine gate_dst (N := 3) rfl ?_); refine box_event ?hg (N := 3) ?hd (cs := #[.string a1_0, .string a1_1, .string a1_2, .int .u8 a1_3, .int .i64 a1_4, .int .i64 a1_5, .int .i64 a1_6, .int .i64 a1_7, .slice A1_8 l1_8.length c1_8]) (t := 40) ?hr ?_; (case hd => rfl); (case hg => rfl); (case hr => first | (go_simp; done) | (go_simp; rfl)); intro gb392 hg w30 hbox hb; have n0_ := A0_ (blk_below (g := gb391) (o := .cells #[.string a0_0, .string a0_1, .string a0_2, .int .u8 a0_3, .int .i64 a0_4, .int .i64 a0_5, .int .i64 a0_6, .int .i64 a0_7, .slice A0_8 l0_8.length c0_8] 40 (0, 0)) (wB_ BK391.out) hb); have n1_ := A0_ (below_step (wb1_ HB.out GE391.out) hb); have n2_ := A0_ (hbox); have n3_ := A0_ ((by rw [hg]; exact (below_size (wb1_ HB.out GE391.out)) : w.heap.size ≤ gb392)); have n4_ := A0_ ((by rw [hg]; exact (below_size (wb1_ HB.out GE391.out)) : w.heap.size ≤ gb392)); have n5_ := A0_ ((by rw [hg]; exact Nat.ne_of_lt (blk_lt (g := gb391) (o := .cells #[.string a0_0, .string a0_1, .string a0_2, .int .u8 a0_3, .int .i64 a0_4, .int .i64 a0_5, .int .i64 a0_6, .int .i64 a0_7, .slice A0_8 l0_8.length c0_8] 40 (0, 0)) (wB_ BK391.out)) : gb391 ≠ gb392)); have n6_ := A0_ ((by rw [hg]; exact Nat.ne_of_gt (blk_lt (g := gb391) (o := .cells #[.string a0_0, .string a0_1, .string a0_2, .int .u8 a0_3, .int .i64 a0_4, .int .i64 a0_5, .int .i64 a0_6, .int .i64 a0_7, .slice A0_8 l0_8.length c0_8] 40 (0, 0)) (wB_ BK391.out)) : gb392 ≠ gb391)); clear BK391; clear HB; have BK391 := n0_; have HB := n1_; have BK392 := n2_; have GW392 := n3_; have GE392 := n4_; have NB391_392 := n5_; have NB392_391 := n6_; clear n0_ n1_ n2_ n3_ n4_ n5_ n6_; clear hb hbox hg; have hnb31 := NB391_392.out; have hnc31 := NB392_391.out; have hcz32_0 : w30.cell? ⟨gb391, 0, none⟩ = some (.string a0_0) := (bc_ BK391.out 0).trans rfl; have hcz32_1 : w30.cell? ⟨gb391, 1, none⟩ = some (.string a0_1) := (bc_ BK391.out 1).trans rfl; have hcz32_2 : w30.cell? ⟨gb391, 2, none⟩ = some (.string a0_2) := (bc_ BK391.out 2).trans rfl; have hcz32_3 : w30.cell? ⟨gb391, 3, none⟩ = some (.int .u8 a0_3) := (bc_ BK391.out 3).trans rfl; have hcz32_4 : w30.cell? ⟨gb391, 4, none⟩ = some (.int .i64 a0_4) := (bc_ BK391.out 4).trans rfl; have hcz32_5 : w30.cell? ⟨gb391, 5, none⟩ = some (.int .i64 a0_5) := (bc_ BK391.out 5).trans rfl; have hcz32_6 : w30.cell? ⟨gb391, 6, none⟩ = some (.int .i64 a0_6) := (bc_ BK391.out 6).trans rfl; have hcz32_7 : w30.cell? ⟨gb391, 7, none⟩ = some (.int .i64 a0_7) := (bc_ BK391.out 7).trans rfl; have hcz32_8 : w30.cell? ⟨gb391, 8, none⟩ = some (.slice A0_8 l0_8.length c0_8) := (bc_ BK391.out 8).trans rfl; have hfz32_0 := bf_ BK391.out 0; have hfz32_1 := bf_ BK391.out 1; have hfz32_2 := bf_ BK391.out 2; have hfz32_3 := bf_ BK391.out 3; have hfz32_4 := bf_ BK391.out 4; have hfz32_5 := bf_ BK391.out 5; have hfz32_6 := bf_ BK391.out 6; have hfz32_7 := bf_ BK391.out 7; have hfz32_8 := bf_ BK391.out 8; have hcz33_0 : w30.cell? ⟨gb392, 0, none⟩ = some (.string a1_0) := (bc_ BK392.out 0).trans rfl; have hcz33_1 : w30.cell? ⟨gb392, 1, none⟩ = some (.string a1_1) := (bc_ BK392.out 1).trans rfl; have hcz33_2 : w30.cell? ⟨gb392, 2, none⟩ = some (.string a1_2) := (bc_ BK392.out 2).trans rfl; have hcz33_3 : w30.cell? ⟨gb392, 3, none⟩ = some (.int .u8 a1_3) := (bc_ BK392.out 3).trans rfl; have hcz33_4 : w30.cell? ⟨gb392, 4, none⟩ = some (.int .i64 a1_4) := (bc_ BK392.out 4).trans rfl; have hcz33_5 : w30.cell? ⟨gb392, 5, none⟩ = some (.int .i64 a1_5) := (bc_ BK392.out 5).trans rfl; have hcz33_6 : w30.cell? ⟨gb392, 6, none⟩ = some (.int .i64 a1_6) := (bc_ BK392.out 6).trans rfl; have hcz33_7 : w30.cell? ⟨gb392, 7, none⟩ = some (.int .i64 a1_7) := (bc_ BK392.out 7).trans rfl; have hcz33_8 : w30.cell? ⟨gb392, 8, none⟩ = some (.slice A1_8 l1_8.length c1_8) := (bc_ BK392.out 8).trans rfl; have hfz33_0 := bf_ BK392.out 0; have hfz33_1 := bf_ BK392.out 1; have hfz33_2 := bf_ BK392.out 2; have hfz33_3 := bf_ BK392.out 3; have hfz33_4 := bf_ BK392.out 4; have hfz33_5 := bf_ BK392.out 5; have hfz33_6 := bf_ BK392.out 6; have hfz33_7 := bf_ BK392.out 7; have hfz33_8 := bf_ BK392.out 8))
  go_ret
  exact ⟨we_, wb2_ HB.out GE391.out GE392.out⟩
 rw [if_pos c3] at H
 have c3b0 : (a0_0.toList == a1_0.toList) = true := beq_iff_eq.mpr c3
 have c3b1 : (a0_0.toList != a1_0.toList) = false := bne_eq_false_iff_eq.mpr c3
 clear c3
 by_cases c4 : a0_3 = a1_3
 rotate_left
 ·rw [if_neg c4] at H
  have c4b0 : (a0_3 == a1_3) = false := beq_eq_false_iff_ne.mpr c4
  have c4b1 : (a0_3 != a1_3) = true := bne_iff_ne.mpr c4
  obtain rfl := Option.some.inj H
  go_enter Tryd.func35, Tryd.ntmps35
  go_wp2_with (first | ((with_reducible refine gate_dst (N := 2) rfl ?_); refine box_event ?hg (N := 2) ?hd (cs := #[.string a0_0, .string a0_1, .string a0_2, .int .u8 a0_3, .int .i64 a0_4, .int .i64 a0_5, .int .i64 a0_6, .int .i64 a0_7, .slice A0_8 l0_8.length c0_8]) (t := 40) ?hr ?_; (case hd => rfl); (case hg => rfl); (case hr => first | (go_simp; done) | (go_simp; rfl)); intro gb391 hg w24 hbox hb; have n0_ := A0_ (below_step (wb_ HB.out) hb); have n1_ := A0_ (hbox); have n2_ := A0_ ((by rw [hg]; exact (below_size (wb_ HB.out)) : w.heap.size ≤ gb391)); have n3_ := A0_ ((by rw [hg]; exact (below_size (wb_ HB.out)) : w.heap.size ≤ gb391)); clear HB; have HB := n0_; have BK391 := n1_; have GW391 := n2_; have GE391 := n3_; clear n0_ n1_ n2_ n3_; clear hb hbox hg) | ((with_reducible refine gate_dst (N := 3) rfl ?_); refine box_event ?hg (N := 3) ?hd (cs := #[.string a1_0, .string a1_1, .string a1_2, .int .u8 a1_3, .int .i64 a1_4, .int .i64 a1_5, .int .i64 a1_6, .int .i64 a1_7, .slice A1_8 l1_8.length c1_8]) (t := 40) ?hr ?_; (case hd => rfl); (case hg => rfl); (case hr => first | (go_simp; done) | (go_simp; rfl)); intro gb392 hg w25 hbox hb; have n0_ := A0_ (blk_below (g := gb391) (o := .cells #[.string a0_0, .string a0_1, .string a0_2, .int .u8 a0_3, .int .i64 a0_4, .int .i64 a0_5, .int .i64 a0_6, .int .i64 a0_7, .slice A0_8 l0_8.length c0_8] 40 (0, 0)) (wB_ BK391.out) hb); have n1_ := A0_ (below_step (wb1_ HB.out GE391.out) hb); have n2_ := A0_ (hbox); have n3_ := A0_ ((by rw [hg]; exact (below_size (wb1_ HB.out GE391.out)) : w.heap.size ≤ gb392)); have n4_ := A0_ ((by rw [hg]; exact (below_size (wb1_ HB.out GE391.out)) : w.heap.size ≤ gb392)); have n5_ := A0_ ((by rw [hg]; exact Nat.ne_of_lt (blk_lt (g := gb391) (o := .cells #[.string a0_0, .string a0_1, .string a0_2, .int .u8 a0_3, .int .i64 a0_4, .int .i64 a0_5, .int .i64 a0_6, .int .i64 a0_7, .slice A0_8 l0_8.length c0_8] 40 (0, 0)) (wB_ BK391.out)) : gb391 ≠ gb392)); have n6_ := A0_ ((by rw [hg]; exact Nat.ne_of_gt (blk_lt (g := gb391) (o := .cells #[.string a0_0, .string a0_1, .string a0_2, .int .u8 a0_3, .int .i64 a0_4, .int .i64 a0_5, .int .i64 a0_6, .int .i64 a0_7, .slice A0_8 l0_8.length c0_8] 40 (0, 0)) (wB_ BK391.out)) : gb392 ≠ gb391)); clear BK391; clear HB; have BK391 := n0_; have HB := n1_; have BK392 := n2_; have GW392 := n3_; have GE392 := n4_; have NB391_392 := n5_; have NB392_391 := n6_; clear n0_ n1_ n2_ n3_ n4_ n5_ n6_; clear hb hbox hg; have hnb26 := NB391_392.out; have hnc26 := NB392_391.out; have hcz27_0 : w25.cell? ⟨gb391, 0, none⟩ = some (.string a0_0) := (bc_ BK391.out 0).trans rfl; have hcz27_1 : w25.cell? ⟨gb391, 1, none⟩ = some (.string a0_1) := (bc_ BK391.out 1).trans rfl; have hcz27_2 : w25.cell? ⟨gb391, 2, none⟩ = some (.string a0_2) := (bc_ BK391.out 2).trans rfl; have hcz27_3 : w25.cell? ⟨gb391, 3, none⟩ = some (.int .u8 a0_3) := (bc_ BK391.out 3).trans rfl; have hcz27_4 : w25.cell? ⟨gb391, 4, none⟩ = some (.int .i64 a0_4) := (bc_ BK391.out 4).trans rfl; have hcz27_5 : w25.cell? ⟨gb391, 5, none⟩ = some (.int .i64 a0_5) := (bc_ BK391.out 5).trans rfl; have hcz27_6 : w25.cell? ⟨gb391, 6, none⟩ = some (.int .i64 a0_6) := (bc_ BK391.out 6).trans rfl; have hcz27_7 : w25.cell? ⟨gb391, 7, none⟩ = some (.int .i64 a0_7) := (bc_ BK391.out 7).trans rfl; have hcz27_8 : w25.cell? ⟨gb391, 8, none⟩ = some (.slice A0_8 l0_8.length c0_8) := (bc_ BK391.out 8).trans rfl; have hfz27_0 := bf_ BK391.out 0; have hfz27_1 := bf_ BK391.out 1; have hfz27_2 := bf_ BK391.out 2; have hfz27_3 := bf_ BK391.out 3; have hfz27_4 := bf_ BK391.out 4; have hfz27_5 := bf_ BK391.out 5; have hfz27_6 := bf_ BK391.out 6; have hfz27_7 := bf_ BK391.out 7; have hfz27_8 := bf_ BK391.out 8; have hcz28_0 : w25.cell? ⟨gb392, 0, none⟩ = some (.string a1_0) := (bc_ BK392.out 0).trans rfl; have hcz28_1 : w25.cell? ⟨gb392, 1, none⟩ = some (.string a1_1) := (bc_ BK392.out 1).trans rfl; have hcz28_2 : w25.cell? ⟨gb392, 2, none⟩ = some (.string a1_2) := (bc_ BK392.out 2).trans rfl; have hcz28_3 : w25.cell? ⟨gb392, 3, none⟩ = some (.int .u8 a1_3) := (bc_ BK392.out 3).trans rfl; have hcz28_4 : w25.cell? ⟨gb392, 4, none⟩ = some (.int .i64 a1_4) := (bc_ BK392.out 4).trans rfl; have hcz28_5 : w25.cell? ⟨gb392, 5, none⟩ = some (.int .i64 a1_5) := (bc_ BK392.out 5).trans rfl; have hcz28_6 : w25.cell? ⟨gb392, 6, none⟩ = some (.int .i64 a1_6) := (bc_ BK392.out 6).trans rfl; have hcz28_7 : w25.cell? ⟨gb392, 7, none⟩ = some (.int .i64 a1_7) := (bc_ BK392.out 7).trans rfl; have hcz28_8 : w25.cell? ⟨gb392, 8, none⟩ = some (.slice A1_8 l1_8.length c1_8) := (bc_ BK392.out 8).trans rfl; have hfz28_0 := bf_ BK392.out 0; have hfz28_1 := bf_ BK392.out 1; have hfz28_2 := bf_ BK392.out 2; have hfz28_3 := bf_ BK392.out 3; have hfz28_4 := bf_ BK392.out 4; have hfz28_5 := bf_ BK392.out 5; have hfz28_6 := bf_ BK392.out 6; have hfz28_7 := bf_ BK392.out 7; have hfz28_8 := bf_ BK392.out 8))
  go_ret
  exact ⟨we_, wb2_ HB.out GE391.out GE392.out⟩
 rw [if_pos c4] at H
 have c4b0 : (a0_3 == a1_3) = true := beq_iff_eq.mpr c4
 have c4b1 : (a0_3 != a1_3) = false := bne_eq_false_iff_eq.mpr c4
 clear c4
 by_cases c5 : (a0_4 == a1_4 && (a0_5 == a1_5 && (a0_6 == a1_6 && (a0_7 == a1_7)))) = true
 rotate_left
 ·rw [if_neg c5] at H
  have c5b0 : (a0_4 == a1_4 && (a0_5 == a1_5 && (a0_6 == a1_6 && (a0_7 == a1_7)))) = false := by simpa using c5
  (try (have c5b1 : decide (a0_4 = a1_4 && (a0_5 == a1_5 && (a0_6 == a1_6 && (a0_7 == a1_7)))) = false := by simpa using c5))
  (try (have c5b2 : (a0_4 == a1_4 && (a0_5 == a1_5 && (a0_6 == a1_6 && (a0_7 == a1_7)))) = false := by simpa using c5))
  (try (have c5b3 : ¬ (a0_4 = a1_4 && (a0_5 == a1_5 && (a0_6 == a1_6 && (a0_7 == a1_7)))) := by simpa using c5))
  clear c5
  obtain rfl := Option.some.inj H
  go_enter Tryd.func35, Tryd.ntmps35
  go_wp2_with (first | ((with_reducible refine gate_dst (N := 2) rfl ?_); refine box_event ?hg (N := 2) ?hd (cs := #[.string a0_0, .string a0_1, .string a0_2, .int .u8 a0_3, .int .i64 a0_4, .int .i64 a0_5, .int .i64 a0_6, .int .i64 a0_7, .slice A0_8 l0_8.length c0_8]) (t := 40) ?hr ?_; (case hd => rfl); (case hg => rfl); (case hr => first | (go_simp; done) | (go_simp; rfl)); intro gb391 hg w19 hbox hb; have n0_ := A0_ (below_step (wb_ HB.out) hb); have n1_ := A0_ (hbox); have n2_ := A0_ ((by rw [hg]; exact (below_size (wb_ HB.out)) : w.heap.size ≤ gb391)); have n3_ := A0_ ((by rw [hg]; exact (below_size (wb_ HB.out)) : w.heap.size ≤ gb391)); clear HB; have HB := n0_; have BK391 := n1_; have GW391 := n2_; have GE391 := n3_; clear n0_ n1_ n2_ n3_; clear hb hbox hg) | ((with_reducible refine gate_dst (N := 3) rfl ?_); refine box_event ?hg (N := 3) ?hd (cs := #[.string a1_0, .string a1_1, .string a1_2, .int .u8 a1_3, .int .i64 a1_4, .int .i64 a1_5, .int .i64 a1_6, .int .i64 a1_7, .slice A1_8 l1_8.length c1_8]) (t := 40) ?hr ?_; (case hd => rfl); (case hg => rfl); (case hr => first | (go_simp; done) | (go_simp; rfl)); intro gb392 hg w20 hbox hb; have n0_ := A0_ (blk_below (g := gb391) (o := .cells #[.string a0_0, .string a0_1, .string a0_2, .int .u8 a0_3, .int .i64 a0_4, .int .i64 a0_5, .int .i64 a0_6, .int .i64 a0_7, .slice A0_8 l0_8.length c0_8] 40 (0, 0)) (wB_ BK391.out) hb); have n1_ := A0_ (below_step (wb1_ HB.out GE391.out) hb); have n2_ := A0_ (hbox); have n3_ := A0_ ((by rw [hg]; exact (below_size (wb1_ HB.out GE391.out)) : w.heap.size ≤ gb392)); have n4_ := A0_ ((by rw [hg]; exact (below_size (wb1_ HB.out GE391.out)) : w.heap.size ≤ gb392)); have n5_ := A0_ ((by rw [hg]; exact Nat.ne_of_lt (blk_lt (g := gb391) (o := .cells #[.string a0_0, .string a0_1, .string a0_2, .int .u8 a0_3, .int .i64 a0_4, .int .i64 a0_5, .int .i64 a0_6, .int .i64 a0_7, .slice A0_8 l0_8.length c0_8] 40 (0, 0)) (wB_ BK391.out)) : gb391 ≠ gb392)); have n6_ := A0_ ((by rw [hg]; exact Nat.ne_of_gt (blk_lt (g := gb391) (o := .cells #[.string a0_0, .string a0_1, .string a0_2, .int .u8 a0_3, .int .i64 a0_4, .int .i64 a0_5, .int .i64 a0_6, .int .i64 a0_7, .slice A0_8 l0_8.length c0_8] 40 (0, 0)) (wB_ BK391.out)) : gb392 ≠ gb391)); clear BK391; clear HB; have BK391 := n0_; have HB := n1_; have BK392 := n2_; have GW392 := n3_; have GE392 := n4_; have NB391_392 := n5_; have NB392_391 := n6_; clear n0_ n1_ n2_ n3_ n4_ n5_ n6_; clear hb hbox hg; have hnb21 := NB391_392.out; have hnc21 := NB392_391.out; have hcz22_0 : w20.cell? ⟨gb391, 0, none⟩ = some (.string a0_0) := (bc_ BK391.out 0).trans rfl; have hcz22_1 : w20.cell? ⟨gb391, 1, none⟩ = some (.string a0_1) := (bc_ BK391.out 1).trans rfl; have hcz22_2 : w20.cell? ⟨gb391, 2, none⟩ = some (.string a0_2) := (bc_ BK391.out 2).trans rfl; have hcz22_3 : w20.cell? ⟨gb391, 3, none⟩ = some (.int .u8 a0_3) := (bc_ BK391.out 3).trans rfl; have hcz22_4 : w20.cell? ⟨gb391, 4, none⟩ = some (.int .i64 a0_4) := (bc_ BK391.out 4).trans rfl; have hcz22_5 : w20.cell? ⟨gb391, 5, none⟩ = some (.int .i64 a0_5) := (bc_ BK391.out 5).trans rfl; have hcz22_6 : w20.cell? ⟨gb391, 6, none⟩ = some (.int .i64 a0_6) := (bc_ BK391.out 6).trans rfl; have hcz22_7 : w20.cell? ⟨gb391, 7, none⟩ = some (.int .i64 a0_7) := (bc_ BK391.out 7).trans rfl; have hcz22_8 : w20.cell? ⟨gb391, 8, none⟩ = some (.slice A0_8 l0_8.length c0_8) := (bc_ BK391.out 8).trans rfl; have hfz22_0 := bf_ BK391.out 0; have hfz22_1 := bf_ BK391.out 1; have hfz22_2 := bf_ BK391.out 2; have hfz22_3 := bf_ BK391.out 3; have hfz22_4 := bf_ BK391.out 4; have hfz22_5 := bf_ BK391.out 5; have hfz22_6 := bf_ BK391.out 6; have hfz22_7 := bf_ BK391.out 7; have hfz22_8 := bf_ BK391.out 8; have hcz23_0 : w20.cell? ⟨gb392, 0, none⟩ = some (.string a1_0) := (bc_ BK392.out 0).trans rfl; have hcz23_1 : w20.cell? ⟨gb392, 1, none⟩ = some (.string a1_1) := (bc_ BK392.out 1).trans rfl; have hcz23_2 : w20.cell? ⟨gb392, 2, none⟩ = some (.string a1_2) := (bc_ BK392.out 2).trans rfl; have hcz23_3 : w20.cell? ⟨gb392, 3, none⟩ = some (.int .u8 a1_3) := (bc_ BK392.out 3).trans rfl; have hcz23_4 : w20.cell? ⟨gb392, 4, none⟩ = some (.int .i64 a1_4) := (bc_ BK392.out 4).trans rfl; have hcz23_5 : w20.cell? ⟨gb392, 5, none⟩ = some (.int .i64 a1_5) := (bc_ BK392.out 5).trans rfl; have hcz23_6 : w20.cell? ⟨gb392, 6, none⟩ = some (.int .i64 a1_6) := (bc_ BK392.out 6).trans rfl; have hcz23_7 : w20.cell? ⟨gb392, 7, none⟩ = some (.int .i64 a1_7) := (bc_ BK392.out 7).trans rfl; have hcz23_8 : w20.cell? ⟨gb392, 8, none⟩ = some (.slice A1_8 l1_8.length c1_8) := (bc_ BK392.out 8).trans rfl; have hfz23_0 := bf_ BK392.out 0; have hfz23_1 := bf_ BK392.out 1; have hfz23_2 := bf_ BK392.out 2; have hfz23_3 := bf_ BK392.out 3; have hfz23_4 := bf_ BK392.out 4; have hfz23_5 := bf_ BK392.out 5; have hfz23_6 := bf_ BK392.out 6; have hfz23_7 := bf_ BK392.out 7; have hfz23_8 := bf_ BK392.out 8))
  go_ret
  exact ⟨we_, wb2_ HB.out GE391.out GE392.out⟩
 rw [if_pos c5] at H
 have c5b0 : (a0_4 == a1_4 && (a0_5 == a1_5 && (a0_6 == a1_6 && (a0_7 == a1_7)))) = true := c5
 (try (have c5b1 : decide (a0_4 = a1_4 && (a0_5 == a1_5 && (a0_6 == a1_6 && (a0_7 == a1_7)))) = true := by simpa using c5))
 (try (have c5b2 : (a0_4 == a1_4 && (a0_5 == a1_5 && (a0_6 == a1_6 && (a0_7 == a1_7)))) = true := by simpa using c5))
 clear c5
 by_cases c6 : a0_1.toList = a1_1.toList
 rotate_left
 ·rw [if_neg c6] at H
  have c6b0 : (a0_1.toList == a1_1.toList) = false := beq_eq_false_iff_ne.mpr c6
  have c6b1 : (a0_1.toList != a1_1.toList) = true := bne_iff_ne.mpr c6
  obtain rfl := Option.some.inj H
  go_enter Tryd.func35, Tryd.ntmps35
  go_wp2_with (first | ((with_reducible refine gate_dst (N := 2) rfl ?_); refine box_event ?hg (N := 2) ?hd (cs := #[.string a0_0, .string a0_1, .string a0_2, .int .u8 a0_3, .int .i64 a0_4, .int .i64 a0_5, .int .i64 a0_6, .int .i64 a0_7, .slice A0_8 l0_8.length c0_8]) (t := 40) ?hr ?_; (case hd => rfl); (case hg => rfl); (case hr => first | (go_simp; done) | (go_simp; rfl)); intro gb391 hg w14 hbox hb; have n0_ := A0_ (below_step (wb_ HB.out) hb); have n1_ := A0_ (hbox); have n2_ := A0_ ((by rw [hg]; exact (below_size (wb_ HB.out)) : w.heap.size ≤ gb391)); have n3_ := A0_ ((by rw [hg]; exact (below_size (wb_ HB.out)) : w.heap.size ≤ gb391)); clear HB; have HB := n0_; have BK391 := n1_; have GW391 := n2_; have GE391 := n3_; clear n0_ n1_ n2_ n3_; clear hb hbox hg) | ((with_reducible refine gate_dst (N := 3) rfl ?_); refine box_event ?hg (N := 3) ?hd (cs := #[.string a1_0, .string a1_1, .string a1_2, .int .u8 a1_3, .int .i64 a1_4, .int .i64 a1_5, .int .i64 a1_6, .int .i64 a1_7, .slice A1_8 l1_8.length c1_8]) (t := 40) ?hr ?_; (case hd => rfl); (case hg => rfl); (case hr => first | (go_simp; done) | (go_simp; rfl)); intro gb392 hg w15 hbox hb; have n0_ := A0_ (blk_below (g := gb391) (o := .cells #[.string a0_0, .string a0_1, .string a0_2, .int .u8 a0_3, .int .i64 a0_4, .int .i64 a0_5, .int .i64 a0_6, .int .i64 a0_7, .slice A0_8 l0_8.length c0_8] 40 (0, 0)) (wB_ BK391.out) hb); have n1_ := A0_ (below_step (wb1_ HB.out GE391.out) hb); have n2_ := A0_ (hbox); have n3_ := A0_ ((by rw [hg]; exact (below_size (wb1_ HB.out GE391.out)) : w.heap.size ≤ gb392)); have n4_ := A0_ ((by rw [hg]; exact (below_size (wb1_ HB.out GE391.out)) : w.heap.size ≤ gb392)); have n5_ := A0_ ((by rw [hg]; exact Nat.ne_of_lt (blk_lt (g := gb391) (o := .cells #[.string a0_0, .string a0_1, .string a0_2, .int .u8 a0_3, .int .i64 a0_4, .int .i64 a0_5, .int .i64 a0_6, .int .i64 a0_7, .slice A0_8 l0_8.length c0_8] 40 (0, 0)) (wB_ BK391.out)) : gb391 ≠ gb392)); have n6_ := A0_ ((by rw [hg]; exact Nat.ne_of_gt (blk_lt (g := gb391) (o := .cells #[.string a0_0, .string a0_1, .string a0_2, .int .u8 a0_3, .int .i64 a0_4, .int .i64 a0_5, .int .i64 a0_6, .int .i64 a0_7, .slice A0_8 l0_8.length c0_8] 40 (0, 0)) (wB_ BK391.out)) : gb392 ≠ gb391)); clear BK391; clear HB; have BK391 := n0_; have HB := n1_; have BK392 := n2_; have GW392 := n3_; have GE392 := n4_; have NB391_392 := n5_; have NB392_391 := n6_; clear n0_ n1_ n2_ n3_ n4_ n5_ n6_; clear hb hbox hg; have hnb16 := NB391_392.out; have hnc16 := NB392_391.out; have hcz17_0 : w15.cell? ⟨gb391, 0, none⟩ = some (.string a0_0) := (bc_ BK391.out 0).trans rfl; have hcz17_1 : w15.cell? ⟨gb391, 1, none⟩ = some (.string a0_1) := (bc_ BK391.out 1).trans rfl; have hcz17_2 : w15.cell? ⟨gb391, 2, none⟩ = some (.string a0_2) := (bc_ BK391.out 2).trans rfl; have hcz17_3 : w15.cell? ⟨gb391, 3, none⟩ = some (.int .u8 a0_3) := (bc_ BK391.out 3).trans rfl; have hcz17_4 : w15.cell? ⟨gb391, 4, none⟩ = some (.int .i64 a0_4) := (bc_ BK391.out 4).trans rfl; have hcz17_5 : w15.cell? ⟨gb391, 5, none⟩ = some (.int .i64 a0_5) := (bc_ BK391.out 5).trans rfl; have hcz17_6 : w15.cell? ⟨gb391, 6, none⟩ = some (.int .i64 a0_6) := (bc_ BK391.out 6).trans rfl; have hcz17_7 : w15.cell? ⟨gb391, 7, none⟩ = some (.int .i64 a0_7) := (bc_ BK391.out 7).trans rfl; have hcz17_8 : w15.cell? ⟨gb391, 8, none⟩ = some (.slice A0_8 l0_8.length c0_8) := (bc_ BK391.out 8).trans rfl; have hfz17_0 := bf_ BK391.out 0; have hfz17_1 := bf_ BK391.out 1; have hfz17_2 := bf_ BK391.out 2; have hfz17_3 := bf_ BK391.out 3; have hfz17_4 := bf_ BK391.out 4; have hfz17_5 := bf_ BK391.out 5; have hfz17_6 := bf_ BK391.out 6; have hfz17_7 := bf_ BK391.out 7; have hfz17_8 := bf_ BK391.out 8; have hcz18_0 : w15.cell? ⟨gb392, 0, none⟩ = some (.string a1_0) := (bc_ BK392.out 0).trans rfl; have hcz18_1 : w15.cell? ⟨gb392, 1, none⟩ = some (.string a1_1) := (bc_ BK392.out 1).trans rfl; have hcz18_2 : w15.cell? ⟨gb392, 2, none⟩ = some (.string a1_2) := (bc_ BK392.out 2).trans rfl; have hcz18_3 : w15.cell? ⟨gb392, 3, none⟩ = some (.int .u8 a1_3) := (bc_ BK392.out 3).trans rfl; have hcz18_4 : w15.cell? ⟨gb392, 4, none⟩ = some (.int .i64 a1_4) := (bc_ BK392.out 4).trans rfl; have hcz18_5 : w15.cell? ⟨gb392, 5, none⟩ = some (.int .i64 a1_5) := (bc_ BK392.out 5).trans rfl; have hcz18_6 : w15.cell? ⟨gb392, 6, none⟩ = some (.int .i64 a1_6) := (bc_ BK392.out 6).trans rfl; have hcz18_7 : w15.cell? ⟨gb392, 7, none⟩ = some (.int .i64 a1_7) := (bc_ BK392.out 7).trans rfl; have hcz18_8 : w15.cell? ⟨gb392, 8, none⟩ = some (.slice A1_8 l1_8.length c1_8) := (bc_ BK392.out 8).trans rfl; have hfz18_0 := bf_ BK392.out 0; have hfz18_1 := bf_ BK392.out 1; have hfz18_2 := bf_ BK392.out 2; have hfz18_3 := bf_ BK392.out 3; have hfz18_4 := bf_ BK392.out 4; have hfz18_5 := bf_ BK392.out 5; have hfz18_6 := bf_ BK392.out 6; have hfz18_7 := bf_ BK392.out 7; have hfz18_8 := bf_ BK392.out 8))
  go_ret
  exact ⟨we_, wb2_ HB.out GE391.out GE392.out⟩
 rw [if_pos c6] at H
 have c6b0 : (a0_1.toList == a1_1.toList) = true := beq_iff_eq.mpr c6
 have c6b1 : (a0_1.toList != a1_1.toList) = false := bne_eq_false_iff_eq.mpr c6
 clear c6
 obtain rfl := Option.some.inj H
 go_enter Tryd.func35, Tryd.ntmps35
 go_wp2_with (first | ((with_reducible refine gate_dst (N := 2) rfl ?_); refine box_event ?hg (N := 2) ?hd (cs := #[.string a0_0, .string a0_1, .string a0_2, .int .u8 a0_3, .int .i64 a0_4, .int .i64 a0_5, .int .i64 a0_6, .int .i64 a0_7, .slice A0_8 l0_8.length c0_8]) (t := 40) ?hr ?_; (case hd => rfl); (case hg => rfl); (case hr => first | (go_simp; done) | (go_simp; rfl)); intro gb391 hg w7 hbox hb; have n0_ := A0_ (below_step (wb_ HB.out) hb); have n1_ := A0_ (hbox); have n2_ := A0_ ((by rw [hg]; exact (below_size (wb_ HB.out)) : w.heap.size ≤ gb391)); have n3_ := A0_ ((by rw [hg]; exact (below_size (wb_ HB.out)) : w.heap.size ≤ gb391)); clear HB; have HB := n0_; have BK391 := n1_; have GW391 := n2_; have GE391 := n3_; clear n0_ n1_ n2_ n3_; clear hb hbox hg) | ((with_reducible refine gate_dst (N := 3) rfl ?_); refine box_event ?hg (N := 3) ?hd (cs := #[.string a1_0, .string a1_1, .string a1_2, .int .u8 a1_3, .int .i64 a1_4, .int .i64 a1_5, .int .i64 a1_6, .int .i64 a1_7, .slice A1_8 l1_8.length c1_8]) (t := 40) ?hr ?_; (case hd => rfl); (case hg => rfl); (case hr => first | (go_simp; done) | (go_simp; rfl)); intro gb392 hg w8 hbox hb; have n0_ := A0_ (blk_below (g := gb391) (o := .cells #[.string a0_0, .string a0_1, .string a0_2, .int .u8 a0_3, .int .i64 a0_4, .int .i64 a0_5, .int .i64 a0_6, .int .i64 a0_7, .slice A0_8 l0_8.length c0_8] 40 (0, 0)) (wB_ BK391.out) hb); have n1_ := A0_ (below_step (wb1_ HB.out GE391.out) hb); have n2_ := A0_ (hbox); have n3_ := A0_ ((by rw [hg]; exact (below_size (wb1_ HB.out GE391.out)) : w.heap.size ≤ gb392)); have n4_ := A0_ ((by rw [hg]; exact (below_size (wb1_ HB.out GE391.out)) : w.heap.size ≤ gb392)); have n5_ := A0_ ((by rw [hg]; exact Nat.ne_of_lt (blk_lt (g := gb391) (o := .cells #[.string a0_0, .string a0_1, .string a0_2, .int .u8 a0_3, .int .i64 a0_4, .int .i64 a0_5, .int .i64 a0_6, .int .i64 a0_7, .slice A0_8 l0_8.length c0_8] 40 (0, 0)) (wB_ BK391.out)) : gb391 ≠ gb392)); have n6_ := A0_ ((by rw [hg]; exact Nat.ne_of_gt (blk_lt (g := gb391) (o := .cells #[.string a0_0, .string a0_1, .string a0_2, .int .u8 a0_3, .int .i64 a0_4, .int .i64 a0_5, .int .i64 a0_6, .int .i64 a0_7, .slice A0_8 l0_8.length c0_8] 40 (0, 0)) (wB_ BK391.out)) : gb392 ≠ gb391)); clear BK391; clear HB; have BK391 := n0_; have HB := n1_; have BK392 := n2_; have GW392 := n3_; have GE392 := n4_; have NB391_392 := n5_; have NB392_391 := n6_; clear n0_ n1_ n2_ n3_ n4_ n5_ n6_; clear hb hbox hg; have hnb9 := NB391_392.out; have hnc9 := NB392_391.out; have hcz10_0 : w8.cell? ⟨gb391, 0, none⟩ = some (.string a0_0) := (bc_ BK391.out 0).trans rfl; have hcz10_1 : w8.cell? ⟨gb391, 1, none⟩ = some (.string a0_1) := (bc_ BK391.out 1).trans rfl; have hcz10_2 : w8.cell? ⟨gb391, 2, none⟩ = some (.string a0_2) := (bc_ BK391.out 2).trans rfl; have hcz10_3 : w8.cell? ⟨gb391, 3, none⟩ = some (.int .u8 a0_3) := (bc_ BK391.out 3).trans rfl; have hcz10_4 : w8.cell? ⟨gb391, 4, none⟩ = some (.int .i64 a0_4) := (bc_ BK391.out 4).trans rfl; have hcz10_5 : w8.cell? ⟨gb391, 5, none⟩ = some (.int .i64 a0_5) := (bc_ BK391.out 5).trans rfl; have hcz10_6 : w8.cell? ⟨gb391, 6, none⟩ = some (.int .i64 a0_6) := (bc_ BK391.out 6).trans rfl; have hcz10_7 : w8.cell? ⟨gb391, 7, none⟩ = some (.int .i64 a0_7) := (bc_ BK391.out 7).trans rfl; have hcz10_8 : w8.cell? ⟨gb391, 8, none⟩ = some (.slice A0_8 l0_8.length c0_8) := (bc_ BK391.out 8).trans rfl; have hfz10_0 := bf_ BK391.out 0; have hfz10_1 := bf_ BK391.out 1; have hfz10_2 := bf_ BK391.out 2; have hfz10_3 := bf_ BK391.out 3; have hfz10_4 := bf_ BK391.out 4; have hfz10_5 := bf_ BK391.out 5; have hfz10_6 := bf_ BK391.out 6; have hfz10_7 := bf_ BK391.out 7; have hfz10_8 := bf_ BK391.out 8; have hcz11_0 : w8.cell? ⟨gb392, 0, none⟩ = some (.string a1_0) := (bc_ BK392.out 0).trans rfl; have hcz11_1 : w8.cell? ⟨gb392, 1, none⟩ = some (.string a1_1) := (bc_ BK392.out 1).trans rfl; have hcz11_2 : w8.cell? ⟨gb392, 2, none⟩ = some (.string a1_2) := (bc_ BK392.out 2).trans rfl; have hcz11_3 : w8.cell? ⟨gb392, 3, none⟩ = some (.int .u8 a1_3) := (bc_ BK392.out 3).trans rfl; have hcz11_4 : w8.cell? ⟨gb392, 4, none⟩ = some (.int .i64 a1_4) := (bc_ BK392.out 4).trans rfl; have hcz11_5 : w8.cell? ⟨gb392, 5, none⟩ = some (.int .i64 a1_5) := (bc_ BK392.out 5).trans rfl; have hcz11_6 : w8.cell? ⟨gb392, 6, none⟩ = some (.int .i64 a1_6) := (bc_ BK392.out 6).trans rfl; have hcz11_7 : w8.cell? ⟨gb392, 7, none⟩ = some (.int .i64 a1_7) := (bc_ BK392.out 7).trans rfl; have hcz11_8 : w8.cell? ⟨gb392, 8, none⟩ = some (.slice A1_8 l1_8.length c1_8) := (bc_ BK392.out 8).trans rfl; have hfz11_0 := bf_ BK392.out 0; have hfz11_1 := bf_ BK392.out 1; have hfz11_2 := bf_ BK392.out 2; have hfz11_3 := bf_ BK392.out 3; have hfz11_4 := bf_ BK392.out 4; have hfz11_5 := bf_ BK392.out 5; have hfz11_6 := bf_ BK392.out 6; have hfz11_7 := bf_ BK392.out 7; have hfz11_8 := bf_ BK392.out 8; have hcv12 := Kd.C_string (P := Tryd.prog) (A := A0_8) (c := c0_8) Tryd.underlying23 Tryd.underlying5 Tryd.underlying9 (Kd.C_below HR0_8.out HB.out); have hcv13 := Kd.C_string (P := Tryd.prog) (A := A1_8) (c := c1_8) Tryd.underlying23 Tryd.underlying5 Tryd.underlying9 (Kd.C_below HR1_8.out HB.out)))
 go_ret
 exact ⟨we_, wb2_ HB.out GE391.out GE392.out⟩
end Go.Proofs.YtfljbidecljlcaaDoor.Print
