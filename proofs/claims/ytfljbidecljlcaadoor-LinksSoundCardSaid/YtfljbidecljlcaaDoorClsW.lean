/-
  links.Classes' contract: it answers classesF.
-/
import Derived.Test.YtfljbidecljlcaaDoorMembsW
import Derived.Deep.RegionHeld3
namespace Go.Proofs.YtfljbidecljlcaaDoor
open Go.RowKit Go.Maps Go.Proofs.YtfljbidecljlcaaDoor.Print Go.Proofs.YtfljbidecljlcaaDoorW.PrintWords Go.Proofs.YtfljbidecljlcaaDoorW.PrintLast Go.Proofs.YtfljbidecljlcaaDoorW.PrintMore
set_option linter.unusedVariables false
set_option linter.unusedSimpArgs false
theorem zeroI64 (w : World) : (zeroValue 3).run Tryd.prog w = .ok (.int .i64 0) w := by kernel_rfl
def intsV (f : List (List UInt8 × Int)) : List UInt8 → Option Value := fun s => (lkI f s).map (Value.int .i64)
theorem intsV_put (f : List (List UInt8 × Int)) (s : List UInt8) (v : Int) (t : List UInt8) : putS (intsV f) s (.int .i64 v) t = intsV ((s, v) :: f) t := by
  unfold putS intsV
  rw [lkI]
  by_cases h : t = s
  · rw [if_pos h, if_pos h]; rfl
  · rw [if_neg h, if_neg h]
theorem infoRow : (Tryd.prog.info? 26).map (fun i => (i.zero, i.size, i.bytes)) = some (some (.slice none 0 0), 1, 24) := by kernel_rfl
theorem setCells_one (w : World) (g o : Nat) (v : Value) : w.setCells g o [v] = w.setCell ⟨g, o, none⟩ v := rfl
/-- One row of rows is written anew. -/
theorem row_turn {W1 : World} {base g N cap : Nat} {ok : Nat → Prop} {xs : List (List ByteArray)} (h : Kd.S (Kd.slice 9 Kd.string) 26 W1 base ok (.slice (some ⟨g, 0, none⟩) N cap) xs) (hok : ∀ k, W1.heap.size ≤ k → ok k) (hgl : g < W1.heap.size) (i : Int) (h0 : 0 ≤ i) (h1 : i < N) :
    ∃ (oki : Nat → Prop) (ve : Value), W1.cell? ⟨g, i.toNat, none⟩ = some ve ∧ W1.frozen? ⟨g, i.toNat, none⟩ = false ∧ Kd.R Kd.string 9 W1 base oki ve (xs.getD i.toNat []) ∧ (∀ k, oki k → ok k ∧ k ≠ g ∧ k < W1.heap.size) ∧
      ∀ w2 v1 ys, Kd.R Kd.string 9 w2 base (fun k => oki k ∨ W1.heap.size ≤ k) v1 ys → W1.grownBy w2 ve.ownBlock → Kd.S (Kd.slice 9 Kd.string) 26 (w2.setCell ⟨g, i.toNat, none⟩ v1) base ok (.slice (some ⟨g, 0, none⟩) N cap) (xs.set i.toNat ys) := by
  have h' := Kd.S_mono (ok' := fun k => ok k ∧ ¬ W1.heap.size ≤ k) (Kd.S_bound h) (fun k hk => ⟨hk.1, by have := hk.2.2.1; omega⟩)
  obtain ⟨oki, c, hcl, hM, hcc, hfr, hoki, hH⟩ := Kd.S_elem h' [] i h0 h1
  obtain ⟨ve, rfl, hR⟩ := hM
  refine ⟨oki, ve, ?_, ?_, hR, fun k hk => ⟨(hoki k hk).1.1, (hoki k hk).2, by have := (hoki k hk).1.2; omega⟩, fun w2 v1 ys hR1 hg => ?_⟩
  · have := hcc 0 ve rfl
    simpa [Kd.slice] using this
  · have := hfr 0
    simpa [Kd.slice] using this
  · have hH2 := Kd.H_grown hH hg (fun k hk => hR.1 k hk)
    obtain ⟨h3, _⟩ := Kd.S_seg (okp := fun k => oki k ∨ W1.heap.size ≤ k) (okg := fun k => W1.heap.size ≤ k) hH2 h0 h1 (seg := [v1]) (j := 0) (x' := ys) (Nat.le_refl 1) ⟨v1, rfl, hR1⟩ (fun k hk => hk) (fun k hk => ⟨hok k hk, by omega⟩)
    rw [setCells_one] at h3
    simpa [Kd.slice] using h3
theorem rcell {W w1 : World} {row : Option Nat} (hg : W.grownBy w1 row) (g o : Nat) (h : g < W.heap.size) (hne : some g ≠ row) : w1.cell? ⟨g, o, none⟩ = W.cell? ⟨g, o, none⟩ := World.cell?_of_block (a := ⟨g, o, none⟩) (hg.block g h hne)
theorem rfrozen {W w1 : World} {row : Option Nat} (hg : W.grownBy w1 row) (g o : Nat) (h : g < W.heap.size) (hne : some g ≠ row) : w1.frozen? ⟨g, o, none⟩ = W.frozen? ⟨g, o, none⟩ := World.frozen?_of_block (a := ⟨g, o, none⟩) (hg.block g h hne)
theorem acell {w : World} {p : Addr} {v : Value} (h : w.cell? p = some v) (o : Obj) : (w.alloc o).cell? p = some v := ((below_alloc (Below.refl _ _) o).cell (World.block_lt_of_cell? w _ h)).trans h
/-- What holds of the classes so far, i nodes in. -/
def ClsOk (i : Nat) (s : ClsSt) : Prop := s.out.length ≤ i ∧ (∀ k n, lkI s.by_ k = some n → 0 ≤ n ∧ n < s.out.length) ∧ ∀ c ∈ s.out, c.length ≤ i
theorem ClsOk.step {i : Nat} {s : ClsSt} (h : ClsOk i s) (x : Node) : ClsOk (i + 1) (stepC s x) := by
  obtain ⟨h1, h2, h3⟩ := h
  unfold stepC
  split
  · split
    · rename_i n hn
      obtain ⟨h4, h5⟩ := h2 _ _ hn
      refine ⟨by rw [List.length_set]; omega, fun k m hm => by rw [List.length_set]; exact h2 k m hm, fun c hc => ?_⟩
      rcases List.mem_or_eq_of_mem_set hc with hc | rfl
      · have := h3 c hc; omega
      · rw [List.length_append, List.length_singleton, List.getD_eq_getElem?_getD, List.getElem?_eq_getElem (by omega)]
        have := h3 _ (List.getElem_mem (l := s.out) (n := n.toNat) (by omega))
        simp only [Option.getD_some]
        omega
    · refine ⟨by rw [List.length_append, List.length_singleton]; omega, fun k m hm => ?_, fun c hc => ?_⟩
      · rw [List.length_append, List.length_singleton]
        rw [lkI] at hm
        split at hm
        · cases hm; omega
        · have := h2 k m hm; omega
      · rcases List.mem_append.1 hc with hc | hc
        · have := h3 c hc; omega
        · rw [List.mem_singleton.1 hc, List.length_singleton]; omega
  · exact ⟨by omega, h2, fun c hc => by have := h3 c hc; omega⟩
/-- The loop's relation. -/
def ClsRel (l : List Node) (W : World) (i : Int) (v : Value) (wr : World) : Prop :=
  0 ≤ i ∧ i ≤ l.length ∧ (∃ s, (l.take i.toNat).foldl stepC ⟨[], []⟩ = s ∧ ClsOk i.toNat s ∧ MapS Tryd.prog 9 wr W.heap.size i.toNat (intsV s.by_) ∧ Kd.S (Kd.slice 9 Kd.string) 26 wr W.heap.size (fun k => W.heap.size + 1 ≤ k) v s.out) ∧
    Below W.heap.size W wr ∧ W.heap.size + 1 ≤ wr.heap.size
set_option maxRecDepth 100000 in
set_option maxHeartbeats 2000000 in
theorem Classes_calls (A0 : Option Addr) (c0 : Nat) (l : List Node) (W : World) (hC : Kd.C k40 W A0 l.length l) (hz : NodesZ l) :
    Calls Tryd.prog 24 #[.slice A0 l.length c0] W fun e W' => ∃ v, e = .returned v ∧ Kd.S (Kd.slice 9 Kd.string) 26 W' W.heap.size (fun _ => True) v (classesF l) ∧ Below W.heap.size W W' := by
  have hmm := @run_makeMap Tryd.prog
  have HC := Aside0.mk hC
  have HZ := Aside0.mk hz
  have hlen : (l.length : Int) ≤ 1000000000000 := by have := hz.1; omega
  clear hC hz
  generalize hpost : (fun (e : Ending) (W' : World) => ∃ v, e = .returned v ∧ Kd.S (Kd.slice 9 Kd.string) 26 W' W.heap.size (fun _ => True) v (classesF l) ∧ Below W.heap.size W W') = Q
  have hQ := Aside0.mk hpost
  clear hpost
  go_enter Tryd.func24, Tryd.ntmps24
  go_wp2
  go_loopw [12, 4] (fun i o wr => ∃ n : Int, i = .int .i64 n ∧ Aside0 (ClsRel l W n o wr)) (fun i _ _ => (l.length - (intOf i)).toNat)
  case atStart =>
    refine ⟨0, rfl, ⟨⟨by omega, by omega, ⟨⟨[], []⟩, rfl, ⟨by simp, fun k n h => (by cases h), fun c hc => (by cases hc)⟩, ?_, Kd.S_nil _ _ _ _ _⟩, ?_, by simp⟩⟩⟩
    · exact (MapS.made _ _ _).ext (fun s => rfl)
    · exact (Below.refl _ _).alloc (Nat.le_refl _) _
  case round =>
    obtain ⟨n, rfl, HR⟩ := hrel
    have h0 := HR.out.1
    have h1 := HR.out.2.1
    obtain ⟨s, hs, hok, hM, hS⟩ := HR.out.2.2.1
    have hB := HR.out.2.2.2.1
    have hw1 := HR.out.2.2.2.2
    have HB := Aside0.mk hB
    have HS := Aside0.mk hs
    have HOK := Aside0.mk hok
    have HM := Aside0.mk hM
    have HSS := Aside0.mk hS
    obtain ⟨Ao, co, rfl⟩ := Kd.S_slice hS
    clear hs hok hM hS
    by_cases hlt : n < (l.length : Int)
    · obtain ⟨ad, A7, c7, rfl, x0, x1, x2, x3, x4, x5, x6, x7, x8, hl7, hC7⟩ := at_T40 (Kd.C_below HC.out hB) n h0 hlt
      have hx := rdN_at l n h0 hlt
      have hxz : NodeZ (rd_T40 l n) := by rw [hx]; exact HZ.out.2 _ (List.getElem_mem _)
      generalize rd_T40 l n = x at hx hxz x0 x1 x2 x3 x4 x5 x6 x7 x8 hl7 hC7
      have HX := Aside0.mk hx
      have hs2 : x.f2.size ≤ maxLen := by have := hxz.2.2.1; unfold maxLen; omega
      have c1b : decide (n < (l.length : Int)) = true := decide_eq_true hlt
      have hstep : (l.take (n + 1).toNat).foldl stepC ⟨[], []⟩ = stepC s x := by
        rw [show (n + 1).toNat = n.toNat + 1 from by omega, List.take_add_one, List.getElem?_eq_getElem (by omega), List.foldl_append, HS.out, hx]
        rfl
      have HST := Aside0.mk hstep
      clear hx hxz hC7 hl7 hB hstep
      by_cases h48 : x.f3 = 48
      · have e48 : (x.f3 != 48) = false := by rw [bne_eq_false_iff_eq]; exact h48
        have H48 := Aside0.mk h48
        clear h48
        have hlook := fun o => (HM.out.alloc o).look_ok Tryd.underlying9 Tryd.underlying68 (zeroI64 _) hs2
        cases ht : (intsV s.by_ x.f2.data.toList) with
        | some v =>
          obtain ⟨q, rfl, hq⟩ : ∃ q, v = Value.int .i64 q ∧ lkI s.by_ x.f2.data.toList = some q := by
            unfold intsV at ht
            cases hk : lkI s.by_ x.f2.data.toList with
            | none => rw [hk] at ht; cases ht
            | some q => rw [hk] at ht; cases ht; exact ⟨q, rfl, rfl⟩
          simp only [ht, Option.getD_some, Option.isSome_some] at hlook
          have HQ := Aside0.mk hq
          obtain ⟨hq0, hq1⟩ := HOK.out.2.1 _ _ hq
          clear ht hq
          obtain ⟨g, cap, hv, hg0, hg1, _⟩ := Kd.S_form HSS.out (by omega)
          cases hv
          have hgW : W.heap.size + 1 ≤ g := by
            obtain ⟨f, hh⟩ := HSS.out
            exact hh.1 g rfl
          have hturn := fun o => row_turn (Kd.S_alloc HSS.out o) (fun k hk => by rw [World.size_alloc] at hk; omega) (by rw [World.size_alloc]; omega) q hq0 (by omega)
          obtain ⟨oki, ve, hc1, hf1, hR1, hoki, hback⟩ := hturn (.cells #[.string x.f0, .string x.f1, .string x.f2, .int .u8 x.f3, .int .i64 x.f4.f0, .int .i64 x.f4.f1, .int .i64 x.f4.f2, .int .i64 x.f4.f3, .slice A7 x.f5.length c7] 40)
          have hcl := HOK.out.2.2 (s.out.getD q.toNat []) (by rw [List.getD_eq_getElem?_getD, List.getElem?_eq_getElem (by omega)]; exact List.getElem_mem _)
          generalize hys : s.out.getD q.toNat [] = ys at hR1 hcl
          obtain ⟨Ae, ce, rfl⟩ := Kd.R_slice hR1
          have hRd := Kd.R_mono (ok' := fun k => oki k ∨ (wr.alloc (.cells #[.string x.f0, .string x.f1, .string x.f2, .int .u8 x.f3, .int .i64 x.f4.f0, .int .i64 x.f4.f1, .int .i64 x.f4.f2, .int .i64 x.f4.f3, .slice A7 x.f5.length c7] 40)).heap.size ≤ k) (Kd.R_drew hR1) (fun k hk => Or.inl hk)
          have hBd := below_drew ((HB.out.alloc HB.out.size (.cells #[.string x.f0, .string x.f1, .string x.f2, .int .u8 x.f3, .int .i64 x.f4.f0, .int .i64 x.f4.f1, .int .i64 x.f4.f2, .int .i64 x.f4.f3, .slice A7 x.f5.length c7] 40)))
          have hnb : ∀ k, wr.heap.size = k ∨ g = k → some k ≠ (Value.slice Ae ys.length ce).ownBlock := fun k hk => by
            rcases hk with rfl | rfl
            · exact Kd.R_ne (cells := #[.string x.f0, .string x.f1, .string x.f2, .int .u8 x.f3, .int .i64 x.f4.f0, .int .i64 x.f4.f1, .int .i64 x.f4.f2, .int .i64 x.f4.f3, .slice A7 x.f5.length c7]) (t := 40) hR1 (blk_new _ _) (by decide)
            · exact fun e => (hoki _ (hR1.1 _ e.symm)).2.1 rfl
          have hnm : some W.heap.size ≠ (Value.slice Ae ys.length ce).ownBlock := fun e => by
            have := (hoki _ (hR1.1 _ e.symm)).1
            omega
          have HRd := Aside0.mk hRd
          have HBd := Aside0.mk hBd
          have HNB := Aside0.mk hnb
          have HYS := Aside0.mk hys
          have HBK := Aside0.mk hback
          clear hR1 hoki hback hturn hRd hBd hnb hys
          have hgne : ¬ g = wr.heap.size := by omega
          go_upto_region 12 with (fail)
          refine start_ (n := 12) (S := fun w' => w'.cell? ⟨g, q.toNat, none⟩ = some (.slice Ae ys.length ce) ∧ w'.cell? ⟨wr.heap.size, 0, none⟩ = some (.string x.f0)) (ds := [11]) #[false, false, false, false, false, false, false, false, false, false, false, false] (by kernel_rfl) rfl rfl ⟨hc1, by simp⟩ (fun hHeld => ?_)
          generalize hwq : (wr.alloc (.cells #[.string x.f0, .string x.f1, .string x.f2, .int .u8 x.f3, .int .i64 x.f4.f0, .int .i64 x.f4.f1, .int .i64 x.f4.f2, .int .i64 x.f4.f3, .slice A7 x.f5.length c7] 40)).drew = wq at hHeld ⊢
          have hzq : wq.heap.size = wr.heap.size + 1 := by rw [← hwq]; show (wr.alloc (.cells #[.string x.f0, .string x.f1, .string x.f2, .int .u8 x.f3, .int .i64 x.f4.f0, .int .i64 x.f4.f1, .int .i64 x.f4.f2, .int .i64 x.f4.f3, .slice A7 x.f5.length c7] 40)).heap.size = _; rw [World.size_alloc]
          rw [hwq] at HRd HBd
          refine pure_ (i := 0) (N := some 37) (v := ?_) (a' := ?_) #[true, false, false, false, false, false, false, false, false, false, false, false] rfl rfl (by kernel_rfl) (fun _ _ _ h => h) (Or.inl ⟨by rfl, ?_⟩) ?_ ?_
          rotate_left
          · intro w'
            go_simp
            with_reducible rfl
          rotate_left
          · simp only [Act.put, List.setIfInBounds_toArray, List.set_cons_zero, List.set_cons_succ, i64_w, i32_w]
            rfl
          refine pure_ (i := 1) (N := some 38) (v := ?_) (a' := ?_) #[true, true, false, false, false, false, false, false, false, false, false, false] rfl rfl (by kernel_rfl) (fun _ _ _ h => h) (Or.inl ⟨by rfl, ?_⟩) ?_ ?_
          rotate_left
          · intro w'
            go_simp
            with_reducible rfl
          rotate_left
          · simp only [Act.put, List.setIfInBounds_toArray, List.set_cons_zero, List.set_cons_succ, i64_w, i32_w]
            rfl
          refine pure_ (i := 2) (N := some 39) (v := ?_) (a' := ?_) #[true, true, true, false, false, false, false, false, false, false, false, false] rfl rfl (by kernel_rfl) (fun _ _ _ h => h) (Or.inl ⟨by rfl, ?_⟩) ?_ ?_
          rotate_left
          · intro w'
            go_simp
            with_reducible rfl
          rotate_left
          · simp only [Act.put, List.setIfInBounds_toArray, List.set_cons_zero, List.set_cons_succ, i64_w, i32_w]
            rfl
          refine pure_ (i := 3) (N := some 40) (v := ?_) (a' := ?_) #[true, true, true, true, false, false, false, false, false, false, false, false] rfl rfl (by kernel_rfl) (fun _ _ _ h => h) (Or.inl ⟨by rfl, ?_⟩) ?_ ?_
          rotate_left
          · intro w'
            go_simp
            with_reducible rfl
          rotate_left
          · simp only [Act.put, List.setIfInBounds_toArray, List.set_cons_zero, List.set_cons_succ, i64_w, i32_w]
            rfl
          refine pure_ (i := 4) (N := some 41) (v := ?_) (a' := ?_) #[true, true, true, true, true, false, false, false, false, false, false, false] rfl rfl (by kernel_rfl) (fun _ _ _ h => h) (Or.inl ⟨by rfl, ?_⟩) ?_ ?_
          rotate_left
          · intro w'
            go_simp
            with_reducible rfl
          rotate_left
          · simp only [Act.put, List.setIfInBounds_toArray, List.set_cons_zero, List.set_cons_succ, i64_w, i32_w]
            rfl
          refine pure_ (i := 6) (N := some 43) (v := ?_) (a' := ?_) #[true, true, true, true, true, false, true, false, false, false, false, false] rfl rfl (by kernel_rfl) (fun _ _ _ h => h) (Or.inl ⟨by rfl, ?_⟩) ?_ ?_
          rotate_left
          · intro w'
            go_simp
            with_reducible rfl
          rotate_left
          · simp only [Act.put, List.setIfInBounds_toArray, List.set_cons_zero, List.set_cons_succ, i64_w, i32_w]
            rfl
          refine take_ (i := 5) (N := some 42) (v := ?_) (a' := ?_) #[true, true, true, true, true, true, true, false, false, false, false, false] rfl rfl (by kernel_rfl) (fun _ _ _ h => h) (Or.inl ⟨by rfl, ?_⟩) hHeld ?_ ?_
          rotate_left
          · rintro w' ⟨s0, s1⟩
            go_simp
            with_reducible rfl
          rotate_left
          · simp only [Act.put, List.setIfInBounds_toArray, List.set_cons_zero, List.set_cons_succ, i64_w, i32_w]
            rfl
          refine take_ (i := 7) (N := some 44) (v := ?_) (a' := ?_) #[true, true, true, true, true, true, true, true, false, false, false, false] rfl rfl (by kernel_rfl) (fun _ _ _ h => h) (Or.inl ⟨by rfl, ?_⟩) hHeld ?_ ?_
          rotate_left
          · rintro w' ⟨s0, s1⟩
            go_simp
            with_reducible rfl
          rotate_left
          · simp only [Act.put, List.setIfInBounds_toArray, List.set_cons_zero, List.set_cons_succ, i64_w, i32_w]
            rfl
          refine one_ (i := 8) (N := some 45) #[true, true, true, true, true, true, true, true, true, false, false, false] rfl rfl (by kernel_rfl) (by decide) (fun K hK => ?_)
          refine value_ (w1 := ?_) (v := ?_) (by rfl) rfl ?_ ?_
          rotate_left 2
          · go_simp
            constructor
            · rfl
            · rfl
          refine hK.out _ _ ⟨acell hHeld.1 _, acell hHeld.2 _⟩ (fun hHeld2 => ?_)
          clear hK K
          refine norm_ (a' := ?_) ?_ ?_
          rotate_left
          · show Act.put _ (some 45) _ = _
            simp only [Act.put, List.setIfInBounds_toArray, List.set_cons_zero, List.set_cons_succ, i64_w, i32_w]
            rfl
          refine one_ (i := 9) (N := some 46) #[true, true, true, true, true, true, true, true, true, true, false, false] rfl rfl (by kernel_rfl) (by decide) (fun K hK => ?_)
          refine Kd.R_append_step Kd.string (w0 := W) (W := wq) W.heap.size (by rfl) (.tmp 42) (.tmp 45) 26 9 (.string ⟨#[]⟩) 16 rfl Tryd.underlying26 info9 rfl (by decide) (by decide) (.slice Ae ys.length ce) ys x.f0 [.string x.f0] (fun k => oki k ∨ (wr.alloc (.cells #[.string x.f0, .string x.f1, .string x.f2, .int .u8 x.f3, .int .i64 x.f4.f0, .int .i64 x.f4.f1, .int .i64 x.f4.f2, .int .i64 x.f4.f3, .slice A7 x.f5.length c7] 40)).heap.size ≤ k) (fun _ => False) (by rfl) (by rw [hzq]; rfl) rfl (fun _ h => h.elim) (fun k hk => Or.inr (by rw [hzq] at hk; rw [World.size_alloc]; exact hk)) HRd.out HBd.out (below_size HBd.out) (by omega) ?_
          intro v1 w1 ho hb hg hat
          obtain ⟨A1, c1, rfl⟩ := Kd.R_slice ho
          have k1 := (rcell hg g q.toNat (by omega) (HNB.out _ (Or.inr rfl))).trans hHeld.1
          have k2 := (rcell hg wr.heap.size 0 (by omega) (HNB.out _ (Or.inl rfl))).trans hHeld.2
          have k3 : w1.frozen? ⟨g, q.toNat, none⟩ = false := (rfrozen hg g q.toNat (by omega) (HNB.out _ (Or.inr rfl))).trans (by rw [← hwq]; exact hf1)
          have hg1 : (wr.alloc (.cells #[.string x.f0, .string x.f1, .string x.f2, .int .u8 x.f3, .int .i64 x.f4.f0, .int .i64 x.f4.f1, .int .i64 x.f4.f2, .int .i64 x.f4.f3, .slice A7 x.f5.length c7] 40)).grownBy w1 (Value.slice Ae ys.length ce).ownBlock := by rw [← hwq] at hg; exact ⟨hg.os, hg.tape, hg.output, hg.size, hg.block⟩
          have HO := Aside0.mk ho
          have HB2 := Aside0.mk hb
          have HG := Aside0.mk hg1
          clear ho hb hg hat hg1
          refine hK.out _ _ ⟨k1, k2⟩ (fun hHeld3 => ?_)
          clear hK K
          refine norm_ (a' := ?_) ?_ ?_
          rotate_left
          · show Act.put _ (some 46) _ = _
            simp only [Act.put, List.setIfInBounds_toArray, List.set_cons_zero, List.set_cons_succ, i64_w, i32_w]
            rfl
          refine pure_ (i := 10) (N := some 47) (v := ?_) (a' := ?_) #[true, true, true, true, true, true, true, true, true, true, true, false] rfl rfl (by kernel_rfl) (fun _ _ _ h => h) (Or.inl ⟨by rfl, ?_⟩) ?_ ?_
          rotate_left
          · intro w'
            go_simp
            with_reducible rfl
          rotate_left
          · simp only [Act.put, List.setIfInBounds_toArray, List.set_cons_zero, List.set_cons_succ, i64_w, i32_w]
            rfl
          refine last_ (i := 11) (N := none) #[true, true, true, true, true, true, true, true, true, true, true, true] rfl rfl (by kernel_rfl) (by decide) (fun K hK => ?_)
          refine skip_ (w1 := ?_) (by rfl) rfl ?_ ?_
          rotate_left
          · go_simp
            rfl
          refine hK.out _ _ ?_
          clear hK K
          refine done_ (by kernel_rfl) ?_
          have hst : stepC s x = ⟨s.by_, s.out.set q.toNat (s.out.getD q.toNat [] ++ [x.f0])⟩ := by unfold stepC; rw [if_pos H48.out]; simp only [HQ.out]
          have hfin : ClsRel l W (n + 1) (.slice (some ⟨g, 0, none⟩) s.out.length co) (w1.setCell ⟨g, q.toNat, none⟩ (.slice A1 (ys ++ [x.f0]).length c1)) := by
            refine ⟨by omega, by omega, ⟨stepC s x, HST.out, ?_, ?_, ?_⟩, below_put HB2.out _ _ (by omega) _, ?_⟩
            · rw [show (n + 1).toNat = n.toNat + 1 from by omega]
              exact HOK.out.step x
            · rw [hst, show (n + 1).toNat = n.toNat + 1 from by omega]
              exact map_put (((HM.out.alloc (.cells #[.string x.f0, .string x.f1, .string x.f2, .int .u8 x.f3, .int .i64 x.f4.f0, .int .i64 x.f4.f1, .int .i64 x.f4.f2, .int .i64 x.f4.f3, .slice A7 x.f5.length c7] 40)).kept HG.out hnm).mono (Nat.le_succ _)) _ _ (by omega) _
            · rw [hst]
              exact by rw [HYS.out]; exact HBK.out w1 _ _ HO.out HG.out
            · have := HG.out.size
              simp at this ⊢
              omega
          clear HBK HO HG HB2 k1 k2 k3 hHeld hHeld2 hHeld3
          go_wp2
          go_roundw
          case rel => exact ⟨n + 1, by go_num, ⟨by simpa using hfin⟩⟩
          case measure => simp [intOf]; omega
        | none =>
          have hnl : lkI s.by_ x.f2.data.toList = none := by
            unfold intsV at ht
            cases hk : lkI s.by_ x.f2.data.toList with
            | none => rfl
            | some q => rw [hk] at ht; cases ht
          simp only [ht, Option.getD_none, Option.isSome_none] at hlook
          have HQ := Aside0.mk hnl
          clear ht hnl
          have hol := HOK.out.1
          go_upto_region 12 with (first
            | (at_mapUpdate; refine MapS.wpput (HM.out.alloc _) rfl _ _ _ rfl Tryd.underlying9 Tryd.underlying68 (by unfold maxLen; omega) rfl rfl hs2 rfl ?_; intro w2 hM2 hturn; obtain ⟨hc2, hf2⟩ := gcell hturn.grown; have hz2 := hturn.grown.size; simp only [World.size_alloc] at hz2; have HM2 := Aside0.mk hM2; have HG2 := Aside0.mk hturn.grown; have hxb := ((hturn.grown.block wr.heap.size (by simp) (fun e => by injection e with e; omega)).trans (blk_new _ _)); clear hM2 hturn)
            | (at_builtin; refine Kd.S_append (Kd.slice 9 Kd.string) (w0 := W) W.heap.size rfl (.tmp 34) (.tmp 35) 46 26 (.slice none 0 0) 24 rfl Tryd.underlying46 infoRow rfl (by decide) (by decide) (.slice Ao s.out.length co) s.out [] [.slice none 0 0] (fun k => W.heap.size + 1 ≤ k) (fun _ => False) rfl rfl ⟨_, rfl, Kd.R_nil _ _ _ _ _⟩ (fun _ h => h.elim) (fun k hk => by omega) (Kd.S_mono (Kd.S_grown (Kd.S_alloc HSS.out _) HG2.out (fun k hk e => by cases e; omega)) (fun k hk => ⟨hk, fun h => h⟩)) ((HB.out.alloc HB.out.size _).grown HG2.out (by simp; omega) (fun j hj => by cases hj; exact Nat.le_refl _)) (by omega) (by omega) ?_; intro v3 w3 hS3 hB3 hg3 hat3; obtain ⟨g, cap, hv, hg0, hg1, _⟩ := Kd.S_form hS3 (by simp); subst hv; have HS3 := Aside0.mk hS3; have HB3 := Aside0.mk hB3; have HG3 := Aside0.mk hg3; clear hS3 hB3 hg3 hat3))
          have hxb3 := (HG3.out.block wr.heap.size (by omega) (fun e => by have := Kd.S_lt HSS.out _ e.symm; omega)).trans hxb
          have hcx : w3.cell? ⟨wr.heap.size, 0, none⟩ = some (.string x.f0) := by
            unfold World.cell?
            dsimp only
            rw [hxb3]
            rfl
          have hsz3 := HG3.out.size
          have hgW : W.heap.size + 1 ≤ g := by
            obtain ⟨f, hh⟩ := HS3.out
            exact hh.1 g rfl
          obtain ⟨oki, ve, hc1, hf1, hR1, hoki, hback⟩ := row_turn HS3.out (fun k hk => by omega) hg1 (s.out.length : Int) (by omega) (by simp; omega)
          generalize hys : (s.out ++ [[]]).getD ((s.out.length : Int)).toNat [] = ys at hR1
          have hcl : ys.length ≤ n.toNat := by rw [← hys]; simp
          obtain ⟨Ae, ce, rfl⟩ := Kd.R_slice hR1
          simp only [Int.toNat_natCast] at hc1 hf1 hback hys
          have hRd := Kd.R_mono (ok' := fun k => oki k ∨ w3.heap.size ≤ k) (Kd.R_drew hR1) (fun k hk => Or.inl hk)
          have hBd := below_drew HB3.out
          have hnb : ∀ k, wr.heap.size = k ∨ g = k → some k ≠ (Value.slice Ae ys.length ce).ownBlock := fun k hk => by
            rcases hk with rfl | rfl
            · exact Kd.R_ne hR1 hxb3 (by decide)
            · exact fun e => (hoki _ (hR1.1 _ e.symm)).2.1 rfl
          have hnm : some W.heap.size ≠ (Value.slice Ae ys.length ce).ownBlock := fun e => by
            have := (hoki _ (hR1.1 _ e.symm)).1
            omega
          have hnm3 : some W.heap.size ≠ (Value.slice Ao s.out.length co).ownBlock := fun e => by
            obtain ⟨f, hh⟩ := HSS.out
            have := hh.1 _ e.symm
            omega
          have HRd := Aside0.mk hRd
          have HBd := Aside0.mk hBd
          have HNB := Aside0.mk hnb
          have HYS := Aside0.mk hys
          have HBK := Aside0.mk hback
          clear hR1 hoki hback hRd hBd hnb hys hxb3 hxb
          have hi1 : ((s.out.length : Int) < (s.out.length : Int) + 1) := by omega
          refine start_ (n := 12) (S := fun w' => w'.cell? ⟨g, s.out.length, none⟩ = some (.slice Ae ys.length ce) ∧ w'.cell? ⟨wr.heap.size, 0, none⟩ = some (.string x.f0)) (ds := [11]) #[false, false, false, false, false, false, false, false, false, false, false, false] (by kernel_rfl) rfl rfl ⟨hc1, hcx⟩ (fun hHeld => ?_)
          generalize hwq : w3.drew = wq at hHeld ⊢
          have hzq : wq.heap.size = w3.heap.size := by rw [← hwq]; show w3.heap.size = _; rfl
          rw [hwq] at HRd HBd
          refine pure_ (i := 0) (N := some 37) (v := ?_) (a' := ?_) #[true, false, false, false, false, false, false, false, false, false, false, false] rfl rfl (by kernel_rfl) (fun _ _ _ h => h) (Or.inl ⟨by rfl, ?_⟩) ?_ ?_
          rotate_left
          · intro w'
            go_simp
            with_reducible rfl
          rotate_left
          · simp only [Act.put, List.setIfInBounds_toArray, List.set_cons_zero, List.set_cons_succ, i64_w, i32_w]
            rfl
          refine pure_ (i := 1) (N := some 38) (v := ?_) (a' := ?_) #[true, true, false, false, false, false, false, false, false, false, false, false] rfl rfl (by kernel_rfl) (fun _ _ _ h => h) (Or.inl ⟨by rfl, ?_⟩) ?_ ?_
          rotate_left
          · intro w'
            go_simp
            with_reducible rfl
          rotate_left
          · simp only [Act.put, List.setIfInBounds_toArray, List.set_cons_zero, List.set_cons_succ, i64_w, i32_w]
            rfl
          refine pure_ (i := 2) (N := some 39) (v := ?_) (a' := ?_) #[true, true, true, false, false, false, false, false, false, false, false, false] rfl rfl (by kernel_rfl) (fun _ _ _ h => h) (Or.inl ⟨by rfl, ?_⟩) ?_ ?_
          rotate_left
          · intro w'
            go_simp
            with_reducible rfl
          rotate_left
          · simp only [Act.put, List.setIfInBounds_toArray, List.set_cons_zero, List.set_cons_succ, i64_w, i32_w]
            rfl
          refine pure_ (i := 3) (N := some 40) (v := ?_) (a' := ?_) #[true, true, true, true, false, false, false, false, false, false, false, false] rfl rfl (by kernel_rfl) (fun _ _ _ h => h) (Or.inl ⟨by rfl, ?_⟩) ?_ ?_
          rotate_left
          · intro w'
            go_simp
            with_reducible rfl
          rotate_left
          · simp only [Act.put, List.setIfInBounds_toArray, List.set_cons_zero, List.set_cons_succ, i64_w, i32_w]
            rfl
          refine pure_ (i := 4) (N := some 41) (v := ?_) (a' := ?_) #[true, true, true, true, true, false, false, false, false, false, false, false] rfl rfl (by kernel_rfl) (fun _ _ _ h => h) (Or.inl ⟨by rfl, ?_⟩) ?_ ?_
          rotate_left
          · intro w'
            go_simp
            with_reducible rfl
          rotate_left
          · simp only [Act.put, List.setIfInBounds_toArray, List.set_cons_zero, List.set_cons_succ, i64_w, i32_w]
            rfl
          refine pure_ (i := 6) (N := some 43) (v := ?_) (a' := ?_) #[true, true, true, true, true, false, true, false, false, false, false, false] rfl rfl (by kernel_rfl) (fun _ _ _ h => h) (Or.inl ⟨by rfl, ?_⟩) ?_ ?_
          rotate_left
          · intro w'
            go_simp
            with_reducible rfl
          rotate_left
          · simp only [Act.put, List.setIfInBounds_toArray, List.set_cons_zero, List.set_cons_succ, i64_w, i32_w]
            rfl
          refine take_ (i := 5) (N := some 42) (v := ?_) (a' := ?_) #[true, true, true, true, true, true, true, false, false, false, false, false] rfl rfl (by kernel_rfl) (fun _ _ _ h => h) (Or.inl ⟨by rfl, ?_⟩) hHeld ?_ ?_
          rotate_left
          · rintro w' ⟨s0, s1⟩
            go_simp
            with_reducible rfl
          rotate_left
          · simp only [Act.put, List.setIfInBounds_toArray, List.set_cons_zero, List.set_cons_succ, i64_w, i32_w]
            rfl
          refine take_ (i := 7) (N := some 44) (v := ?_) (a' := ?_) #[true, true, true, true, true, true, true, true, false, false, false, false] rfl rfl (by kernel_rfl) (fun _ _ _ h => h) (Or.inl ⟨by rfl, ?_⟩) hHeld ?_ ?_
          rotate_left
          · rintro w' ⟨s0, s1⟩
            go_simp
            with_reducible rfl
          rotate_left
          · simp only [Act.put, List.setIfInBounds_toArray, List.set_cons_zero, List.set_cons_succ, i64_w, i32_w]
            rfl
          refine one_ (i := 8) (N := some 45) #[true, true, true, true, true, true, true, true, true, false, false, false] rfl rfl (by kernel_rfl) (by decide) (fun K hK => ?_)
          refine value_ (w1 := ?_) (v := ?_) (by rfl) rfl ?_ ?_
          rotate_left 2
          · go_simp
            constructor
            · rfl
            · rfl
          refine hK.out _ _ ⟨acell hHeld.1 _, acell hHeld.2 _⟩ (fun hHeld2 => ?_)
          clear hK K
          refine norm_ (a' := ?_) ?_ ?_
          rotate_left
          · show Act.put _ (some 45) _ = _
            simp only [Act.put, List.setIfInBounds_toArray, List.set_cons_zero, List.set_cons_succ, i64_w, i32_w]
            rfl
          refine one_ (i := 9) (N := some 46) #[true, true, true, true, true, true, true, true, true, true, false, false] rfl rfl (by kernel_rfl) (by decide) (fun K hK => ?_)
          refine Kd.R_append_step Kd.string (w0 := W) (W := wq) W.heap.size (by rfl) (.tmp 42) (.tmp 45) 26 9 (.string ⟨#[]⟩) 16 rfl Tryd.underlying26 info9 rfl (by decide) (by decide) (.slice Ae ys.length ce) ys x.f0 [.string x.f0] (fun k => oki k ∨ w3.heap.size ≤ k) (fun _ => False) (by rfl) (by rw [hzq]; rfl) rfl (fun _ h => h.elim) (fun k hk => Or.inr (by rw [hzq] at hk; exact hk)) HRd.out HBd.out (below_size HBd.out) (by omega) ?_
          intro v1 w1 ho hb hg hat
          obtain ⟨A1, c1, rfl⟩ := Kd.R_slice ho
          have k1 := (rcell hg g s.out.length (by omega) (HNB.out _ (Or.inr rfl))).trans hHeld.1
          have k2 := (rcell hg wr.heap.size 0 (by omega) (HNB.out _ (Or.inl rfl))).trans hHeld.2
          have k3 : w1.frozen? ⟨g, s.out.length, none⟩ = false := (rfrozen hg g s.out.length (by omega) (HNB.out _ (Or.inr rfl))).trans (by rw [← hwq]; exact hf1)
          have hg1 : w3.grownBy w1 (Value.slice Ae ys.length ce).ownBlock := by rw [← hwq] at hg; exact ⟨hg.os, hg.tape, hg.output, hg.size, hg.block⟩
          have HO := Aside0.mk ho
          have HB2 := Aside0.mk hb
          have HG := Aside0.mk hg1
          clear ho hb hg hat hg1
          refine hK.out _ _ ⟨k1, k2⟩ (fun hHeld3 => ?_)
          clear hK K
          refine norm_ (a' := ?_) ?_ ?_
          rotate_left
          · show Act.put _ (some 46) _ = _
            simp only [Act.put, List.setIfInBounds_toArray, List.set_cons_zero, List.set_cons_succ, i64_w, i32_w]
            rfl
          refine pure_ (i := 10) (N := some 47) (v := ?_) (a' := ?_) #[true, true, true, true, true, true, true, true, true, true, true, false] rfl rfl (by kernel_rfl) (fun _ _ _ h => h) (Or.inl ⟨by rfl, ?_⟩) ?_ ?_
          rotate_left
          · intro w'
            go_simp
            with_reducible rfl
          rotate_left
          · simp only [Act.put, List.setIfInBounds_toArray, List.set_cons_zero, List.set_cons_succ, i64_w, i32_w]
            rfl
          refine last_ (i := 11) (N := none) #[true, true, true, true, true, true, true, true, true, true, true, true] rfl rfl (by kernel_rfl) (by decide) (fun K hK => ?_)
          refine skip_ (w1 := ?_) (by rfl) rfl ?_ ?_
          rotate_left
          · go_simp
            rfl
          refine hK.out _ _ ?_
          clear hK K
          refine done_ (by kernel_rfl) ?_
          have hst : stepC s x = ⟨(x.f2.data.toList, (s.out.length : Int)) :: s.by_, s.out ++ [[x.f0]]⟩ := by unfold stepC; rw [if_pos H48.out]; simp only [HQ.out]
          have hfin : ClsRel l W (n + 1) (.slice (some ⟨g, 0, none⟩) (s.out.length + 1) cap) (w1.setCell ⟨g, s.out.length, none⟩ (.slice A1 (ys ++ [x.f0]).length c1)) := by
            refine ⟨by omega, by omega, ⟨stepC s x, HST.out, ?_, ?_, ?_⟩, below_put HB2.out _ _ (by omega) _, ?_⟩
            · rw [show (n + 1).toNat = n.toNat + 1 from by omega]
              exact HOK.out.step x
            · rw [hst, show (n + 1).toNat = n.toNat + 1 from by omega]
              exact map_put (((HM2.out.kept HG3.out hnm3).kept HG.out hnm).ext (fun t => intsV_put s.by_ _ _ t)) _ _ (by omega) _
            · rw [hst]
              exact by have h := HBK.out w1 _ _ HO.out HG.out; have hy0 : ys = [] := (by rw [← HYS.out]; simp); rw [hy0] at h ⊢; simpa using h
            · have := HG.out.size
              simp at this ⊢
              omega
          clear HBK HO HG HB2 k1 k2 k3 hHeld hHeld2 hHeld3
          go_wp2
          go_roundw
          case rel => exact ⟨n + 1, by go_num, ⟨by simpa using hfin⟩⟩
          case measure => simp [intOf]; omega
      · have e48 : (x.f3 != 48) = true := by rw [bne_iff_ne]; exact h48
        have hid : stepC s x = s := by unfold stepC; rw [if_neg h48]
        have hok1 := HOK.out.step x
        rw [hid] at hok1
        have HID := Aside0.mk hid
        have HOK1 := Aside0.mk hok1
        clear h48 hid hok1
        go_wp2
        have hfin : ∀ o, ClsRel l W (n + 1) (.slice Ao s.out.length co) (wr.alloc o) := fun o =>
          ⟨by omega, by omega, ⟨s, by rw [HST.out, HID.out], by rw [show (n + 1).toNat = n.toNat + 1 from by omega]; exact HOK1.out, by rw [show (n + 1).toNat = n.toNat + 1 from by omega]; exact (HM.out.alloc o).mono (Nat.le_succ _), Kd.S_alloc HSS.out o⟩, HB.out.alloc HB.out.size o, by simp; omega⟩
        go_roundw
        case rel => exact ⟨n + 1, by go_num, ⟨hfin _⟩⟩
        case measure => simp [intOf]; omega
    · have c1b : decide (n < (l.length : Int)) = false := decide_eq_false hlt
      go_wp2
      rw [← hQ.out]
      refine ⟨_, rfl, ?_, HB.out⟩
      have he : classesF l = s.out := by
        unfold classesF
        rw [← HS.out, List.take_of_length_le (by omega)]
      rw [he]
      exact Kd.S_mono HSS.out (fun _ _ => trivial)
end Go.Proofs.YtfljbidecljlcaaDoor
