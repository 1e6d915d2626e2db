/-
  path.Clean's contract: it answers cleanF; what lay there lies on.
-/
import Derived.Test.YtfljbidecljlcaaDoorSplit
import Derived.Test.YtfljbidecljlcaaDoorCleanP
import Derived.RangeFuncBox
namespace Go.Proofs.YtfljbidecljlcaaDoor
open Go.RowKit Go.Shelf
attribute [local go_sem] Oper.semAt_some
set_option linter.unusedVariables false
set_option linter.unusedSimpArgs false
theorem infoStr : (Tryd.prog.info? 9).map (fun i => (i.zero, i.size, i.bytes)) = some (some (.string ⟨#[]⟩), 1, 16) := by kernel_rfl
/-- What the answer's two cells hold. -/
def ResAt (n0 : Nat) (p : ByteArray × Int) (W : World) : Prop := Boxed W n0 9 (.string p.1) ∧ Boxed W (n0 + 1) 29 (.int .i64 p.2)
theorem ResAt.alloc {n0 : Nat} {p : ByteArray × Int} {W : World} (h : ResAt n0 p W) (o : Obj) : ResAt n0 p (W.alloc o) := ⟨h.1.alloc o, h.2.alloc o⟩
theorem ResAt.kept {n0 : Nat} {p : ByteArray × Int} {W W' : World} (h : ResAt n0 p W) {row : Option Nat} (hg : W.grownBy W' row) (h0 : some n0 ≠ row) (h1 : some (n0 + 1) ≠ row) : ResAt n0 p W' := ⟨h.1.kept hg h0, h.2.kept hg h1⟩
theorem ResAt.below {n0 : Nat} {p : ByteArray × Int} {W W' : World} (h : ResAt n0 p W) (hb : Below W.heap.size W W') : ResAt n0 p W' := ⟨(hb.block _ h.1.lt).trans h.1, (hb.block _ h.2.lt).trans h.2⟩
theorem ResAt.set {n0 : Nat} {p : ByteArray × Int} {W : World} (h : ResAt n0 p W) (a : ByteArray) (b : Int) : ResAt n0 (a, b) ((W.setCell ⟨n0, 0, none⟩ (.string a)).setCell ⟨n0 + 1, 0, none⟩ (.int .i64 b)) :=
  ⟨(Below.heap_setCell _ _ _ _ (by simp)).trans (h.1.set _), Boxed.set _ ((Below.heap_setCell _ _ _ _ (by simp)).trans h.2)⟩
theorem ResAt.start (w : World) : ResAt w.heap.size (⟨#[]⟩, 0) ((w.alloc (.cells #[.string ⟨#[]⟩] 9)).alloc (.cells #[.int .i64 0] 29)) :=
  ⟨(Boxed.new w _ _).alloc _, by have := Boxed.new (w.alloc (.cells #[.string ⟨#[]⟩] 9)) 29 (.int .i64 0); rwa [World.size_alloc] at this⟩
theorem start_below (w : World) (o1 o2 : Obj) : Below w.heap.size w ((w.alloc o1).alloc o2) := ((Below.refl _ _).alloc (Nat.le_refl _) _).alloc (by simp) _
theorem set_below {n0 : Nat} {w W : World} (h : Below n0 w W) (a b : Value) : Below n0 w ((W.setCell ⟨n0, 0, none⟩ a).setCell ⟨n0 + 1, 0, none⟩ b) := (h.setCell (p := ⟨n0, 0, none⟩) (Nat.le_refl _) _).setCell (p := ⟨n0 + 1, 0, none⟩) (Nat.le_succ _) _
/-- What a call of Clean leaves. -/
def CleanEnd (s : ByteArray) (w : World) (e : Ending) (w' : World) : Prop := e = .returned (.tuple #[.string (cleanF s).1, .int .i64 (cleanF s).2]) ∧ Below w.heap.size w w'
theorem results_clean {n0 : Nat} {p : ByteArray × Int} {W : World} {fn : Func} (hf : fn.results = #[.cell 2 9, .cell 3 29]) {tmps : Array Value} (h2 : tmps[2]?.getD undef = .pointer (some ⟨n0, 0, none⟩)) (h3 : tmps[3]?.getD undef = .pointer (some ⟨n0 + 1, 0, none⟩)) (h : ResAt n0 p W) :
    (results fn tmps).run Tryd.prog W = .ok (.tuple #[.string p.1, .int .i64 p.2]) W := by
  have c1 := h.1.cell
  have c2 := h.2.cell
  simp [results, hf, go_sem, h2, h3, c1, c2]
set_option maxHeartbeats 1000000 in
theorem clean_text (s : ByteArray) (w : World) (hs : s.size ≤ 9223372036854775807) (hT : Tabs w) (h1 : rightB s = false) :
    Calls Tryd.prog 72 #[.string s] w (CleanEnd s w) := by
  have cR := fun W (hW : Tabs W) => right_calls s W hs hW
  have e1 : cleanF s = (⟨#[]⟩, 9) := by simp [cleanF, h1]
  rw [h1] at cR
  have E1 := Lib.hid e1
  have HT := Lib.hid hT
  clear e1 h1 hT
  go_enter Tryd.func72, Tryd.ntmps72
  go_wp2_with (go_at_call 74; refine (cR _ (HT.out.below (start_below _ _ _))).mono ?_; rintro e w' ⟨rfl, hb⟩; have hr := (ResAt.start w).below hb; have k1 := hr.1.cell; have k2 := hr.1.frozen; have k3 := hr.2.cell; have k4 := hr.2.frozen)
  refine bodyPost_ret (results_clean rfl rfl rfl (hr.set ⟨#[]⟩ 9)) rfl ⟨by rw [E1.out], set_below ((start_below _ _ _).trans (hb.mono (by simp; omega))) _ _⟩
set_option maxHeartbeats 1000000 in
theorem clean_root (s : ByteArray) (w : World) (hs : s.size ≤ 9223372036854775807) (hT : Tabs w) (h1 : rightB s = true) (h2 : Lib.hasPrefix s.data.toList [47] = true) :
    Calls Tryd.prog 72 #[.string s] w (CleanEnd s w) := by
  have cR := fun W (hW : Tabs W) => right_calls s W hs hW
  have cP := fun W => Tryd.strings_HasPrefix s ⟨#[47]⟩ W
  have e1 : cleanF s = (⟨#[]⟩, 6) := by simp [cleanF, h1, h2]
  rw [h1] at cR
  rw [show (⟨#[47]⟩ : ByteArray).data.toList = [47] from rfl, h2] at cP
  have E1 := Lib.hid e1
  have HT := Lib.hid hT
  clear e1 h1 h2 hT
  go_enter Tryd.func72, Tryd.ntmps72
  go_wp2_with (first | (go_at_call 74; refine (cR _ (HT.out.below (start_below _ _ _))).mono ?_; rintro e w' ⟨rfl, hb⟩; have hr := (ResAt.start w).below hb; have k1 := hr.1.cell; have k2 := hr.1.frozen; have k3 := hr.2.cell; have k4 := hr.2.frozen) | (go_at_call 79; refine (cP _).mono ?_; rintro e w2 ⟨rfl, rfl⟩))
  refine bodyPost_ret (results_clean rfl rfl rfl (hr.set ⟨#[]⟩ 6)) rfl ⟨by rw [E1.out], set_below ((start_below _ _ _).trans (hb.mono (by simp; omega))) _ _⟩
/-- The loop's invariants: between two rounds; where a round has said 'no more'. -/
def CleanI (w : World) (P : Nat) (pre : List ByteArray) (W : World) : Prop :=
  pre.any isUp = false ∧ ResAt w.heap.size (⟨#[]⟩, 0) W ∧ (∃ v, Boxed W P 26 v ∧ W.ownsRow (P + 4) 9 1 v (partsOf pre).length ((partsOf pre).map Value.string)) ∧ Below w.heap.size w W ∧ P + 4 ≤ W.heap.size
def CleanIx (w : World) (c : Code) (pre : List ByteArray) (W : World) : Prop :=
  c = .ret ∧ (∃ p x, pre = p ++ [x] ∧ (x.toList == [46, 46]) = true) ∧ ResAt w.heap.size (⟨#[]⟩, 6) W ∧ Below w.heap.size w W
theorem CleanI.put {w : World} {P : Nat} {pre : List ByteArray} {W : World} {k : Nat} {o : Obj} (o' : Obj) (h : CleanI w P pre W) (hP : w.heap.size + 1 < P) (hk : P + 4 ≤ k) (ho : Book o) (hl : W.heap[k]? = some o) : CleanI w P pre (W.putObj k o') := by
  obtain ⟨h1, h2, ⟨v, h3, h4⟩, h5, h6⟩ := h
  exact ⟨h1, h2.kept (grownBy_putObj' W k o') (by simp; omega) (by simp; omega), ⟨v, h3.kept (grownBy_putObj' W k o') (by simp; omega), ownsRow_putObj h4 _ hl ho.1⟩, h5.grown (grownBy_putObj' W k o') h5.size (fun j e => by cases e; omega), by simpa using h6⟩
theorem CleanI.step {w : World} {P : Nat} {pre : List ByteArray} {W W' : World} (h : CleanI w P pre W) (hP : w.heap.size + 1 < P) (hk : SplitIt (P + 1) W W') : CleanI w P pre W' := by
  obtain ⟨u, rfl⟩ := hk
  obtain ⟨h1, h2, ⟨v, h3, h4⟩, h5, h6⟩ := h
  exact ⟨h1, h2.kept (grownBy_setCell' W _ _) (by simp; omega) (by simp; omega), ⟨v, h3.kept (grownBy_setCell' W _ _) (by simp), ownsRow_setCell_below h4 (a := ⟨P + 1, 0, none⟩) (by simp) _⟩, h5.setCell (p := ⟨P + 1, 0, none⟩) (by simp; omega) _, by simpa [World.setCell] using h6⟩
theorem CleanIx.put {w : World} {P : Nat} {c : Code} {pre : List ByteArray} {W : World} {k : Nat} {o : Obj} (o' : Obj) (h : CleanIx w c pre W) (hP : w.heap.size + 1 < P) (hk : P + 4 ≤ k) (ho : Book o) (hl : W.heap[k]? = some o) : CleanIx w c pre (W.putObj k o') := by
  obtain ⟨h1, h2, h3, h5⟩ := h
  exact ⟨h1, h2, h3.kept (grownBy_putObj' W k o') (by simp; omega) (by simp; omega), h5.grown (grownBy_putObj' W k o') h5.size (fun j e => by cases e; omega)⟩
theorem CleanIx.step {w : World} {P : Nat} {c : Code} {pre : List ByteArray} {W W' : World} (h : CleanIx w c pre W) (hP : w.heap.size + 1 < P) (hk : SplitIt (P + 1) W W') : CleanIx w c pre W' := by
  obtain ⟨u, rfl⟩ := hk
  obtain ⟨h1, h2, h3, h5⟩ := h
  exact ⟨h1, h2, h3.kept (grownBy_setCell' W _ _) (by simp; omega) (by simp; omega), h5.setCell (p := ⟨P + 1, 0, none⟩) (by simp; omega) _⟩
/-- The world in which the loop begins. -/
structure LoopStart (s : ByteArray) (w : World) (P : Nat) (W : World) : Prop where
  sz : W.heap.size = P + 4
  lt : w.heap.size + 1 < P
  res : ResAt w.heap.size (⟨#[]⟩, 0) W
  box : Boxed W P 26 (.slice none 0 0)
  cells : SplitCells (P + 1 + 1) (P + 1) (P + 1 + 2) s W
  bel : Below w.heap.size w W
theorem LoopStart.mk' {s : ByteArray} {w w2 : World} (hb : Below ((w.alloc (.cells #[.string ⟨#[]⟩] 9)).alloc (.cells #[.int .i64 0] 29)).heap.size ((w.alloc (.cells #[.string ⟨#[]⟩] 9)).alloc (.cells #[.int .i64 0] 29)) w2) :
    LoopStart s w w2.heap.size ((((w2.alloc (.cells #[.slice none 0 0] 26)).alloc (.cells #[.string s] 9)).alloc (.cells #[.string ⟨#[47]⟩] 9)).alloc (.cells #[.int .i64 0] 3)) := by
  have hs := hb.size
  simp at hs
  have c2 := Boxed.new (w2.alloc (.cells #[.slice none 0 0] 26)) 9 (.string s)
  rw [World.size_alloc] at c2
  have c3 := Boxed.new ((w2.alloc (.cells #[.slice none 0 0] 26)).alloc (.cells #[.string s] 9)) 9 (.string ⟨#[47]⟩)
  rw [World.size_alloc, World.size_alloc] at c3
  have c4 := Boxed.new (((w2.alloc (.cells #[.slice none 0 0] 26)).alloc (.cells #[.string s] 9)).alloc (.cells #[.string ⟨#[47]⟩] 9)) 3 (.int .i64 0)
  rw [World.size_alloc, World.size_alloc, World.size_alloc] at c4
  exact ⟨by simp, by omega, ((((ResAt.start w).below hb).alloc _).alloc _ |>.alloc _).alloc _, (((Boxed.new w2 _ _).alloc _).alloc _).alloc _, ⟨(c2.alloc _).alloc _, c3.alloc _, c4⟩,
    (((((start_below _ _ _).trans (hb.mono (by simp; omega))).alloc (by omega) _).alloc (by simp; omega) _).alloc (by simp; omega) _).alloc (by simp; omega) _⟩
/-- Behind 'parts = append(parts, part)'. -/
theorem appended {W w1 : World} {P k m : Nat} {v v' : Value} {xs ys : List Value} {tmp : Obj} (hv : Boxed W P 26 v) (hrow : W.ownsRow (P + 4) 9 1 v k xs) (hsz : P + 4 ≤ W.heap.size)
    (hown : w1.ownsRow (P + 4) 9 1 v' m ys) (hgrow : (W.alloc tmp).grownBy w1 v.ownBlock) :
    Boxed w1 P 26 v ∧ Boxed (w1.setCell ⟨P, 0, none⟩ v') P 26 v' ∧ (w1.setCell ⟨P, 0, none⟩ v').ownsRow (P + 4) 9 1 v' m ys ∧
      (∀ j o, W.heap[j]? = some o → j ≠ P → some j ≠ v.ownBlock → (w1.setCell ⟨P, 0, none⟩ v').heap[j]? = some o) ∧
      (∀ n0 w, n0 ≤ P → Below n0 w W → Below n0 w (w1.setCell ⟨P, 0, none⟩ v')) ∧ P + 4 ≤ (w1.setCell ⟨P, 0, none⟩ v').heap.size := by
  have hv1 : Boxed w1 P 26 v := (hv.alloc tmp).kept hgrow (hv.not_row (by decide) hrow)
  have hb : ∀ j, v.ownBlock = some j → P + 4 ≤ j := by
    intro j hj
    rcases hrow.2 with ⟨rfl, _⟩ | ⟨g, cap, cur, rfl, h, _⟩
    · simp [Value.ownBlock] at hj
    · obtain rfl : g = j := by simpa [Value.ownBlock] using hj
      exact h
  refine ⟨hv1, hv1.set v', hown.kept (grownBy_setCell' w1 P v') (.inr (hv1.not_row (by decide) hown).symm), fun j o hj h1 h2 => ?_, fun n0 w hn hB => ?_, ?_⟩
  · have hlt := (Array.getElem?_eq_some_iff.1 hj).1
    exact (Below.heap_setCell _ _ _ _ h1).trans ((hgrow.block j (by simp; omega) h2).trans ((Below.heap_alloc W tmp j hlt).trans hj))
  · exact ((hB.alloc (Nat.le_trans hn (by omega)) tmp).grown hgrow (by simp; omega) (fun j e => by have := hb j e; omega)).setCell (p := ⟨P, 0, none⟩) hn _
  · have := hgrow.size
    simp at this
    simp [World.setCell]
    omega
theorem own_not_book {W : World} {base size k j : Nat} {e : TypeId} {v : Value} {xs : List Value} {o : Obj} (hrow : W.ownsRow base e size v k xs) (hj : W.heap[j]? = some o) (ho : o.isCells = false) : some j ≠ v.ownBlock := by
  rcases hrow.2 with ⟨rfl, _⟩ | ⟨g, cap, cur, rfl, _, hg, _⟩
  · simp [Value.ownBlock]
  · intro e'
    obtain rfl : j = g := by simpa [Value.ownBlock] using e'
    rw [hj] at hg; cases hg; cases ho
theorem own_not_low {W : World} {base size k j : Nat} {e : TypeId} {v : Value} {xs : List Value} (hrow : W.ownsRow base e size v k xs) (hj : j < base) : some j ≠ v.ownBlock := by
  rcases hrow.2 with ⟨rfl, _⟩ | ⟨g, cap, cur, rfl, hb, _⟩
  · simp [Value.ownBlock]
  · intro e'
    obtain rfl : j = g := by simpa [Value.ownBlock] using e'
    omega
theorem parts_bound {pre : List ByteArray} {s : ByteArray} (h : (partsOf pre).length ≤ s.size + 1) (hs : s.size ≤ 8000000000000) : (partsOf pre).length + 1 ≤ 9223372036854775807 ∧ ((partsOf pre).length + 1) * 16 ≤ 140737488355328 := by omega
/-- The parts, put together. -/
theorem join_own {W : World} {base : Nat} {v : Value} {s : ByteArray} (hrow : W.ownsRow base 9 1 v (partsOf (splitS s)).length ((partsOf (splitS s)).map Value.string)) (_hb : base ≤ W.heap.size) (hs : s.size ≤ 8000000000000) :
    Calls Tryd.prog 81 #[v, .string ⟨#[47]⟩] W fun e W' => e = .returned (.string (outOf s)) ∧ Below W.heap.size W W' := by
  have hl := out_len s
  have hn := parts_len s
  by_cases h0 : partsOf (splitS s) = []
  · have ho : outOf s = ⟨#[]⟩ := by simp [outOf, h0, Lib.join]
    rw [ho]
    rcases hrow.2 with ⟨rfl, _⟩ | ⟨g, cap, cur, rfl, _⟩
    · refine (Tryd.strings_Join_none _ _ _ W).mono ?_
      rintro e w' ⟨rfl, rfl⟩
      exact ⟨rfl, Below.refl _ _⟩
    · rw [h0]
      refine (Tryd.strings_Join_none _ _ _ W).mono ?_
      rintro e w' ⟨rfl, rfl⟩
      exact ⟨rfl, Below.refl _ _⟩
  · have hp : 0 < (partsOf (splitS s)).length := List.length_pos_iff.2 h0
    have hc := fun g hg => hrow.cells (g := g) hg
    rcases hrow.2 with ⟨_, h1⟩ | ⟨g, cap, cur, rfl, _, hg, hnc, _⟩
    · omega
    · refine (Tryd.strings_Join g 0 cap (partsOf (splitS s)) ⟨#[47]⟩ W ?_ (Array.getElem?_eq_some_iff.1 hg).1 (by omega) hnc ?_).mono ?_
      · intro j x hx
        have := hc g (by simp [Value.ownBlock]) j (.string x) (by simp [hx])
        rwa [show (⟨g, 0, none⟩ : Addr).add j = ⟨g, 0 + j, none⟩ from by unfold Addr.add; split <;> simp_all] at this
      · show (Lib.join _ [47]).length ≤ _
        omega
      · rintro e w' ⟨rfl, hb⟩
        exact ⟨rfl, hb⟩
set_option maxRecDepth 100000 in
set_option maxHeartbeats 1000000 in
theorem clean_loop (s : ByteArray) (w : World) (hs : s.size ≤ 8000000000000) (hT : Tabs w) (h1 : rightB s = true) (h2 : Lib.hasPrefix s.data.toList [47] = false) :
    Calls Tryd.prog 72 #[.string s] w (CleanEnd s w) := by
  refine (callsIn_wide (n := 3)).1 ?_
  have cR := fun W (hW : Tabs W) => right_calls s W (by omega) hW
  have cP := fun W => Tryd.strings_HasPrefix s ⟨#[47]⟩ W
  rw [h1] at cR
  rw [show (⟨#[47]⟩ : ByteArray).data.toList = [47] from rfl, h2] at cP
  have H1 := Lib.hid h1
  have H2 := Lib.hid h2
  have HT := Lib.hid hT
  obtain ⟨i0, hi, hz0, hz1, hz2⟩ := info_parts infoStr
  clear h1 h2 hT
  refine callsIn_of_wp_marks Tryd.func72 rfl trivial ?_ rfl
  simp only [Tryd.ntmps72, List.size_toArray, List.length_cons, List.length_nil, Nat.reduceAdd, Nat.reduceSub, Array.replicate_succ, Array.replicate_zero, List.push_toArray, List.append_toArray, List.nil_append, List.cons_append]
  gi_wp2_with (first | (refine ⟨trivial, ?_⟩; gi_at_call 74; refine (callsIn_wide.2 (cR _ (HT.out.below (start_below _ _ _)))).mono ?_; rintro e w' ⟨rfl, hb⟩; have hr := (ResAt.start w).below hb) | (refine ⟨trivial, ?_⟩; gi_at_call 79; refine (callsIn_wide.2 (cP _)).mono ?_; rintro e w2 ⟨rfl, rfl⟩) | (refine ⟨trivial, ?_⟩; gi_at_call 80; refine (callsIn_wide.2 (SplitSeq_calls s _)).mono ?_; rintro e w3 ⟨rfl, rfl⟩))
  have hL := LoopStart.mk' (s := s) hb
  generalize hWl : ((((w2.alloc (.cells #[.slice none 0 0] 26)).alloc (.cells #[.string s] 9)).alloc (.cells #[.string ⟨#[47]⟩] 9)).alloc (.cells #[.int .i64 0] 3)) = Wl at hL ⊢
  clear hWl hr hb cP cR
  generalize w2.heap.size = P at hL ⊢
  refine wpIn_range_own rfl (by omega) (gf := 105) (lb := #[.pointer (some ⟨P + 1 + 1, 0, none⟩), .pointer (some ⟨P + 1, 0, none⟩), .pointer (some ⟨P + 1 + 2, 0, none⟩)]) rfl trivial (enters_of Tryd.func105 (by kernel_rfl) rfl)
    (split_gives 2 Wl.heap.size (P + 1 + 1) (P + 1) (P + 1 + 2) s Wl (by omega) (by omega) (by omega) (by rw [hL.sz]; omega) (by rw [hL.sz]; omega) (by rw [hL.sz]; omega) (by omega) hL.cells) (fun _ => rfl)
    (fun A A' k o hi hk ho hl => by
      obtain ⟨u, rfl⟩ := hi
      have := hL.sz
      exact (Below.heap_setCell _ _ _ _ (by simp; omega)).trans hl)
    (fun h k => ⟨k.1.trans h.1, k.2.1.trans h.2.1, k.2.2.trans h.2.2⟩)
    (fun A k o' hk => by
      have := hL.sz
      exact ⟨World.putObj_heap_other (by omega), World.putObj_heap_other (by omega), World.putObj_heap_other (by omega)⟩)
    (CleanI w P) (CleanIx w)
    (fun pre A k o o' h hk ho hl => h.put o' hL.lt (by have := hL.sz; omega) ho hl) (fun c pre A k o o' h hk ho hl => h.put o' hL.lt (by have := hL.sz; omega) ho hl)
    (fun pre A A' h hi => h.step hL.lt hi) (fun c pre A A' h hi => h.step hL.lt hi)
    (fun o1 o2 => ⟨rfl, (hL.res.alloc _).alloc _, ⟨_, (hL.box.alloc _).alloc _, World.ownsRow_nil _ _ _ _⟩, (hL.bel.alloc hL.bel.size _).alloc (by have := hL.bel.size; simp; omega) _, by have := hL.sz; simp; omega⟩)
    (fun x => { tmps := #[.string s, undef, .pointer (some ⟨w.heap.size, 0, none⟩), .pointer (some ⟨w.heap.size + 1, 0, none⟩), .pointer (some ⟨P, 0, none⟩), .string x, undef, .bool false, .string s, .bool true, .bool false, .bool false, .string s, .bool false, .string s,
          .func (.func 105) #[] #[.pointer (some ⟨P + 1 + 1, 0, none⟩), .pointer (some ⟨P + 1, 0, none⟩), .pointer (some ⟨P + 1 + 2, 0, none⟩)],
          .string x, undef, undef, undef, undef, undef, undef, undef, undef, undef, undef, undef, undef, undef, undef, undef, undef, undef, undef, undef, undef], defers := [] }) ?assign ?body ?done ?stop
  case assign =>
    intro l x W K hK
    gi_wp2
    exact hK
  case body =>
    rintro l rec pre x W ⟨h1, hr, ⟨v, hv, hrow⟩, hB, hsz⟩ hpx hl hd hl2 hk2
    have hlt := hL.lt
    have hLs := hL.sz
    have cv := hv.cell
    have k1 := hr.1.cell
    have k2 := hr.1.frozen
    have k3 := hr.2.cell
    have k4 := hr.2.frozen
    by_cases hup : (x.toList == [46, 46]) = true
    · have HL2 := Lib.hid hl2
      have HK2 := Lib.hid hk2
      clear hl2 hk2 hLs
      gi_wp2
      have HLs := hL.sz
      exact ⟨⟨(Below.heap_setCell _ _ _ _ (by simp; omega)).trans ((Below.heap_setCell _ _ _ _ (by simp; omega)).trans HL2.out), (Below.heap_setCell _ _ _ _ (by simp; omega)).trans ((Below.heap_setCell _ _ _ _ (by simp; omega)).trans HK2.out)⟩, rfl, ⟨pre, x, rfl, hup⟩, hr.set _ _, set_below hB _ _⟩
    · have hup' : (x.toList == [46, 46]) = false := by simpa using hup
      clear hup
      by_cases he : (x.toList == []) = true
      · have HL2 := Lib.hid hl2
        have HK2 := Lib.hid hk2
        clear hl2 hk2 hLs
        gi_wp2
        exact ⟨⟨HL2.out, HK2.out⟩, ⟨rfl, rfl, rfl⟩, any_snoc h1 hup', hr, ⟨v, hv, by rw [partsOf_miss (.inl he)]; exact hrow⟩, hB, hsz⟩
      · have he' : (x.toList == []) = false := by simpa using he
        clear he
        by_cases hd1 : (x.toList == [46]) = true
        · have HL2 := Lib.hid hl2
          have HK2 := Lib.hid hk2
          clear hl2 hk2 hLs
          gi_wp2
          exact ⟨⟨HL2.out, HK2.out⟩, ⟨rfl, rfl, rfl⟩, any_snoc h1 hup', hr, ⟨v, hv, by rw [partsOf_miss (.inr hd1)]; exact hrow⟩, hB, hsz⟩
        · have hd1' : (x.toList == [46]) = false := by simpa using hd1
          clear hd1
          have HL2 := Lib.hid hl2
          have HK2 := Lib.hid hk2
          obtain ⟨b1, b2⟩ := parts_bound (prefix_len ((List.prefix_append pre [x]).trans hpx)) hs
          clear hl2 hk2 hLs hpx
          gi_wp2_with (gi_at_builtin; refine wpListIn_append_own _ rfl _ _ 26 rfl (P + 4) 9 i0 (.string ⟨#[]⟩) 1 16 Tryd.underlying26 hi hz0 hz1 hz2 rfl (by decide) _ _ _ rfl (hrow.alloc _) ⟨W.heap.size, 0, none⟩ 1 1 [.string x] rfl rfl (cell_one_new _ _ _) (by simp [Value.oneCell']) (by unfold maxLen; omega) (by omega) (by simp; omega) ?_; intro v' w1 hown' hgrow _; obtain ⟨g', cap', rfl⟩ := ownsRow_succ hown'; obtain ⟨hv1, hv2, hr2, hk2, hb2, hz2⟩ := appended hv hrow hsz hown' hgrow; have hc1 := hv1.cell; have hf1 := hv1.frozen)
          have low : ∀ j o, W.heap[j]? = some o → j < P + 4 → j ≠ P → (w1.setCell ⟨P, 0, none⟩ (.slice (some ⟨g', 0, none⟩) ((partsOf pre).length + 1) cap')).heap[j]? = some o := fun j o hj h4 h5 => hk2 j o hj h5 (own_not_low hrow h4)
          have kept : ∀ j, j < P + 4 → j ≠ P → (w1.setCell ⟨P, 0, none⟩ (.slice (some ⟨g', 0, none⟩) ((partsOf pre).length + 1) cap')).heap[j]? = W.heap[j]? := fun j h4 h5 => by
            have hj : j < W.heap.size := by omega
            rw [Array.getElem?_eq_getElem hj]
            exact low j _ (Array.getElem?_eq_getElem hj) h4 h5
          have HLs := hL.sz
          exact ⟨⟨hk2 _ _ HL2.out (by omega) (own_not_book hrow HL2.out rfl), hk2 _ _ HK2.out (by omega) (own_not_book hrow HK2.out rfl)⟩,
            ⟨kept _ (by omega) (by omega), kept _ (by omega) (by omega), kept _ (by omega) (by omega)⟩, any_snoc h1 hup', ⟨low _ _ hr.1 (by omega) (by omega), low _ _ hr.2 (by omega) (by omega)⟩,
            ⟨_, hv2, by rw [partsOf_hit he' hd1']; simpa using hr2⟩, hb2 _ _ (by omega) hB, hz2⟩
  case done =>
    rintro D ys W hD rfl ⟨h1, hr, ⟨v, hv, hrow⟩, hB, hsz⟩ hK
    have hlt := hL.lt
    have hLs := hL.sz
    have cv := hv.cell
    have cJ : CallsIn Fence.wide (3 - 1) Tryd.prog 81 #[v, .string ⟨#[47]⟩] W fun e W' => e = .returned (.string (outOf s)) ∧ Below W.heap.size W W' := callsIn_wide.2 (join_own hrow (by omega) hs)
    have fin : ∀ (w4 : World), Below W.heap.size W w4 → ∀ (p : ByteArray × Int) (w5 : World), w5 = ((w4.setCell ⟨w.heap.size, 0, none⟩ (.string p.1)).setCell ⟨w.heap.size + 1, 0, none⟩ (.int .i64 p.2)) →
        w5.heap[D]? = some (.deferred (some [])) ∧ ResAt w.heap.size p (w5.putObj D (.deferred none)) ∧ Below w.heap.size w (w5.putObj D (.deferred none)) := by
      rintro w4 hb4 p w5 rfl
      have hD4 : w4.heap[D]? = some (.deferred (some [])) := (hb4.block _ (Array.getElem?_eq_some_iff.1 hK).1).trans hK
      have hB5 := set_below (hB.trans (hb4.mono hB.size)) (.string p.1) (.int .i64 p.2)
      refine ⟨(Below.heap_setCell _ _ _ _ (by simp; omega)).trans ((Below.heap_setCell _ _ _ _ (by simp; omega)).trans hD4), ((hr.below hb4).set p.1 p.2).kept (grownBy_putObj' _ D _) (by simp; omega) (by simp; omega), ?_⟩
      exact hB5.grown (grownBy_putObj' _ D _) hB5.size (fun j e => by cases e; omega)
    have Fin := Lib.hid fin
    clear fin hrow
    have hcl : cleanF s = if (outOf s).toList == [] || decide (200 < (outOf s).size) then (⟨#[]⟩, 6) else (outOf s, 0) := by simp [cleanF, H1.out, H2.out, h1]
    generalize outOf s = O at cJ hcl
    by_cases ho : (O.toList == []) = true
    · have E1 := Lib.hid (show cleanF s = (⟨#[]⟩, 6) by rw [hcl]; simp [ho])
      clear hcl
      gi_wp2_with (refine ⟨trivial, ?_⟩; gi_at_call 81; refine cJ.mono ?_; rintro e w4 ⟨rfl, hb4⟩; have hr4 := hr.below hb4; have k1 := hr4.1.cell; have k2 := hr4.1.frozen; have k3 := hr4.2.cell; have k4 := hr4.2.frozen)
      have F1 := Fin.out w4 hb4 (⟨#[]⟩, 6) _ rfl
      exact ⟨by simp, .inl ⟨_, _, rfl, run_takeDeferred F1.1, ⟨_, results_clean rfl rfl rfl F1.2.1, by rw [E1.out], F1.2.2⟩⟩⟩
    · have ho' : (O.toList == []) = false := by simpa using ho
      clear ho
      by_cases h200 : (200 : Int) < (O.size : Int)
      · have E1 := Lib.hid (show cleanF s = (⟨#[]⟩, 6) by rw [hcl, decide_eq_true (by omega : 200 < O.size)]; simp)
        clear hcl
        gi_wp2_with (refine ⟨trivial, ?_⟩; gi_at_call 81; refine cJ.mono ?_; rintro e w4 ⟨rfl, hb4⟩; have hr4 := hr.below hb4; have k1 := hr4.1.cell; have k2 := hr4.1.frozen; have k3 := hr4.2.cell; have k4 := hr4.2.frozen)
        have F1 := Fin.out w4 hb4 (⟨#[]⟩, 6) _ rfl
        exact ⟨by simp, .inl ⟨_, _, rfl, run_takeDeferred F1.1, ⟨_, results_clean rfl rfl rfl F1.2.1, by rw [E1.out], F1.2.2⟩⟩⟩
      · have E1 := Lib.hid (show cleanF s = (O, 0) by rw [hcl, ho', decide_eq_false (by omega : ¬ 200 < O.size)]; simp)
        clear hcl
        gi_wp2_with (refine ⟨trivial, ?_⟩; gi_at_call 81; refine cJ.mono ?_; rintro e w4 ⟨rfl, hb4⟩; have hr4 := hr.below hb4; have k1 := hr4.1.cell; have k2 := hr4.1.frozen; have k3 := hr4.2.cell; have k4 := hr4.2.frozen)
        have F1 := Fin.out w4 hb4 (O, 0) _ rfl
        exact ⟨by simp, .inl ⟨_, _, rfl, run_takeDeferred F1.1, ⟨_, results_clean rfl rfl rfl F1.2.1, by rw [E1.out], F1.2.2⟩⟩⟩
  case stop =>
    rintro D c pre W hD hsp ⟨rfl, ⟨p, x, rfl, hup⟩, hr, hB⟩ hK
    have e1 : cleanF s = (⟨#[]⟩, 6) := by simp [cleanF, H1.out, H2.out, any_prefix hsp hup]
    have E1 := Lib.hid e1
    have hlt := hL.lt
    have hLs := hL.sz
    clear e1
    gi_wp2
    refine ⟨by simp, .inl ⟨_, _, rfl, run_takeDeferred hK, ?_⟩⟩
    have hr' : ResAt w.heap.size (⟨#[]⟩, 6) (W.putObj D (.deferred none)) := hr.kept (grownBy_putObj' W D _) (by simp; omega) (by simp; omega)
    exact ⟨_, results_clean rfl rfl rfl hr', by rw [E1.out], hB.grown (grownBy_putObj' W D _) hB.size (fun j e => by cases e; omega)⟩
/-- **path.Clean answers cleanF.** -/
theorem Clean_calls (s : ByteArray) (w : World) (hs : s.size ≤ 8000000000000) (hT : Tabs w) : Calls Tryd.prog 72 #[.string s] w (CleanEnd s w) := by
  cases h1 : rightB s with
  | false => exact clean_text s w (by omega) hT h1
  | true =>
    cases h2 : Lib.hasPrefix s.data.toList [47] with
    | true => exact clean_root s w (by omega) hT h1 h2
    | false => exact clean_loop s w hs hT h1 h2
end Go.Proofs.YtfljbidecljlcaaDoor
