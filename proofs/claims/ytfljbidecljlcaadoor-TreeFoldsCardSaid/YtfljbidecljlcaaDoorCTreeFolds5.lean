/-
  Part of the proof that TreeFolds answers true: texts put together (wip/bundle.py).
-/
import Derived.Test.YtfljbidecljlcaaDoorCTreeFolds4
import Derived.Deep.RegionHeld3
import Derived.Deep.QuietTactic
import Derived.BigQuiet
import Derived.IntWalk
import Derived.Laws.MakeOwn
import Derived.SizedLaws
import Derived.ChangeSlices
import Derived.OpenShut
namespace Go.Proofs.YtfljbidecljlcaaDoor
open Go.RowKit Go.Proofs.YtfljbidecljlcaaDoor.Print Go.Proofs.YtfljbidecljlcaaDoorW.PrintWords
set_option linter.unusedVariables false
def clsOf (l : List Mem) (q : ByteArray × Nat) : Cls := ⟨⟨q.1, (l.getD q.2 zM).f1, emp, (l.getD q.2 zM).f2, (l.getD q.2 zM).f3, (l.getD q.2 zM).f4⟩, (q.2 : Int)⟩
def idxC (xs : List Cls) (p : ByteArray) : Int := match xs.findIdx? (fun x => decide (x.f0.f0.toList = p.toList)) with
 | some i => (i : Int)
 | none => -1
theorem rdC_nat (xs : List Cls) (j : Nat) (h : j < xs.length) : rd_T76 xs (j : Int) = xs[j] := by
 unfold rd_T76
 rw [Int.toNat_natCast, List.getD_eq_getElem?_getD, List.getElem?_eq_getElem h]
 rfl
theorem idxC_some {xs : List Cls} {p : ByteArray} {i : Nat} (hi : i < xs.length) (h : xs[i].f0.f0.toList = p.toList) (hno : ∀ (j : Nat) (hj : j < xs.length), j < i → xs[j].f0.f0.toList ≠ p.toList) : idxC xs p = (i : Int) := by
 unfold idxC
 rw [List.findIdx?_eq_some_iff_getElem.2 ⟨hi, decide_eq_true h, fun j hj => by simpa using hno j (by omega) hj⟩]
theorem idxC_none {xs : List Cls} {p : ByteArray} (hno : ∀ (j : Nat) (hj : j < xs.length), xs[j].f0.f0.toList ≠ p.toList) : idxC xs p = -1 := by
 unfold idxC
 rw [List.findIdx?_eq_none_iff.2 (fun x hx => by obtain ⟨i, hi, rfl⟩ := List.getElem_of_mem hx; simpa using hno i hi)]
theorem at_l (xs : List Cls) (p : ByteArray) (hlen : xs.length ≤ 4611686018427387904) : ∀ (d i : Nat), i + d = xs.length → (∀ (j : Nat) (hj : j < xs.length), j < i → xs[j].f0.f0.toList ≠ p.toList) → Ev (fun k => bindleref08_at.l0 k xs p (i : Int)) (idxC xs p) := by
 intro d
 induction d with
 | zero =>
  intro i hi hno
  rw [idxC_none (fun j hj => hno j hj (by omega))]
  exact Ev.step (f := fun _ => some (-1)) (fun k => by rw [bindleref08_at.l0, if_neg (by omega)]) (Ev.now _)
 | succ d ih =>
  intro i hi hno
  have hil : i < xs.length := by omega
  by_cases he : xs[i].f0.f0.toList = p.toList
  ·rw [idxC_some hil he hno]
   exact Ev.step (f := fun _ => some (i : Int)) (fun k => by rw [bindleref08_at.l0, if_pos (by omega), if_pos (by omega), rdC_nat xs i hil, if_pos he]) (Ev.now _)
  ·refine Ev.step (fun k => ?_) (ih (i + 1) (by omega) (fun j hj hji => ?_))
   ·rw [bindleref08_at.l0, if_pos (by omega), if_pos (by omega), rdC_nat xs i hil, if_neg he]
    rw [show wrap64 ((i : Int) + 1) = ((i + 1 : Nat) : Int) by unfold wrap64; omega]
   ·rcases Nat.lt_or_ge j i with h | h
    ·exact hno j hj h
    ·obtain rfl : j = i := by omega
     exact he
theorem at_eq (xs : List Cls) (p : ByteArray) (hlen : xs.length ≤ 4611686018427387904) : Ev (fun k => bindleref08_at.f k xs p) (idxC xs p) := at_l xs p hlen xs.length 0 (by omega) (fun j hj h => absurd h (Nat.not_lt_zero _))
theorem idx_at {l : List Mem} {s : PS} (hn : (s.map (fun q => q.1)).Nodup) (p : ByteArray) : (atD s p.data.toList = none ∧ idxC (s.map (clsOf l)) p = -1) ∨ ∃ (i : Nat) (hi : i < s.length), idxC (s.map (clsOf l)) p = (i : Int) ∧ atD s p.data.toList = some s[i].2 := by
 by_cases h : ∃ (i : Nat) (hi : i < s.length), s[i].1 = p
 ·obtain ⟨i, hi, rfl⟩ := h
  refine .inr ⟨i, hi, ?_, atD_of_mem hn (List.getElem_mem hi)⟩
  have hget : ∀ (j : Nat) (hj : j < (s.map (clsOf l)).length), ((s.map (clsOf l))[j]).f0.f0 = (s[j]'(by simpa using hj)).1 := fun j hj => by rw [List.getElem_map]; rfl
  refine idxC_some (by rw [List.length_map]; exact hi) (by rw [hget]) (fun j hj hji e => ?_)
  rw [hget] at e
  have e := ba_ext e
  rw [List.nodup_iff_pairwise_ne, List.pairwise_map, List.pairwise_iff_getElem] at hn
  exact hn j i (by simpa using hj) hi hji e
 ·refine .inl ⟨?_, ?_⟩
  ·cases ha : atD s p.data.toList with
   | none => rfl
   | some c =>
    obtain ⟨q, hq, he, _⟩ := atD_mem ha
    obtain ⟨i, hi, rfl⟩ := List.getElem_of_mem hq
    exact absurd ⟨i, hi, ba_data.1 he⟩ h
  ·refine idxC_none (fun j hj e => h ⟨j, by simpa using hj, ?_⟩)
   rw [List.getElem_map] at e
   exact ba_ext e
theorem without_map (l : List Mem) (s : PS) (p : ByteArray) : (s.map (clsOf l)).filter (fun x => !decide (x.f0.f0.toList = p.toList)) = (without s p).map (clsOf l) := by
 unfold without
 rw [List.filter_map]
 rfl
theorem sortC_map {l : List Mem} {s : PS} (hn : (s.map (fun q => q.1)).Nodup) : sortC (s.map (clsOf l)) = (sortP s).map (clsOf l) := by
 refine List.Perm.eq_of_pairwise (le := fun a b => lt a.f0.f0 b.f0.f0 = true) (fun a b _ _ h1 h2 => by rw [lt_asym h1] at h2; cases h2) ?_ ?_ ?_
 ·refine sortC_rise ?_
  rw [List.map_map]
  exact hn
 ·rw [List.pairwise_map]
  exact sortP_rise hn
 ·exact (sortC_perm _).trans ((sortP_perm s).symm.map _)
theorem lead_map (l : List Mem) (sp : PS) (i : Nat) (hi : i < sp.length) : leadC (sp.map (clsOf l)) i (clsOf l sp[i]) = if (l.getD sp[i].2 zM).f2 = 48 then leadOf sp sp[i].2 else emp := by
 unfold leadC
 by_cases h48 : (l.getD sp[i].2 zM).f2 = 48
 ·rw [if_pos h48, if_pos (show (clsOf l sp[i]).f0.f3 = 48 from h48), ← leadOf_take hi, ← List.map_take, List.find?_map]
  unfold leadOf
  have e : (fun y => decide (y.f0.f3 = 48 ∧ y.f1 = (clsOf l sp[i]).f1)) ∘ clsOf l = fun q => decide (q.2 = sp[i].2) := by
   funext q
   show decide ((l.getD q.2 zM).f2 = 48 ∧ (q.2 : Int) = (sp[i].2 : Int)) = _
   rw [decide_eq_decide]
   constructor
   ·intro h; omega
   ·intro h; exact ⟨by rw [h]; exact h48, by rw [h]⟩
  rw [e]
  cases (sp.take (i + 1)).find? (fun q => decide (q.2 = sp[i].2)) with
  | none => rfl
  | some q => rfl
 ·rw [if_neg h48, if_neg (show ¬ (clsOf l sp[i]).f0.f3 = 48 from h48)]
theorem sorted_map {l : List Mem} {s : PS} (hn : (s.map (fun q => q.1)).Nodup) : sortedF (s.map (clsOf l)) = (sortP s).map (nodeOf l (sortP s)) := by
 unfold sortedF
 rw [sortC_map hn]
 apply List.ext_getElem
 ·simp
 ·intro i h1 h2
  rw [List.getElem_mapIdx, List.getElem_map, List.getElem_map]
  have hi : i < (sortP s).length := by simpa using h2
  unfold outC
  rw [lead_map l _ i hi]
  rfl
end Go.Proofs.YtfljbidecljlcaaDoor

namespace Go.Proofs.YtfljbidecljlcaaDoor
open Go.RowKit Go.Maps Go.Proofs.YtfljbidecljlcaaDoor.Print Go.Proofs.YtfljbidecljlcaaDoorW.PrintWords Go.Proofs.YtfljbidecljlcaaDoorW.PrintLast Go.Proofs.YtfljbidecljlcaaDoorW.PrintMore
set_option linter.unusedVariables false
set_option linter.unusedSimpArgs false
theorem infoCls : (Tryd.prog.info? 76).map (fun i => (i.zero, i.size, i.bytes)) = some (some (.agg #[(.string ⟨#[]⟩), (.string ⟨#[]⟩), (.string ⟨#[]⟩), (.int .u8 0), (.int .i64 0), (.int .i64 0), (.int .i64 0), (.int .i64 0), (.slice none 0 0), (.int .i64 0)]), 10, 120) := by kernel_rfl
def clsCells (x : Cls) (v : Value) : List Value := [.string x.f0.f0, .string x.f0.f1, .string x.f0.f2, .int .u8 x.f0.f3, .int .i64 x.f0.f4.f0, .int .i64 x.f0.f4.f1, .int .i64 x.f0.f4.f2, .int .i64 x.f0.f4.f3, v, .int .i64 x.f1]
theorem cls_elem {W : World} {base g n cap : Nat} {ok : Nat → Prop} {xs : List Cls} (h : Kd.N k76 76 W base ok (.slice (some ⟨g, 0, none⟩) n cap) xs) (i : Nat) (hi : i < xs.length) (hn : n = xs.length) :
  ∃ A c, (∀ j u, (clsCells xs[i] (.slice A xs[i].f0.f5.length c))[j]? = some u → W.cell? ⟨g, i * 10 + j, none⟩ = some u) ∧ (∀ j, W.frozen? ⟨g, i * 10 + j, none⟩ = false) ∧ xs[i].f0.f5.length ≤ c ∧ Kd.F (Kd.int .u8) W (fun k => ok k ∧ k ≠ g) A xs[i].f0.f5.length xs[i].f0.f5 ∧
   Kd.FK k76 W (fun k => ok k ∧ k ≠ g) xs[i] (clsCells xs[i] (.slice A xs[i].f0.f5.length c)) := by
 obtain ⟨c, hcl, hF, hcc, hfr⟩ := Kd.N_elem h z76 (i : Int) (by omega) (by omega)
 have e : xs.getD ((i : Int)).toNat z76 = xs[i] := by rw [Int.toNat_natCast, List.getD_eq_getElem?_getD, List.getElem?_eq_getElem hi]; rfl
 rw [e] at hF
 simp only [Int.toNat_natCast] at hcc hfr
 obtain ⟨A, c', rfl, hl, hf⟩ := k76_openF hF
 exact ⟨A, c', hcc, hfr, hl, hf, hF⟩
theorem made_cls (W : World) (base : Nat) (hb : base ≤ W.heap.size := by exact Nat.le_refl _) : Kd.N k76 76 (W.alloc (.cells #[] 76)) base (fun k => W.heap.size ≤ k) (.slice (some ⟨W.heap.size, 0, none⟩) 0 0) [] :=
 ⟨fun k hk => by simp [Value.ownBlock] at hk; omega, [], rfl, ⟨fun k hk => hk.symm, [], World.ownsRow_made W #[] 0 hb (Nat.zero_le _) rfl, Reps.none _ _⟩, fun j x c h => by simp at h⟩
theorem cls_len (x : Cls) (v : Value) : (clsCells x v).length = 10 := rfl
theorem N_put {W : World} {base g n cap : Nat} {ok : Nat → Prop} {xs : List Cls} (h : Kd.N k76 76 W base ok (.slice (some ⟨g, 0, none⟩) n cap) xs) (i : Nat) (hi : i < xs.length) (hn : n = xs.length) {x : Cls} {v : Value}
  (hx : Kd.FK k76 W (fun k => ok k ∧ k ≠ g) x (clsCells x v)) :
  Kd.N k76 76 (W.setCells g (i * 10) (clsCells x v)) base ok (.slice (some ⟨g, 0, none⟩) n cap) (xs.set i x) ∧ W.grownBy (W.setCells g (i * 10) (clsCells x v)) (some g) := by
 obtain ⟨_, _, hc1, _, _, _, _⟩ := cls_elem h i hi hn
 obtain ⟨h1, g1⟩ := Kd.N_seg h (i : Int) (by omega) (by omega) (cls_len _ _) (by simp only [Int.toNat_natCast]; exact hc1) (seg := clsCells x v) (j := 0) (x' := x) (okp := fun k => ok k ∧ k ≠ g) (Nat.le_refl _) (by exact hx) (fun k hk => hk)
 simp only [Int.toNat_natCast, Nat.add_zero] at h1 g1
 exact ⟨h1, g1⟩
theorem cls_facts {W : World} {g o : Nat} {x : Cls} {v : Value} (h : ∀ j u, (clsCells x v)[j]? = some u → W.cell? ⟨g, o + j, none⟩ = some u) : W.cell? ⟨g, o, none⟩ = some (.string x.f0.f0) ∧ W.cell? ⟨g, o + 1, none⟩ = some (.string x.f0.f1) ∧ W.cell? ⟨g, o + 2, none⟩ = some (.string x.f0.f2) ∧ W.cell? ⟨g, o + 3, none⟩ = some (.int .u8 x.f0.f3) ∧
  W.cell? ⟨g, o + 4, none⟩ = some (.int .i64 x.f0.f4.f0) ∧ W.cell? ⟨g, o + 5, none⟩ = some (.int .i64 x.f0.f4.f1) ∧ W.cell? ⟨g, o + 6, none⟩ = some (.int .i64 x.f0.f4.f2) ∧ W.cell? ⟨g, o + 7, none⟩ = some (.int .i64 x.f0.f4.f3) ∧ W.cell? ⟨g, o + 8, none⟩ = some v ∧ W.cell? ⟨g, o + 9, none⟩ = some (.int .i64 x.f1) :=
 ⟨h 0 _ rfl, h 1 _ rfl, h 2 _ rfl, h 3 _ rfl, h 4 _ rfl, h 5 _ rfl, h 6 _ rfl, h 7 _ rfl, h 8 _ rfl, h 9 _ rfl⟩
def SRow (W wr : World) (M : Nat) (v : Value) (xs : List Cls) : Prop := Kd.N k76 76 wr W.heap.size (fun k => k < M) v xs ∧ Below W.heap.size W wr ∧ M ≤ wr.heap.size
theorem SRow.below {W wr w1 : World} {M : Nat} {v : Value} {xs : List Cls} (h : SRow W wr M v xs) (hb : Below wr.heap.size wr w1) : SRow W w1 M v xs :=
 ⟨Kd.N_below h.1 hb, h.2.1.trans (hb.mono h.2.1.size), Nat.le_trans h.2.2 hb.size⟩
def SRel1 (l : List Cls) (W : World) (M : Nat) (v : Value) (i : Int) (wr : World) : Prop := 1 ≤ i ∧ (i ≤ l.length ∨ i = 1) ∧ SRow W wr M v (sortC (l.take i.toNat) ++ l.drop i.toNat)
def SRel2 (l : List Cls) (W : World) (M : Nat) (v : Value) (i : Nat) (hi : i < l.length) (k : Int) (wr : World) : Prop :=
 0 ≤ k ∧ ∃ a b, sortC (l.take i) = a ++ b ∧ (a.length : Int) = k ∧ (∀ y ∈ b, lt l[i].f0.f0 y.f0.f0 = true) ∧ SRow W wr M v (a ++ l[i] :: (b ++ l.drop (i + 1)))
theorem sortC_take {l : List Cls} {i : Nat} (hi : i < l.length) : sortC (l.take (i + 1)) = insR l[i] (sortC (l.take i)) := by
 unfold sortC
 rw [List.take_succ_eq_append_getElem hi, List.foldl_append]
 rfl
theorem sortC_len (l : List Cls) : (sortC l).length = l.length := (sortC_perm l).length_eq
theorem srel2_exit {l : List Cls} {W : World} {M : Nat} {v : Value} {i : Nat} {hi : i < l.length} {k : Int} {wr : World} (h : SRel2 l W M v i hi k wr) (hex : ∀ a b y, sortC (l.take i) = a ++ b → (a.length : Int) = k → a.getLast? = some y → lt l[i].f0.f0 y.f0.f0 = false) (hi1 : 1 ≤ i) : SRel1 l W M v ((i : Int) + 1) wr := by
 obtain ⟨h0, a, b, h1, h2, h3, h4⟩ := h
 refine ⟨by omega, .inl (by omega), ?_⟩
 have e : ((i : Int) + 1).toNat = i + 1 := by omega
 rw [e, sortC_take hi, h1, insR_at _ _ _ h3 (fun y hy => hex a b y h1 h2 hy), List.append_assoc, List.cons_append]
 exact h4
theorem turn_row {a b : List Cls} {x y : Cls} {r : List Cls} (a' : List Cls) (ha : a = a' ++ [y]) : (((a ++ x :: (b ++ r)).set (a'.length + 1) y).set a'.length x) = a' ++ x :: ((y :: b) ++ r) := by
 subst ha
 have e1 : a' ++ [y] ++ x :: (b ++ r) = a' ++ (y :: x :: (b ++ r)) := by simp
 rw [e1, List.set_append, if_neg (by omega), show a'.length + 1 - a'.length = 1 from by omega]
 simp only [List.set_cons_succ, List.set_cons_zero]
 rw [List.set_append, if_neg (by omega), Nat.sub_self]
 simp
theorem outs_snoc {s : List Cls} {n : Nat} (hn : n < s.length) : (s.mapIdx (fun i x => outC s i x)).take (n + 1) = (s.mapIdx (fun i x => outC s i x)).take n ++ [outC s n s[n]] := by
 rw [List.take_succ_eq_append_getElem (by rw [List.length_mapIdx]; exact hn), List.getElem_mapIdx]
def SRel3 (s : List Cls) (W : World) (M : Nat) (v : Value) (i : Int) (o : Value) (wr : World) : Prop :=
 0 ≤ i ∧ i ≤ s.length ∧ SRow W wr M v s ∧ Kd.N k40 40 wr W.heap.size (fun k => M ≤ k ∧ k < wr.heap.size) o ((s.mapIdx (fun i x => outC s i x)).take i.toNat)
theorem first_here {s : List Cls} {n k : Nat} (hk : k ≤ n) (hn : n < s.length) {x : Cls} (h48 : x.f0.f3 = 48) (hm : (s[k]'(by omega)).f0.f3 = 48 ∧ (s[k]'(by omega)).f1 = x.f1) (hno : ∀ (j : Nat) (hj : j < k), ¬ ((s[j]'(by omega)).f0.f3 = 48 ∧ (s[j]'(by omega)).f1 = x.f1)) : leadC s n x = (s[k]'(by omega)).f0.f0 := by
 unfold leadC
 rw [if_pos h48]
 have hf : (s.take (n + 1)).find? (fun y => decide (y.f0.f3 = 48 ∧ y.f1 = x.f1)) = some (s[k]'(by omega)) := by
  rw [List.find?_eq_some_iff_getElem]
  refine ⟨decide_eq_true hm, k, by rw [List.length_take]; omega, by rw [List.getElem_take], fun j hj => ?_⟩
  rw [List.getElem_take, Bool.not_eq_true', decide_eq_false_iff_not]
  exact hno j hj
 rw [hf]
def SRel4 (s : List Cls) (n : Nat) (x : Cls) (k : Int) : Prop := 0 ≤ k ∧ ∀ (q : Nat), (q : Int) < k → ∀ (hq : q < s.length), ¬ (s[q].f0.f3 = 48 ∧ s[q].f1 = x.f1)
def boxCells (x : Cls) (ldr : ByteArray) (v : Value) : Array Value := #[.string x.f0.f0, .string x.f0.f1, .string ldr, .int .u8 x.f0.f3, .int .i64 x.f0.f4.f0, .int .i64 x.f0.f4.f1, .int .i64 x.f0.f4.f2, .int .i64 x.f0.f4.f3, v]
def SMid (s : List Cls) (W : World) (M : Nat) (v o : Value) (outs : List Node) (x : Cls) (A : Option Addr) (c b : Nat) (ldr : ByteArray) (wz : World) : Prop :=
 SRow W wz M v s ∧ Kd.N k40 40 wz W.heap.size (fun k => M ≤ k ∧ k < b) o outs ∧ wz.heap[b]? = some (.cells (boxCells x ldr (.slice A x.f0.f5.length c)) 40 (0, 0)) ∧ Kd.F (Kd.int .u8) wz (fun k => k < M) A x.f0.f5.length x.f0.f5 ∧ wz.heap.size = b + 1 ∧ M ≤ b
theorem fcell' {w : World} {p : Addr} {v : Value} (h : w.cell? p = some v) (o : Obj) : (w.alloc o).cell? p = some v := ((below_alloc (Below.refl _ _) o).cell (World.block_lt_of_cell? w _ h)).trans h
theorem box_facts {w : World} {b : Nat} {x : Cls} {ldr : ByteArray} {v : Value} (h : w.heap[b]? = some (.cells (boxCells x ldr v) 40 (0, 0))) :
  w.cell? ⟨b, 0, none⟩ = some (.string x.f0.f0) ∧ w.cell? ⟨b, 1, none⟩ = some (.string x.f0.f1) ∧ w.cell? ⟨b, 2, none⟩ = some (.string ldr) ∧ w.cell? ⟨b, 3, none⟩ = some (.int .u8 x.f0.f3) ∧ w.cell? ⟨b, 4, none⟩ = some (.int .i64 x.f0.f4.f0) ∧ w.cell? ⟨b, 5, none⟩ = some (.int .i64 x.f0.f4.f1) ∧
   w.cell? ⟨b, 6, none⟩ = some (.int .i64 x.f0.f4.f2) ∧ w.cell? ⟨b, 7, none⟩ = some (.int .i64 x.f0.f4.f3) ∧ w.cell? ⟨b, 8, none⟩ = some v := by
 refine ⟨?_, ?_, ?_, ?_, ?_, ?_, ?_, ?_, ?_⟩ <;> · unfold World.cell?; dsimp only; rw [h]; rfl
theorem box_soft {w : World} {b : Nat} {x : Cls} {ldr : ByteArray} {v : Value} (h : w.heap[b]? = some (.cells (boxCells x ldr v) 40 (0, 0))) (j : Nat) : w.frozen? ⟨b, j, none⟩ = false := by
 unfold World.frozen?
 dsimp only
 rw [h]
 rfl
theorem made_u8 (W : World) (base : Nat) (hb : base ≤ W.heap.size) : Kd.R (Kd.int .u8) 5 (W.alloc (.cells #[] 5)) base (fun k => W.heap.size ≤ k) (.slice (some ⟨W.heap.size, 0, none⟩) 0 0) [] :=
 ⟨fun k hk => by simp [Value.ownBlock] at hk; omega, [], World.ownsRow_made W #[] 0 hb (Nat.zero_le _) rfl, Reps.none _ _⟩
theorem cell_over (wz w5 : World) (o : Obj) {n c b : Nat} (hg : (wz.alloc o).grownBy w5 (Value.slice (some ⟨wz.heap.size, 0, none⟩) n c).ownBlock) (hb : b < wz.heap.size) (q : Nat) : w5.cell? ⟨b, q, none⟩ = wz.cell? ⟨b, q, none⟩ := by
 have h1 := hg.block b (by rw [World.size_alloc]; omega) (by simp [Value.ownBlock]; omega)
 have h2 : (wz.alloc o).heap[b]? = wz.heap[b]? := (below_alloc (Below.refl _ _) o).block b hb
 unfold World.cell?
 dsimp only
 rw [h1, h2]
theorem froz_over (wz w5 : World) (o : Obj) {n c b : Nat} (hg : (wz.alloc o).grownBy w5 (Value.slice (some ⟨wz.heap.size, 0, none⟩) n c).ownBlock) (hb : b < wz.heap.size) (q : Nat) : w5.frozen? ⟨b, q, none⟩ = wz.frozen? ⟨b, q, none⟩ := by
 have h1 := hg.block b (by rw [World.size_alloc]; omega) (by simp [Value.ownBlock]; omega)
 have h2 : (wz.alloc o).heap[b]? = wz.heap[b]? := (below_alloc (Below.refl _ _) o).block b hb
 unfold World.frozen?
 dsimp only
 rw [h1, h2]
theorem tail_mid {W wz w5 : World} {M b n c : Nat} {v o : Value} {ob : Obj} {s : List Cls} {outs : List Node} {A5 : Option Addr} {c5 : Nat} {body : List Int} (tS : SRow W wz M v s) (tO : Kd.N k40 40 wz W.heap.size (fun k => M ≤ k ∧ k < b) o outs) (hR : Kd.R (Kd.int .u8) 5 w5 W.heap.size (fun k => wz.heap.size ≤ k) (.slice A5 body.length c5) body)
  (hG : (wz.alloc ob).grownBy w5 (Value.slice (some ⟨wz.heap.size, 0, none⟩) n c).ownBlock) (hB : Below W.heap.size W w5) (hb : b < wz.heap.size) (tz : wz.heap.size = b + 1) (tM : M ≤ b) (u : Value) (hW : W.heap.size ≤ M) :
  SRow W (w5.setCell ⟨b, 8, none⟩ u) M v s ∧ Kd.N k40 40 (w5.setCell ⟨b, 8, none⟩ u) W.heap.size (fun k => M ≤ k) o outs ∧ Kd.F (Kd.int .u8) (w5.setCell ⟨b, 8, none⟩ u) (fun k => wz.heap.size ≤ k) A5 body.length body ∧ Below W.heap.size W (w5.setCell ⟨b, 8, none⟩ u) := by
 have hsz := hG.size
 rw [World.size_alloc] at hsz
 have hne : ∀ k, k < wz.heap.size → some k ≠ (Value.slice (some ⟨wz.heap.size, 0, none⟩) n c).ownBlock := fun k hk e => by
  have : k = wz.heap.size := by simpa [Value.ownBlock] using e
  omega
 have hB2 : Below W.heap.size W (w5.setCell ⟨b, 8, none⟩ u) := below_put hB _ _ (by omega) _
 refine ⟨⟨?_, hB2, ?_⟩, ?_, ?_, hB2⟩
 ·exact Kd.N_far (Kd.N_grown (Kd.N_alloc tS.1 ob) hG (fun k hk => hne k (by omega))) (p := ⟨b, 8, none⟩) (fun k hk e => by have e' : k = b := e; omega) u
 ·rw [World.size_setCell]; have := tS.2.2; omega
 ·exact Kd.N_mono (Kd.N_far (Kd.N_grown (Kd.N_alloc tO ob) hG (fun k hk => hne k (by omega))) (p := ⟨b, 8, none⟩) (fun k hk e => by have e' : k = b := e; omega) u) (fun k hk => hk.1)
 ·exact Kd.F_far (Kd.R_F hR) (p := ⟨b, 8, none⟩) (fun k hk e => by have e' : k = b := e; omega) u
theorem tail_row {W w1 w6 wz : World} {M b : Nat} {v o : Value} {s : List Cls} {outs : List Node} (mS : SRow W w1 M v s) (hg : w1.grownBy w6 o.ownBlock) (tO : Kd.N k40 40 wz W.heap.size (fun k => M ≤ k ∧ k < b) o outs) : SRow W w6 M v s :=
 ⟨Kd.N_grown mS.1 hg (fun k hk e => by have := (tO.1 k e.symm).1; omega), mS.2.1.grown hg mS.2.1.size (fun j hj => Kd.N_base tO j hj), by have := hg.size; have := mS.2.2; omega⟩
set_option maxRecDepth 100000 in
set_option maxHeartbeats 8000000 in
theorem Sorted_calls (A0 : Option Addr) (c0 : Nat) (l : List Cls) (W : World) (hC : Kd.C k76 W A0 l.length l) (hlen : l.length ≤ 1000000000000) (hz : ∀ x ∈ l, x.f0.f5.length ≤ 140737488351232) :
  Calls Tryd.prog 49 #[.slice A0 l.length c0] W fun e W' => ∃ v, e = .returned v ∧ Kd.N k40 40 W' W.heap.size (fun k => W.heap.size ≤ k) v (sortedF l) ∧ Below W.heap.size W W' := by
 have hF := Kd.C_F k76_heap hC
 have HF := Aside0.mk hF
 have HZ := Aside0.mk hz
 have hlI : (l.length : Int) ≤ 1000000000000 := by omega
 clear hC hz hF
 generalize hpost : (fun (e : Ending) (W' : World) => ∃ v, e = .returned v ∧ Kd.N k40 40 W' W.heap.size (fun k => W.heap.size ≤ k) v (sortedF l) ∧ Below W.heap.size W W') = Q
 have hQ := Aside0.mk hpost
 clear hpost
 go_enter Tryd.func49, Tryd.ntmps49
 go_wp2_with (at_builtin; refine Kd.N_append_rows k76 (w0 := W) W.heap.size rfl (.tmp 9) (.tmp 10) 74 76 _ 120 rfl Tryd.underlying74 infoCls rfl (by decide) (by decide) (.slice (some ⟨W.heap.size, 0, none⟩) 0 0) [] l A0 l.length c0 (fun _ => True) (fun k => k < W.heap.size) rfl rfl ?hO (Kd.F_alloc HF.out _) (fun k hk => ⟨trivial, fun e => by have e' : k = W.heap.size := (by simpa [Value.ownBlock] using e); omega⟩) (fun _ _ => trivial) (below_alloc (Below.refl _ _) _) (by simp) (by simp; omega) ?_; (case hO => exact Kd.N_mono (made_cls W W.heap.size) (fun _ _ => trivial)); intro v1 w1 hN1 hB1 hg1 hat1; rw [List.nil_append] at hN1; obtain ⟨A1, c1, rfl⟩ := Kd.N_slice hN1; have HN1 := Aside0.mk hN1; have HB1 := Aside0.mk hB1; clear hN1 hB1 hg1 hat1)
 have hrow : SRow W w1 w1.heap.size (.slice A1 l.length c1) l := ⟨Kd.N_mono (Kd.N_bound HN1.out) (fun k hk => hk.2), HB1.out, Nat.le_refl _⟩
 have hMW : W.heap.size ≤ w1.heap.size := HB1.out.size
 generalize hMe : w1.heap.size = M at hrow hMW
 have HROW := Aside0.mk hrow
 clear hrow HN1 HB1 hMe
 go_loopw [3] (fun i wr => ∃ n : Int, i = .int .i64 n ∧ Aside0 (SRel1 l W M (.slice A1 l.length c1) n wr)) (fun i _ => (l.length - (intOf i)).toNat)
 case atStart =>
  refine ⟨1, rfl, ⟨⟨by omega, .inr rfl, ?_⟩⟩⟩
  have e : sortC (l.take (1 : Int).toNat) ++ l.drop (1 : Int).toNat = l := by
   cases l with
   | nil => rfl
   | cons x l => rfl
  rw [e]
  exact HROW.out
 case round =>
  obtain ⟨n, rfl, HR⟩ := hrel
  have h0 := HR.out.1
  by_cases hlt : n < (l.length : Int)
  ·have c1b : decide (n < (l.length : Int)) = true := decide_eq_true hlt
   have hil : n.toNat < l.length := by omega
   have hstart : SRel2 l W M (.slice A1 l.length c1) n.toNat hil n wr := by
    refine ⟨by omega, sortC (l.take n.toNat), [], by rw [List.append_nil], ?_, fun y hy => (by cases hy), ?_⟩
    ·rw [sortC_len, List.length_take]; omega
    ·have := HR.out.2.2
     rw [List.drop_eq_getElem_cons hil] at this
     simpa using this
   have HST := Aside0.mk hstart
   have hnN : ((n.toNat : Nat) : Int) = n := by omega
   have HNN := Aside0.mk hnN
   clear hstart hnN
   go_wp2
   go_loopw [4] (fun i wr => ∃ k : Int, i = .int .i64 k ∧ Aside0 (SRel2 l W M (.slice A1 l.length c1) n.toNat hil k wr)) (fun i _ => (intOf i).toNat)
   case atStart => exact ⟨n, rfl, HST⟩
   case round =>
    obtain ⟨k, rfl, HR2⟩ := hrel
    have hk0 := HR2.out.1
    have HEX := Aside0.mk (fun (w2 : World) (hb : Below wr.heap.size wr w2) => (⟨hk0, by obtain ⟨a, b, h1, h2, h3, h4⟩ := HR2.out.2; exact ⟨a, b, h1, h2, h3, h4.below hb⟩⟩ : SRel2 l W M (.slice A1 l.length c1) n.toNat hil k w2))
    by_cases hkz : k = 0
    ·have g1 : decide (0 < k) = false := decide_eq_false (by omega)
     have g2 : decide (k > 0) = false := decide_eq_false (by omega)
     have HKZ := Aside0.mk hkz
     clear hkz
     go_upto_region 6 with (fail)
     go_quiet (fail)
     have hfin : SRel1 l W M (.slice A1 l.length c1) (n + 1) (wr.drewN nq) := by
      have h := srel2_exit (HEX.out _ (pw_below_drewN (Below.refl _ _) nq)) (fun a b y h1 h2 h3 => by
       have h4 := HKZ.out
       have : a = [] := List.eq_nil_of_length_eq_zero (by omega)
       rw [this] at h3
       cases h3) (by omega)
      rw [HNN.out] at h
      exact h
     have HF := Aside0.mk hfin
     clear hfin
     go_wp2
     go_roundw
     case rel => exact ⟨n + 1, by go_num, HF⟩
     case measure => simp [intOf]; omega
    ·have g1 : decide (0 < k) = true := decide_eq_true (by omega)
     have g2 : decide (k > 0) = true := decide_eq_true (by omega)
     obtain ⟨a, b, ha, hal, hbl, hS⟩ := HR2.out.2
     obtain ⟨a', y, haa⟩ : ∃ a' y, a = a' ++ [y] := by
      refine ⟨a.dropLast, a.getLast (fun e => by rw [e] at hal; simp at hal; omega), ?_⟩
      exact (List.dropLast_concat_getLast _).symm
     obtain ⟨j, hj⟩ : ∃ j, j = k - 1 := ⟨_, rfl⟩
     have hal' : a'.length = j.toNat := by rw [haa, List.length_append, List.length_singleton] at hal; omega
     have hxl := (Kd.N_reads' hS.1).1
     obtain ⟨g, cap, hv, hg0, hg1, _⟩ := Kd.N_form hS.1 (by omega)
     rw [← hxl] at hv
     cases hv
     have hkl : k < (l.length : Int) := by
      rw [List.length_append, List.length_cons, List.length_append, List.length_drop] at hxl
      omega
     have hjn : j.toNat + 1 = k.toNat := by omega
     have hjl : j < (l.length : Int) := by omega
     have hj0 : 0 ≤ j := by omega
     have hi1 : k.toNat < (a ++ l[n.toNat] :: (b ++ l.drop (n.toNat + 1))).length := by omega
     have hi2 : j.toNat < (a ++ l[n.toNat] :: (b ++ l.drop (n.toNat + 1))).length := by omega
     have hxe : (a ++ l[n.toNat] :: (b ++ l.drop (n.toNat + 1)))[k.toNat] = l[n.toNat] := by
      have hka : a.length = k.toNat := by omega
      simp [List.getElem_append, hka]
     have hye : (a ++ l[n.toNat] :: (b ++ l.drop (n.toNat + 1)))[j.toNat] = y := by
      subst haa
      simp [List.getElem_append, hal']
     obtain ⟨Ax, cx, fx, rx, lx, _, kx⟩ := cls_elem hS.1 k.toNat hi1 hxl
     obtain ⟨Ay, cy, fy, ry, ly, _, ky⟩ := cls_elem hS.1 j.toNat hi2 hxl
     rw [hxe] at fx lx kx
     rw [hye] at fy ly ky
     generalize hxs : a ++ l[n.toNat] :: (b ++ l.drop (n.toNat + 1)) = xs at hS hxl hi1 hi2 hxe hye
     generalize hx : l[n.toNat] = x at fx lx kx hbl hxe
     obtain ⟨x0, x1, x2, x3, x4, x5, x6, x7, x8, x9⟩ := cls_facts fx
     obtain ⟨y0, y1, y2, y3, y4, y5, y6, y7, y8, y9⟩ := cls_facts fy
     have rx0 := rx 0
     have ry0 := ry 0
     rw [Nat.add_zero] at rx0 ry0
     have HS := Aside0.mk hS
     have HXS := Aside0.mk hxs
     have HX := Aside0.mk hx
     have HHX := Aside0.mk hxe
     have HHY := Aside0.mk hye
     have HXL := Aside0.mk hxl
     have KX := Aside0.mk kx
     have KY := Aside0.mk ky
     have HA := Aside0.mk ha
     have HAA := Aside0.mk haa
     have HAL := Aside0.mk hal'
     have HBL := Aside0.mk hbl
     have HJN := Aside0.mk hjn
     have HJ := Aside0.mk hj
     have hw64 : wrap64 (k - 1) = j := by unfold wrap64; omega
     have hwi : IntKind.i64.wrap (k - 1) = j := by rw [IntKind.wrap_i64]; omega
     clear hS hxs hx hxe hye hxl kx ky ha haa hal hal' hbl hjn fx fy hkz
     cases hls : Op.bytesLess x.f0.f0.toList y.f0.f0.toList with
     | false =>
      clear hj
      go_upto_region 6 with (fail)
      go_quiet (fail)
      have hfin : SRel1 l W M (.slice (some ⟨g, 0, none⟩) l.length c1) (n + 1) (wr.drewN nq) := by
       have h := srel2_exit (HEX.out _ (pw_below_drewN (Below.refl _ _) nq)) (fun a2 b2 y2 h1 h2 h3 => by
        have e1 : a2 = a := by
         have h4 := HA.out
         rw [h1] at h4
         have hl2 : a2.length = a.length := by
          have := HAL.out; have := HJ.out
          rw [HAA.out, List.length_append, List.length_singleton]
          omega
         exact (List.append_inj h4 hl2).1
        rw [e1, HAA.out, List.getLast?_append] at h3
        simp at h3
        subst h3
        rw [HX.out]
        exact hls) (by omega)
       rw [HNN.out] at h
       exact h
      have HF := Aside0.mk hfin
      clear hfin hw64 hwi
      go_wp2
      go_roundw
      case rel => exact ⟨n + 1, by go_num, HF⟩
      case measure => simp [intOf]; omega
     | true =>
      clear hj
      go_upto_region 6 with (fail)
      go_quiet (fail)
      go_upto_region 8 with (fail)
      refine start_ (n := 18) (S := fun w' => w'.cell? ⟨g, j.toNat * 10, none⟩ = some (.string y.f0.f0) ∧ w'.cell? ⟨g, j.toNat * 10 + 1, none⟩ = some (.string y.f0.f1) ∧ w'.cell? ⟨g, j.toNat * 10 + 2, none⟩ = some (.string y.f0.f2) ∧ w'.cell? ⟨g, j.toNat * 10 + 3, none⟩ = some (.int .u8 y.f0.f3) ∧ w'.cell? ⟨g, j.toNat * 10 + 4, none⟩ = some (.int .i64 y.f0.f4.f0) ∧ w'.cell? ⟨g, j.toNat * 10 + 5, none⟩ = some (.int .i64 y.f0.f4.f1) ∧ w'.cell? ⟨g, j.toNat * 10 + 6, none⟩ = some (.int .i64 y.f0.f4.f2) ∧ w'.cell? ⟨g, j.toNat * 10 + 7, none⟩ = some (.int .i64 y.f0.f4.f3) ∧ w'.cell? ⟨g, j.toNat * 10 + 8, none⟩ = some (.slice Ay y.f0.f5.length cy) ∧ w'.cell? ⟨g, j.toNat * 10 + 9, none⟩ = some (.int .i64 y.f1) ∧ w'.cell? ⟨g, k.toNat * 10, none⟩ = some (.string x.f0.f0) ∧ w'.cell? ⟨g, k.toNat * 10 + 1, none⟩ = some (.string x.f0.f1) ∧ w'.cell? ⟨g, k.toNat * 10 + 2, none⟩ = some (.string x.f0.f2) ∧ w'.cell? ⟨g, k.toNat * 10 + 3, none⟩ = some (.int .u8 x.f0.f3) ∧ w'.cell? ⟨g, k.toNat * 10 + 4, none⟩ = some (.int .i64 x.f0.f4.f0) ∧ w'.cell? ⟨g, k.toNat * 10 + 5, none⟩ = some (.int .i64 x.f0.f4.f1) ∧ w'.cell? ⟨g, k.toNat * 10 + 6, none⟩ = some (.int .i64 x.f0.f4.f2) ∧ w'.cell? ⟨g, k.toNat * 10 + 7, none⟩ = some (.int .i64 x.f0.f4.f3) ∧ w'.cell? ⟨g, k.toNat * 10 + 8, none⟩ = some (.slice Ax x.f0.f5.length cx) ∧ w'.cell? ⟨g, k.toNat * 10 + 9, none⟩ = some (.int .i64 x.f1)) (ds := [15, 17]) #[false, false, false, false, false, false, false, false, false, false, false, false, false, false, false, false, false, false] (by kernel_rfl) rfl rfl ⟨by exact y0, by exact y1, by exact y2, by exact y3, by exact y4, by exact y5, by exact y6, by exact y7, by exact y8, by exact y9, by exact x0, by exact x1, by exact x2, by exact x3, by exact x4, by exact x5, by exact x6, by exact x7, by exact x8, by exact x9⟩ (fun hHeld => ?_)
      generalize hwq : World.drew _ = wq at hHeld ⊢
      have hq0 : Below wr.heap.size wr wq := by rw [← hwq]; exact below_drew (pw_below_drewN (Below.refl _ _) _)
      have hNq := HS.out.below hq0
      have put1 := N_put hNq.1 k.toNat (by omega) HXL.out (x := y) (v := .slice Ay y.f0.f5.length cy) (Kd.FK_below KY.out hq0)
      have rqx : ∀ q, wq.frozen? ⟨g, k.toNat * 10 + q, none⟩ = false := fun q => by rw [← hwq]; exact rx q
      have rqx0 : wq.frozen? ⟨g, k.toNat * 10, none⟩ = false := by rw [← hwq]; exact rx0
      have HNQ := Aside0.mk hNq
      have HQ0 := Aside0.mk hq0
      clear hNq hq0
      refine pure_ (i := 0) (N := some 39) (v := ?_) (a' := ?_) #[true, false, false, false, false, false, false, false, false, false, false, false, false, false, false, false, false, false] rfl rfl (by kernel_rfl) (fun _ _ _ h => h) (Or.inl ⟨by rfl, ?_⟩) ?_ ?_
      rotate_left
      ·intro w'
       go_simp
       with_reducible rfl
      rotate_left
      ·simp only [Act.put, List.setIfInBounds_toArray, List.set_cons_zero, List.set_cons_succ, i64_w, i32_w]
       rfl
      refine pure_ (i := 1) (N := some 40) (v := ?_) (a' := ?_) #[true, true, false, false, false, false, false, false, false, false, false, false, false, false, false, false, false, false] rfl rfl (by kernel_rfl) (fun _ _ _ h => h) (Or.inl ⟨by rfl, ?_⟩) ?_ ?_
      rotate_left
      ·intro w'
       go_simp
       with_reducible rfl
      rotate_left
      ·simp only [Act.put, List.setIfInBounds_toArray, List.set_cons_zero, List.set_cons_succ, i64_w, i32_w]
       rfl
      refine pure_ (i := 2) (N := some 41) (v := ?_) (a' := ?_) #[true, true, true, false, false, false, false, false, false, false, false, false, false, false, false, false, false, false] rfl rfl (by kernel_rfl) (fun _ _ _ h => h) (Or.inl ⟨by rfl, ?_⟩) ?_ ?_
      rotate_left
      ·intro w'
       go_simp
       with_reducible rfl
      rotate_left
      ·simp only [Act.put, List.setIfInBounds_toArray, List.set_cons_zero, List.set_cons_succ, i64_w, i32_w]
       rfl
      refine pure_ (i := 3) (N := some 42) (v := ?_) (a' := ?_) #[true, true, true, true, false, false, false, false, false, false, false, false, false, false, false, false, false, false] rfl rfl (by kernel_rfl) (fun _ _ _ h => h) (Or.inl ⟨by rfl, ?_⟩) ?_ ?_
      rotate_left
      ·intro w'
       go_simp
       with_reducible rfl
      rotate_left
      ·simp only [Act.put, List.setIfInBounds_toArray, List.set_cons_zero, List.set_cons_succ, i64_w, i32_w]
       rfl
      refine pure_ (i := 4) (N := some 43) (v := ?_) (a' := ?_) #[true, true, true, true, true, false, false, false, false, false, false, false, false, false, false, false, false, false] rfl rfl (by kernel_rfl) (fun _ _ _ h => h) (Or.inl ⟨by rfl, ?_⟩) ?_ ?_
      rotate_left
      ·intro w'
       go_simp
       with_reducible rfl
      rotate_left
      ·simp only [Act.put, List.setIfInBounds_toArray, List.set_cons_zero, List.set_cons_succ, i64_w, i32_w]
       rfl
      refine pure_ (i := 5) (N := some 44) (v := ?_) (a' := ?_) #[true, true, true, true, true, true, false, false, false, false, false, false, false, false, false, false, false, false] rfl rfl (by kernel_rfl) (fun _ _ _ h => h) (Or.inl ⟨by rfl, ?_⟩) ?_ ?_
      rotate_left
      ·intro w'
       go_simp
       with_reducible rfl
      rotate_left
      ·simp only [Act.put, List.setIfInBounds_toArray, List.set_cons_zero, List.set_cons_succ, i64_w, i32_w]
       rfl
      refine pure_ (i := 6) (N := some 45) (v := ?_) (a' := ?_) #[true, true, true, true, true, true, true, false, false, false, false, false, false, false, false, false, false, false] rfl rfl (by kernel_rfl) (fun _ _ _ h => h) (Or.inl ⟨by rfl, ?_⟩) ?_ ?_
      rotate_left
      ·intro w'
       go_simp
       with_reducible rfl
      rotate_left
      ·simp only [Act.put, List.setIfInBounds_toArray, List.set_cons_zero, List.set_cons_succ, i64_w, i32_w]
       rfl
      refine pure_ (i := 7) (N := some 46) (v := ?_) (a' := ?_) #[true, true, true, true, true, true, true, true, false, false, false, false, false, false, false, false, false, false] rfl rfl (by kernel_rfl) (fun _ _ _ h => h) (Or.inl ⟨by rfl, ?_⟩) ?_ ?_
      rotate_left
      ·intro w'
       go_simp
       with_reducible rfl
      rotate_left
      ·simp only [Act.put, List.setIfInBounds_toArray, List.set_cons_zero, List.set_cons_succ, i64_w, i32_w]
       rfl
      refine pure_ (i := 8) (N := some 47) (v := ?_) (a' := ?_) #[true, true, true, true, true, true, true, true, true, false, false, false, false, false, false, false, false, false] rfl rfl (by kernel_rfl) (fun _ _ _ h => h) (Or.inl ⟨by rfl, ?_⟩) ?_ ?_
      rotate_left
      ·intro w'
       go_simp
       with_reducible rfl
      rotate_left
      ·simp only [Act.put, List.setIfInBounds_toArray, List.set_cons_zero, List.set_cons_succ, i64_w, i32_w]
       rfl
      refine take_ (i := 9) (N := some 48) (v := ?_) (a' := ?_) #[true, true, true, true, true, true, true, true, true, true, false, false, false, false, false, false, false, false] rfl rfl (by kernel_rfl) (fun _ _ _ h => h) (Or.inl ⟨by rfl, ?_⟩) hHeld ?_ ?_
      rotate_left
      ·rintro w' ⟨s0, s1, s2, s3, s4, s5, s6, s7, s8, s9, s10, s11, s12, s13, s14, s15, s16, s17, s18, s19⟩
       go_simp
       with_reducible rfl
      rotate_left
      ·simp only [Act.put, List.setIfInBounds_toArray, List.set_cons_zero, List.set_cons_succ, i64_w, i32_w]
       rfl
      refine pure_ (i := 10) (N := some 49) (v := ?_) (a' := ?_) #[true, true, true, true, true, true, true, true, true, true, true, false, false, false, false, false, false, false] rfl rfl (by kernel_rfl) (fun _ _ _ h => h) (Or.inl ⟨by rfl, ?_⟩) ?_ ?_
      rotate_left
      ·intro w'
       go_simp
       with_reducible rfl
      rotate_left
      ·simp only [Act.put, List.setIfInBounds_toArray, List.set_cons_zero, List.set_cons_succ, i64_w, i32_w]
       rfl
      refine pure_ (i := 11) (N := some 50) (v := ?_) (a' := ?_) #[true, true, true, true, true, true, true, true, true, true, true, true, false, false, false, false, false, false] rfl rfl (by kernel_rfl) (fun _ _ _ h => h) (Or.inl ⟨by rfl, ?_⟩) ?_ ?_
      rotate_left
      ·intro w'
       go_simp
       with_reducible rfl
      rotate_left
      ·simp only [Act.put, List.setIfInBounds_toArray, List.set_cons_zero, List.set_cons_succ, i64_w, i32_w]
       rfl
      refine pure_ (i := 12) (N := some 51) (v := ?_) (a' := ?_) #[true, true, true, true, true, true, true, true, true, true, true, true, true, false, false, false, false, false] rfl rfl (by kernel_rfl) (fun _ _ _ h => h) (Or.inl ⟨by rfl, ?_⟩) ?_ ?_
      rotate_left
      ·intro w'
       go_simp
       with_reducible rfl
      rotate_left
      ·simp only [Act.put, List.setIfInBounds_toArray, List.set_cons_zero, List.set_cons_succ, i64_w, i32_w]
       rfl
      refine take_ (i := 13) (N := some 52) (v := ?_) (a' := ?_) #[true, true, true, true, true, true, true, true, true, true, true, true, true, true, false, false, false, false] rfl rfl (by kernel_rfl) (fun _ _ _ h => h) (Or.inl ⟨by rfl, ?_⟩) hHeld ?_ ?_
      rotate_left
      ·rintro w' ⟨s0, s1, s2, s3, s4, s5, s6, s7, s8, s9, s10, s11, s12, s13, s14, s15, s16, s17, s18, s19⟩
       go_simp
       with_reducible rfl
      rotate_left
      ·simp only [Act.put, List.setIfInBounds_toArray, List.set_cons_zero, List.set_cons_succ, i64_w, i32_w]
       rfl
      refine pure_ (i := 14) (N := some 53) (v := ?_) (a' := ?_) #[true, true, true, true, true, true, true, true, true, true, true, true, true, true, true, false, false, false] rfl rfl (by kernel_rfl) (fun _ _ _ h => h) (Or.inl ⟨by rfl, ?_⟩) ?_ ?_
      rotate_left
      ·intro w'
       go_simp
       with_reducible rfl
      rotate_left
      ·simp only [Act.put, List.setIfInBounds_toArray, List.set_cons_zero, List.set_cons_succ, i64_w, i32_w]
       rfl
      refine last_ (i := 15) (N := none) #[true, true, true, true, true, true, true, true, true, true, true, true, true, true, true, true, false, false] rfl rfl (by kernel_rfl) (by decide) (fun K hK => ?_)
      refine skip_ (w1 := wq.setCells g (k.toNat * 10) (clsCells y (.slice Ay y.f0.f5.length cy))) (by rfl) rfl ?_ ?_
      rotate_left
      ·refine hK.out _ _ ?_
       clear hK K
       obtain ⟨HP1, HG1⟩ := put1
       have hr2 := cls_elem HP1 j.toNat (by rw [List.length_set]; omega) (by rw [List.length_set]; exact HXL.out)
       obtain ⟨_, _, f2, r2, _, _, _⟩ := hr2
       generalize hw2 : wq.setCells g (k.toNat * 10) (clsCells y (.slice Ay y.f0.f5.length cy)) = w2 at HP1 HG1 r2 f2 ⊢
       obtain ⟨z0, z1, z2, z3, z4, z5, z6, z7, z8, z9⟩ := cls_facts f2
       have r20 := r2 0
       rw [Nat.add_zero] at r20
       have HP1 := Aside0.mk HP1
       have HG1 := Aside0.mk HG1
       clear hw2
       refine pure_ (i := 16) (N := some 54) (v := ?_) (a' := ?_) #[true, true, true, true, true, true, true, true, true, true, true, true, true, true, true, true, true, false] rfl rfl (by kernel_rfl) (fun _ _ _ h => h) (Or.inl ⟨by rfl, ?_⟩) ?_ ?_
       rotate_left
       ·intro w'
        go_simp
        with_reducible rfl
       rotate_left
       ·simp only [Act.put, List.setIfInBounds_toArray, List.set_cons_zero, List.set_cons_succ, i64_w, i32_w]
        rfl
       refine last_ (i := 17) (N := none) #[true, true, true, true, true, true, true, true, true, true, true, true, true, true, true, true, true, true] rfl rfl (by kernel_rfl) (by decide) (fun K hK => ?_)
       refine skip_ (w1 := w2.setCells g (j.toNat * 10) (clsCells x (.slice Ax x.f0.f5.length cx))) (by rfl) rfl ?_ ?_
       rotate_left
       ·refine hK.out _ _ ?_
        clear hK K
        refine done_ (by kernel_rfl) ?_
        have hput2 := N_put HP1.out j.toNat (by rw [List.length_set]; omega) (by rw [List.length_set]; exact HXL.out) (x := x) (v := .slice Ax x.f0.f5.length cx) (Kd.FK_grown (Kd.FK_below KX.out HQ0.out) HG1.out (fun q hq e => by cases e; exact hq.2 rfl))
        have hgs := HG1.out.size
        have hgs2 := hput2.2.size
        have hfin : SRel2 l W M (.slice (some ⟨g, 0, none⟩) l.length c1) n.toNat hil j (w2.setCells g (j.toNat * 10) (clsCells x (.slice Ax x.f0.f5.length cx))) := by
         refine ⟨hj0, a', y :: b, ?_, ?_, ?_, ?_, ?_, ?_⟩
         ·rw [HA.out, HAA.out]; simp
         ·have := HAL.out; omega
         ·intro z hz
          rw [HX.out]
          rcases List.mem_cons.1 hz with rfl | hz
          ·exact hls
          ·exact HBL.out z hz
         ·have e := turn_row (b := b) (x := x) (y := y) (r := l.drop (n.toNat + 1)) a' HAA.out
          have e2 := HXS.out
          rw [HX.out] at e2 ⊢
          rw [e2, HAL.out, HJN.out] at e
          rw [← e]
          exact hput2.1
         ·exact HNQ.out.2.1.grown (HG1.out.trans hput2.2) HNQ.out.2.1.size (fun q hq => by cases hq; exact hg0)
         ·have := HNQ.out.2.2
          omega
        have HF := Aside0.mk hfin
        clear hfin hput2 hwi hHeld
        generalize w2.setCells g (j.toNat * 10) (clsCells x (.slice Ax x.f0.f5.length cx)) = w3 at HF ⊢
        go_wp2
        go_roundw
        case rel => exact ⟨j, by rw [HJ.out], HF⟩
        case measure => simp [intOf]; have := HJN.out; omega
       ·go_simp
        rfl
      ·go_simp
       rfl
  ·have c1b : decide (n < (l.length : Int)) = false := decide_eq_false hlt
   have hdone : SRow W wr M (.slice A1 l.length c1) (sortC l) := by
    have h := HR.out.2.2
    rw [List.take_of_length_le (by have := HR.out.2.1; omega), List.drop_eq_nil_of_le (by have := HR.out.2.1; omega), List.append_nil] at h
    exact h
   have hsl := sortC_len l
   have hzs : ∀ x ∈ sortC l, x.f0.f5.length ≤ 140737488351232 := fun x hx => HZ.out x ((sortC_perm l).mem_iff.1 hx)
   have HZS := Aside0.mk hzs
   have HSO : Aside0 (sortedF l = (sortC l).mapIdx (fun i x => outC (sortC l) i x)) := ⟨rfl⟩
   generalize hse : sortC l = s at hdone hsl HZS HSO
   have HSL := Aside0.mk hsl
   have hstart : SRel3 s W M (.slice A1 l.length c1) 0 (.slice none 0 0) wr := ⟨by omega, by omega, hdone, Kd.N_nil _ _ _ _ _⟩
   have HST := Aside0.mk hstart
   clear hstart hdone hse hzs hsl
   go_wp2
   go_loopw [6, 5] (fun i o wr => ∃ n : Int, i = .int .i64 n ∧ Aside0 (SRel3 s W M (.slice A1 l.length c1) n o wr)) (fun i _ _ => (l.length - (intOf i)).toNat)
   case atStart => exact ⟨0, rfl, HST⟩
   case round =>
    obtain ⟨n, rfl, HR⟩ := hrel
    have h0 := HR.out.1
    have h1 := HR.out.2.1
    have hS := HR.out.2.2.1
    have hO := HR.out.2.2.2
    generalize houts : (s.mapIdx (fun i x => outC s i x)).take n.toNat = outs at hO
    obtain ⟨Ao, co, rfl⟩ := Kd.N_slice hO
    have hol : outs.length ≤ 1000000000000 := by rw [← houts, List.length_take, List.length_mapIdx]; have := HSL.out; omega
    have HOL := Aside0.mk hol
    have HOUTS := Aside0.mk houts
    have HO := Aside0.mk hO
    have HS := Aside0.mk hS
    clear hol houts hO hS
    by_cases hlt : n < (l.length : Int)
    ·have c1b : decide (n < (l.length : Int)) = true := decide_eq_true hlt
     have hnl : n.toNat < s.length := by have := HSL.out; omega
     obtain ⟨g, cap, hv, hg0, hg1, _⟩ := Kd.N_form HS.out.1 (by omega)
     rw [HSL.out] at hv
     cases hv
     have hgM : g < M := HS.out.1.1 g rfl
     obtain ⟨Ax, cx, fx, rx, lx, fF, _⟩ := cls_elem HS.out.1 n.toNat hnl HSL.out.symm
     have hxb : (s[n.toNat]).f0.f5.length ≤ 140737488351232 := HZS.out _ (List.getElem_mem _)
     have HXE : Aside0 (∀ (q : Nat) (hq : q < s.length), q = n.toNat → s[q] = s[n.toNat]) := ⟨fun q hq e => by subst e; rfl⟩
     generalize hx : s[n.toNat] = x at fx lx fF hxb HXE
     obtain ⟨x0, x1, x2, x3, x4, x5, x6, x7, x8, x9⟩ := cls_facts fx
     have HX := Aside0.mk hx
     have HF := Aside0.mk (Kd.F_mono fF (ok' := fun k => k < M) (fun k hk => hk.1))
     have HLX := Aside0.mk lx
     have hMw := HS.out.2.2
     have HXC := Aside0.mk fx
     clear fx rx lx fF hx
     have hmid : ∀ (q : Nat) (ldr : ByteArray) (wz : World), (wz = (wr.alloc (.cells (boxCells x emp (.slice Ax x.f0.f5.length cx)) 40)).drewN q ∧ ldr = emp ∨ wz = ((wr.alloc (.cells (boxCells x emp (.slice Ax x.f0.f5.length cx)) 40)).drewN q).setCell ⟨wr.heap.size, 2, none⟩ (.string ldr)) → SMid s W M (.slice (some ⟨g, 0, none⟩) l.length c1) (.slice Ao outs.length co) outs x Ax cx wr.heap.size ldr wz := by
      rintro q ldr wz (⟨rfl, rfl⟩ | rfl)
      ·have hb : Below wr.heap.size wr ((wr.alloc (.cells (boxCells x emp (.slice Ax x.f0.f5.length cx)) 40)).drewN q) := pw_below_drewN (below_alloc (Below.refl _ _) _) _
       exact ⟨HS.out.below hb, Kd.N_below HO.out hb, blk_new wr _, Kd.F_below HF.out hb, by show (wr.alloc _).heap.size = _; rw [World.size_alloc], hMw⟩
      ·have hb : Below wr.heap.size wr ((wr.alloc (.cells (boxCells x emp (.slice Ax x.f0.f5.length cx)) 40)).drewN q) := pw_below_drewN (below_alloc (Below.refl _ _) _) _
       have hb2 : Below wr.heap.size wr (((wr.alloc (.cells (boxCells x emp (.slice Ax x.f0.f5.length cx)) 40)).drewN q).setCell ⟨wr.heap.size, 2, none⟩ (.string ldr)) := below_put hb _ _ (Nat.le_refl _) _
       refine ⟨HS.out.below hb2, Kd.N_below HO.out hb2, blk_put (w := (wr.alloc (.cells (boxCells x emp (.slice Ax x.f0.f5.length cx)) 40)).drewN q) (blk_new wr _) 2 _ rfl, Kd.F_below HF.out hb2, ?_, hMw⟩
       rw [World.size_setCell]
       show (wr.alloc _).heap.size = _
       rw [World.size_alloc]
     have HMID := Aside0.mk hmid
     have hnn : (0 : Int) ≤ n := h0
     clear hmid
     by_cases h48 : x.f0.f3 = 48
     ·have e48 : (x.f0.f3 == 48) = true := beq_iff_eq.2 h48
      have H48 := Aside0.mk h48
      clear h48
      go_wp2
      go_loopw [8] (fun i w' => ∃ k : Int, i = .int .i64 k ∧ Aside0 (SRel4 s n.toNat x k ∧ k ≤ n ∧ ∃ q, w' = (wr.alloc (.cells (boxCells x emp (.slice Ax x.f0.f5.length cx)) 40)).drewN q)) (fun i _ => (n + 1 - (intOf i)).toNat)
      case atStart => exact ⟨0, rfl, ⟨⟨by omega, fun q hq hq2 => absurd hq (by omega)⟩, by omega, 0, rfl⟩⟩
      case round =>
       obtain ⟨k, rfl, HR4⟩ := hrel
       obtain ⟨hk0, hno⟩ := HR4.out.1
       have hkn := HR4.out.2.1
       obtain ⟨q4, hw4⟩ := HR4.out.2.2
       have HNO := Aside0.mk hno
       have ckn : decide (k ≤ n) = true := decide_eq_true hkn
       have hkl : k < (l.length : Int) := by omega
       have hks : k.toNat < s.length := by omega
       obtain ⟨Ak, ck, fk, _, _, _, _⟩ := cls_elem HS.out.1 k.toNat hks HSL.out.symm
       have hke : k.toNat = n.toNat → s[k.toNat] = x := fun e => HXE.out _ hks e
       generalize hyk : s[k.toNat] = y at fk hke
       obtain ⟨y0, _, _, y3, _, _, _, _, _, y9⟩ := cls_facts fk
       have HY := Aside0.mk hyk
       have HKE := Aside0.mk hke
       subst hw4
       have z0 : ((wr.alloc (.cells (boxCells x emp (.slice Ax x.f0.f5.length cx)) 40)).drewN q4).cell? ⟨g, k.toNat * 10, none⟩ = some (.string y.f0.f0) := fcell' y0 _
       have z3 : ((wr.alloc (.cells (boxCells x emp (.slice Ax x.f0.f5.length cx)) 40)).drewN q4).cell? ⟨g, k.toNat * 10 + 3, none⟩ = some (.int .u8 y.f0.f3) := fcell' y3 _
       have z9 : ((wr.alloc (.cells (boxCells x emp (.slice Ax x.f0.f5.length cx)) 40)).drewN q4).cell? ⟨g, k.toNat * 10 + 9, none⟩ = some (.int .i64 y.f1) := fcell' y9 _
       have z9n : ((wr.alloc (.cells (boxCells x emp (.slice Ax x.f0.f5.length cx)) 40)).drewN q4).cell? ⟨g, n.toNat * 10 + 9, none⟩ = some (.int .i64 x.f1) := fcell' x9 _
       obtain ⟨b0, b1, b2, b3, b4, b5, b6, b7, b8⟩ := box_facts (w := (wr.alloc (.cells (boxCells x emp (.slice Ax x.f0.f5.length cx)) 40)).drewN q4) (b := wr.heap.size) (blk_new wr (.cells (boxCells x emp (.slice Ax x.f0.f5.length cx)) 40))
       have bz : ((wr.alloc (.cells (boxCells x emp (.slice Ax x.f0.f5.length cx)) 40)).drewN q4).frozen? ⟨wr.heap.size, 2, none⟩ = false := box_soft (w := (wr.alloc (.cells (boxCells x emp (.slice Ax x.f0.f5.length cx)) 40)).drewN q4) (b := wr.heap.size) (blk_new wr (.cells (boxCells x emp (.slice Ax x.f0.f5.length cx)) 40)) 2
       clear fk hyk hke hno
       generalize hwv : (wr.alloc (.cells (boxCells x emp (.slice Ax x.f0.f5.length cx)) 40)).drewN q4 = wv at z0 z3 z9 z9n b0 b1 b2 b3 b4 b5 b6 b7 b8 bz ⊢
       have HWV := Aside0.mk hwv
       clear hwv
       by_cases hm : y.f0.f3 = 48 ∧ y.f1 = x.f1
       ·have m1 : (y.f0.f3 == 48) = true := beq_iff_eq.2 hm.1
        have m2 : (y.f1 == x.f1) = true := beq_iff_eq.2 hm.2
        have hlead : leadC s n.toNat x = y.f0.f0 := by
         rw [← HY.out]
         exact first_here (by omega) hnl H48.out (by rw [HY.out]; exact hm) (fun q hq h => HNO.out q (by omega) (by omega) h)
        have HLEAD := Aside0.mk hlead
        clear hm hlead
        go_upto_region 18 with (fail)
        go_quiet (fail)
        go_upto_region 20 with (fail)
        have hsm := HMID.out (q4 + nq) y.f0.f0 _ (.inr rfl)
        rw [show (wr.alloc (.cells (boxCells x emp (.slice Ax x.f0.f5.length cx)) 40)).drewN (q4 + nq) = (wv.drewN nq) from by rw [← HWV.out, World.drewN_drewN]] at hsm
        have HSM := Aside0.mk hsm
        have HLD : Aside0 (leadC s n.toNat x = y.f0.f0) := HLEAD
        generalize hwz : (wv.drewN nq).setCell ⟨wr.heap.size, 2, none⟩ (.string y.f0.f0) = wz at HSM ⊢
        generalize hld : y.f0.f0 = ldr at HSM HLD
        clear hsm hwz hld b0 b1 b2 b3 b4 b5 b6 b7 b8 bz z0 z3 z9 z9n y0 y3 y9
        obtain ⟨tS, tO, tB, tF, tz, tM⟩ := HSM.out
        obtain ⟨b0, b1, b2, b3, b4, b5, b6, b7, b8⟩ := box_facts tB
        have bz := box_soft tB 8
        have tC := Kd.F_now tF
        have tbne : ∀ k : Nat, wr.heap.size ≠ wz.heap.size + k := fun k => by omega
        have TS := Aside0.mk tS
        have TO := Aside0.mk tO
        have TB := Aside0.mk tB
        have TC := Aside0.mk tC
        have TF := Aside0.mk tF
        have hwb : wr.heap.size < wz.heap.size := by omega
        have hwW : W.heap.size ≤ wz.heap.size := tS.2.1.size
        have TZ := Aside0.mk tz
        clear tS tO tB tC tF tz tbne
        go_wp2_with (first
         | (at_builtin; refine Kd.R_append_rows (Kd.int .u8) (w0 := W) W.heap.size rfl (.tmp 104) (.tmp 106) 23 5 (.int .u8 0) 1 rfl Tryd.underlying23 info5 rfl (by decide) (by decide) (.slice (some ⟨wz.heap.size, 0, none⟩) 0 0) [] x.f0.f5 Ax x.f0.f5.length cx (fun k => wz.heap.size ≤ k) (fun _ => False) rfl rfl (made_u8 wz _ hwW) (Kd.C_alloc TC.out _) (fun _ _ h => h) (fun _ h => h.elim) (fun k hk => by rw [World.size_alloc] at hk; omega) (below_alloc TS.out.2.1 _) (by rw [World.size_alloc]; omega) (by simp; omega) ?_; intro v5 w5 hR5 hB5 hg5 hat5; rw [List.nil_append] at hR5; obtain ⟨A5, c5, rfl, hl5, _⟩ := Kd.R_reads hR5; have hc5 : ∀ q, w5.cell? ⟨wr.heap.size, q, none⟩ = wz.cell? ⟨wr.heap.size, q, none⟩ := (fun q => cell_over wz w5 _ hg5 hwb q); have hf5 : ∀ q, w5.frozen? ⟨wr.heap.size, q, none⟩ = wz.frozen? ⟨wr.heap.size, q, none⟩ := (fun q => froz_over wz w5 _ hg5 hwb q); have hz5 := hg5.size; rw [World.size_alloc] at hz5; have HR5 := Aside0.mk hR5; have HB5 := Aside0.mk hB5; have HG5 := Aside0.mk hg5; have HL5 := Aside0.mk hl5; clear hR5 hB5 hg5 hat5 hl5)
         | (at_builtin; obtain ⟨mS, mO, mF, mB⟩ := tail_mid TS.out TO.out HR5.out HG5.out HB5.out hwb TZ.out tM (.slice A5 x.f0.f5.length c5) hMW; refine Kd.N_append k40 (w0 := W) W.heap.size rfl (.tmp 109) (.tmp 111) 22 40 (.agg #[(.string ⟨#[]⟩), (.string ⟨#[]⟩), (.string ⟨#[]⟩), (.int .u8 0), (.int .i64 0), (.int .i64 0), (.int .i64 0), (.int .i64 0), (.slice none 0 0)]) 112 rfl Tryd.underlying22 info40 rfl (by decide) (by decide) (.slice Ao outs.length co) outs (⟨x.f0.f0, x.f0.f1, ldr, x.f0.f3, x.f0.f4, x.f0.f5⟩ : Node) [.string x.f0.f0, .string x.f0.f1, .string ldr, .int .u8 x.f0.f3, .int .i64 x.f0.f4.f0, .int .i64 x.f0.f4.f1, .int .i64 x.f0.f4.f2, .int .i64 x.f0.f4.f3, .slice A5 x.f0.f5.length c5] (fun k => M ≤ k) (fun k => wz.heap.size ≤ k) rfl (by rw [World.size_setCell]; rfl) (k40_mkF _ _ _ HL5.out mF) (fun k hk => ⟨by omega, fun e => by have := TO.out.1 k e.symm; omega⟩) (fun k hk => by rw [World.size_setCell] at hk; omega) mO mB (by rw [World.size_setCell]; omega) (by have := HOL.out; omega) ?_; intro v6 w6 hN6 hB6 hg6 hat6; have hz6 := hg6.size; rw [World.size_setCell] at hz6; have hS6 := tail_row mS hg6 TO.out; have HN6 := Aside0.mk hN6; have HB6 := Aside0.mk hB6; have HS6 := Aside0.mk hS6; clear hN6 hB6 hg6 hat6 mS mO mF mB hS6))
        have hfin : SRel3 s W M (.slice (some ⟨g, 0, none⟩) l.length c1) (n + 1) v6 w6 := by
         refine ⟨by omega, by have := HSL.out; omega, HS6.out, ?_⟩
         have e1 : (n + 1).toNat = n.toNat + 1 := by omega
         have e2 : outC s n.toNat (s[n.toNat]'hnl) = (⟨x.f0.f0, x.f0.f1, ldr, x.f0.f3, x.f0.f4, x.f0.f5⟩ : Node) := by
          rw [HX.out]
          unfold outC
          rw [HLD.out]
         rw [e1, outs_snoc hnl, HOUTS.out, e2]
         exact Kd.N_bound HN6.out
        have HFIN := Aside0.mk hfin
        clear hfin HN6 HB6 HS6
        go_roundw
        case rel => exact ⟨n + 1, by go_num, HFIN⟩
        case measure => simp [intOf]; omega
       ·have HNM := Aside0.mk hm
        have hlt2 : k < n := by
         rcases Int.lt_or_eq_of_le hkn with h | h
         ·exact h
         ·exfalso
          have e := HKE.out (by omega)
          apply hm
          rw [e]
          exact ⟨H48.out, rfl⟩
        have hfin : SRel4 s n.toNat x (k + 1) := by
         refine ⟨by omega, fun q hq hq2 => ?_⟩
         rcases Nat.lt_or_ge q k.toNat with h | h
         ·exact HNO.out q (by omega) hq2
         ·obtain rfl : q = k.toNat := by omega
          rw [HY.out]
          exact HNM.out
        have HF4 := Aside0.mk hfin
        have hpick : (y.f0.f3 == 48) = true ∧ (y.f1 == x.f1) = false ∨ (y.f0.f3 == 48) = false := by
         by_cases h1 : y.f0.f3 = 48
         ·exact .inl ⟨beq_iff_eq.2 h1, beq_eq_false_iff_ne.2 (fun h2 => hm ⟨h1, h2⟩)⟩
         ·exact .inr (beq_eq_false_iff_ne.2 h1)
        clear hm hfin
        rcases hpick with ⟨m1, m2⟩ | m1
        all_goals
         go_upto_region 18 with (fail)
         go_quiet (fail)
         go_wp2
         go_roundw
         case rel => exact ⟨k + 1, by go_num, ⟨HF4.out, by omega, q4 + nq, by rw [← HWV.out, World.drewN_drewN]⟩⟩
         case measure => simp [intOf]; omega
     ·have e48 : (x.f0.f3 == 48) = false := beq_eq_false_iff_ne.2 h48
      have H48 := Aside0.mk h48
      clear h48
      go_wp2
      go_loopw [8] (fun i w' => i = .int .i64 0 ∧ Aside0 (w' = wr.alloc (.cells (boxCells x emp (.slice Ax x.f0.f5.length cx)) 40))) (fun _ _ => 0)
      case atStart => exact ⟨rfl, ⟨rfl⟩⟩
      case round =>
       obtain ⟨rfl, HW4⟩ := hrel
       have hw4 := HW4.out
       subst hw4
       have ckn : decide (0 ≤ n) = true := decide_eq_true h0
       obtain ⟨d0, d1, d2, d3, d4, d5, d6, d7, d8⟩ := box_facts (w := wr.alloc (.cells (boxCells x emp (.slice Ax x.f0.f5.length cx)) 40)) (b := wr.heap.size) (blk_new wr (.cells (boxCells x emp (.slice Ax x.f0.f5.length cx)) 40))
       go_upto_region 20 with (fail)
       clear d0 d1 d2 d3 d4 d5 d6 d7 d8
       have hsm := HMID.out 0 emp (wr.alloc (.cells (boxCells x emp (.slice Ax x.f0.f5.length cx)) 40)) (.inl ⟨rfl, rfl⟩)
       have HSM := Aside0.mk hsm
       have HLD : Aside0 (leadC s n.toNat x = emp) := ⟨by unfold leadC; rw [if_neg H48.out]⟩
       generalize hwz : wr.alloc (.cells (boxCells x emp (.slice Ax x.f0.f5.length cx)) 40) = wz at HSM ⊢
       generalize hld : emp = ldr at HSM HLD
       clear hsm hwz hld
       obtain ⟨tS, tO, tB, tF, tz, tM⟩ := HSM.out
       obtain ⟨b0, b1, b2, b3, b4, b5, b6, b7, b8⟩ := box_facts tB
       have bz := box_soft tB 8
       have tC := Kd.F_now tF
       have tbne : ∀ k : Nat, wr.heap.size ≠ wz.heap.size + k := fun k => by omega
       have TS := Aside0.mk tS
       have TO := Aside0.mk tO
       have TB := Aside0.mk tB
       have TC := Aside0.mk tC
       have TF := Aside0.mk tF
       have hwb : wr.heap.size < wz.heap.size := by omega
       have hwW : W.heap.size ≤ wz.heap.size := tS.2.1.size
       have TZ := Aside0.mk tz
       clear tS tO tB tC tF tz tbne
       go_wp2_with (first
        | (at_builtin; refine Kd.R_append_rows (Kd.int .u8) (w0 := W) W.heap.size rfl (.tmp 104) (.tmp 106) 23 5 (.int .u8 0) 1 rfl Tryd.underlying23 info5 rfl (by decide) (by decide) (.slice (some ⟨wz.heap.size, 0, none⟩) 0 0) [] x.f0.f5 Ax x.f0.f5.length cx (fun k => wz.heap.size ≤ k) (fun _ => False) rfl rfl (made_u8 wz _ hwW) (Kd.C_alloc TC.out _) (fun _ _ h => h) (fun _ h => h.elim) (fun k hk => by rw [World.size_alloc] at hk; omega) (below_alloc TS.out.2.1 _) (by rw [World.size_alloc]; omega) (by simp; omega) ?_; intro v5 w5 hR5 hB5 hg5 hat5; rw [List.nil_append] at hR5; obtain ⟨A5, c5, rfl, hl5, _⟩ := Kd.R_reads hR5; have hc5 : ∀ q, w5.cell? ⟨wr.heap.size, q, none⟩ = wz.cell? ⟨wr.heap.size, q, none⟩ := (fun q => cell_over wz w5 _ hg5 hwb q); have hf5 : ∀ q, w5.frozen? ⟨wr.heap.size, q, none⟩ = wz.frozen? ⟨wr.heap.size, q, none⟩ := (fun q => froz_over wz w5 _ hg5 hwb q); have hz5 := hg5.size; rw [World.size_alloc] at hz5; have HR5 := Aside0.mk hR5; have HB5 := Aside0.mk hB5; have HG5 := Aside0.mk hg5; have HL5 := Aside0.mk hl5; clear hR5 hB5 hg5 hat5 hl5)
        | (at_builtin; obtain ⟨mS, mO, mF, mB⟩ := tail_mid TS.out TO.out HR5.out HG5.out HB5.out hwb TZ.out tM (.slice A5 x.f0.f5.length c5) hMW; refine Kd.N_append k40 (w0 := W) W.heap.size rfl (.tmp 109) (.tmp 111) 22 40 (.agg #[(.string ⟨#[]⟩), (.string ⟨#[]⟩), (.string ⟨#[]⟩), (.int .u8 0), (.int .i64 0), (.int .i64 0), (.int .i64 0), (.int .i64 0), (.slice none 0 0)]) 112 rfl Tryd.underlying22 info40 rfl (by decide) (by decide) (.slice Ao outs.length co) outs (⟨x.f0.f0, x.f0.f1, ldr, x.f0.f3, x.f0.f4, x.f0.f5⟩ : Node) [.string x.f0.f0, .string x.f0.f1, .string ldr, .int .u8 x.f0.f3, .int .i64 x.f0.f4.f0, .int .i64 x.f0.f4.f1, .int .i64 x.f0.f4.f2, .int .i64 x.f0.f4.f3, .slice A5 x.f0.f5.length c5] (fun k => M ≤ k) (fun k => wz.heap.size ≤ k) rfl (by rw [World.size_setCell]; rfl) (k40_mkF _ _ _ HL5.out mF) (fun k hk => ⟨by omega, fun e => by have := TO.out.1 k e.symm; omega⟩) (fun k hk => by rw [World.size_setCell] at hk; omega) mO mB (by rw [World.size_setCell]; omega) (by have := HOL.out; omega) ?_; intro v6 w6 hN6 hB6 hg6 hat6; have hz6 := hg6.size; rw [World.size_setCell] at hz6; have hS6 := tail_row mS hg6 TO.out; have HN6 := Aside0.mk hN6; have HB6 := Aside0.mk hB6; have HS6 := Aside0.mk hS6; clear hN6 hB6 hg6 hat6 mS mO mF mB hS6))
       have hfin : SRel3 s W M (.slice (some ⟨g, 0, none⟩) l.length c1) (n + 1) v6 w6 := by
        refine ⟨by omega, by have := HSL.out; omega, HS6.out, ?_⟩
        have e1 : (n + 1).toNat = n.toNat + 1 := by omega
        have e2 : outC s n.toNat (s[n.toNat]'hnl) = (⟨x.f0.f0, x.f0.f1, ldr, x.f0.f3, x.f0.f4, x.f0.f5⟩ : Node) := by
         rw [HX.out]
         unfold outC
         rw [HLD.out]
        rw [e1, outs_snoc hnl, HOUTS.out, e2]
        exact Kd.N_bound HN6.out
       have HFIN := Aside0.mk hfin
       clear hfin HN6 HB6 HS6
       go_roundw
       case rel => exact ⟨n + 1, by go_num, HFIN⟩
       case measure => simp [intOf]; omega
    ·have c1b : decide (n < (l.length : Int)) = false := decide_eq_false hlt
     go_wp2
     rw [← hQ.out]
     refine ⟨_, rfl, ?_, HS.out.2.1⟩
     have e : outs = sortedF l := by rw [HSO.out, ← HOUTS.out, List.take_of_length_le (by rw [List.length_mapIdx]; have := HSL.out; omega)]
     rw [← e]
     exact Kd.N_mono HO.out (fun k hk => by have := hk.1; have := HS.out.2.2; omega)
end Go.Proofs.YtfljbidecljlcaaDoor

namespace Go.Proofs.YtfljbidecljlcaaDoor
open Go.RowKit Go.Maps Go.Proofs.YtfljbidecljlcaaDoor.Print Go.Proofs.YtfljbidecljlcaaDoorW.PrintWords Go.Proofs.YtfljbidecljlcaaDoorW.PrintLast Go.Proofs.YtfljbidecljlcaaDoorW.PrintMore
set_option linter.unusedVariables false
set_option linter.unusedSimpArgs false
theorem gkeep {w w1 : World} {p : Addr} {v : Value} (hb : Below w.heap.size w w1) (h : w.cell? p = some v) : w1.cell? p = some v := (hb.cell (World.block_lt_of_cell? w _ h)).trans h
theorem blk_lt2 {w : World} {b : Nat} {o : Obj} (h : w.heap[b]? = some o) : b < w.heap.size := (Array.getElem?_eq_some_iff.1 h).1
def FltB (W wr : World) : Prop := wr.heap[W.heap.size]? = some (.cells #[.int .i64 0, .int .i64 0] 49 (0, 0))
theorem FltB.facts {W wr : World} (h : FltB W wr) : wr.cell? ⟨W.heap.size, 0, none⟩ = some (.int .i64 0) ∧ wr.cell? ⟨W.heap.size, 1, none⟩ = some (.int .i64 0) ∧ wr.frozen? ⟨W.heap.size, 0, none⟩ = false ∧ wr.frozen? ⟨W.heap.size, 1, none⟩ = false ∧ W.heap.size < wr.heap.size := by
 unfold FltB at h
 refine ⟨?_, ?_, ?_, ?_, blk_lt2 h⟩
 ·unfold World.cell?; dsimp only; rw [h]; rfl
 ·unfold World.cell?; dsimp only; rw [h]; rfl
 ·unfold World.frozen?; dsimp only; rw [h]; rfl
 ·unfold World.frozen?; dsimp only; rw [h]; rfl
theorem FltB.below {W wr w1 : World} (h : FltB W wr) (hb : Below wr.heap.size wr w1) : FltB W w1 := (hb.block _ (blk_lt2 h)).trans h
def FR1 (l : List Mem) (W : World) (i : Int) (wr : World) : Prop := 0 ≤ i ∧ i ≤ l.length ∧ (∀ (j : Nat) (hj : j < l.length), (j : Int) < i → goodM l[j] = true) ∧ Below W.heap.size W wr ∧ FltB W wr
def FR2 (l : List Mem) (W : World) (i : Int) (v : Value) (wr : World) : Prop :=
 0 ≤ i ∧ i ≤ l.length ∧ (∃ s, stepsF l i.toNat = some s ∧ FInv l i.toNat s ∧ Kd.N k76 76 wr W.heap.size (fun _ => True) v (s.map (clsOf l))) ∧ Below W.heap.size W wr ∧ FltB W wr
def FR3 (xs : List Cls) (p : ByteArray) (wz : World) (k : Int) (v : Value) (wr : World) : Prop :=
 0 ≤ k ∧ k ≤ xs.length ∧ Below wz.heap.size wz wr ∧ Kd.N k76 76 wr wz.heap.size (fun _ => True) v ((xs.take k.toNat).filter (fun x => !decide (x.f0.f0.toList = p.toList)))
def RPost (l : List Mem) (W : World) (e : Ending) (W' : World) : Prop := ∃ v, e = .returned (.tuple #[v, .agg #[.int .i64 (foldF l).2.1, .int .i64 (foldF l).2.2]]) ∧ Kd.V k40 40 W' W.heap.size (fun k => W.heap.size ≤ k) v (foldF l).1 ∧ Below W.heap.size W W'
theorem find_bad {l : List Mem} {j : Nat} (hj : j < l.length) (h : ∀ (k : Nat) (hk : k < l.length), k < j → goodM l[k] = true) (hb : goodM l[j] = false) : l.findIdx? (fun m => !goodM m) = some j :=
 List.findIdx?_eq_some_iff_getElem.2 ⟨hj, by rw [hb]; rfl, fun k hk => by rw [h k (by omega) hk]; simp⟩
theorem find_ok {l : List Mem} (h : ∀ (k : Nat) (hk : k < l.length), goodM l[k] = true) : l.findIdx? (fun m => !goodM m) = none :=
 List.findIdx?_eq_none_iff.2 (fun x hx => by obtain ⟨i, hi, rfl⟩ := List.getElem_of_mem hx; rw [h i hi]; rfl)
theorem good_path {m : Mem} (h : goodM m = true) : m.f0.toList ≠ [] := by
 intro e
 have h1 := (goodM_clean h).1
 unfold cleanOk at h1
 simp only [Bool.and_eq_true, decide_eq_true_iff] at h1
 obtain ⟨h2, h3⟩ := h1
 rw [e] at h3
 unfold cleanF at h2 h3
 split at h2
 ·cases h2
 ·rename_i c1
  rw [if_neg c1] at h3
  split at h2
  ·cases h2
  ·rename_i c2
   rw [if_neg c2] at h3
   split at h2
   ·cases h2
   ·rename_i c3
    rw [if_neg c3] at h3
    split at h2
    ·cases h2
    ·rename_i c4
     rw [if_neg c4] at h3
     apply c4
     rw [← h3]
     rfl
def memArr (x : Mem) (A : Option Addr) (c : Nat) : Array Value := #[.string x.f0, .string x.f1, .int .u8 x.f2, .int .i64 x.f3.f0, .int .i64 x.f3.f1, .int .i64 x.f3.f2, .int .i64 x.f3.f3, .slice A x.f4.length c]
def RMid (x : Mem) (A : Option Addr) (c : Nat) (wr wz : World) (y : Cls) (Ay : Option Addr) (cy : Nat) : Prop :=
 Below (wr.heap.size + 1) (wr.alloc (.cells (memArr x A c) 45)) wz ∧ wz.heap[wr.heap.size + 1]? = some (.cells (clsCells y (.slice Ay y.f0.f5.length cy)).toArray 76 (0, 0)) ∧ wz.heap.size = wr.heap.size + 2 ∧ y.f0.f5.length ≤ cy ∧ Kd.F (Kd.int .u8) wr (fun k => k < wr.heap.size) Ay y.f0.f5.length y.f0.f5
theorem RMid.below {x : Mem} {A : Option Addr} {c : Nat} {wr wz : World} {y : Cls} {Ay : Option Addr} {cy : Nat} (h : RMid x A c wr wz y Ay cy) : Below wr.heap.size wr wz := (below_alloc (Below.refl _ _) _).trans (h.1.mono (by omega))
theorem RMid.facts {x : Mem} {A : Option Addr} {c : Nat} {wr wz : World} {y : Cls} {Ay : Option Addr} {cy : Nat} (h : RMid x A c wr wz y Ay cy) : wz.cell? ⟨wr.heap.size, 0, none⟩ = some (.string x.f0) ∧ (∀ j u, (clsCells y (.slice Ay y.f0.f5.length cy))[j]? = some u → wz.cell? ⟨wr.heap.size + 1, j, none⟩ = some u) := by
 constructor
 ·have h1 := (h.1.block wr.heap.size (Nat.lt_succ_self _)).trans (blk_new wr _)
  unfold World.cell?
  dsimp only
  rw [h1]
  rfl
 ·intro j u hu
  unfold World.cell?
  dsimp only
  rw [h.2.1]
  simpa using hu
theorem names_next {l : List Mem} {s : PS} {p : ByteArray} {c : Nat} : ((s.map (clsOf l)).filter (fun x => !decide (x.f0.f0.toList = p.toList))) ++ [clsOf l (p, c)] = (putP s p c).map (clsOf l) := by
 rw [without_map]
 unfold putP
 rw [List.map_append]
 rfl
theorem drawn2 {w w1 : World} {o1 o2 : Obj} (hd : Drawn0 ((w.alloc o1).alloc o2) w1) : Below w.heap.size w w1 := by
 obtain ⟨n, rfl⟩ := hd.out
 exact pw_below_drewN (below_alloc (below_alloc (Below.refl _ _) _) _) _
def MidC (x : Mem) (A : Option Addr) (c : Nat) (wr w1 : World) (y : Cls) (v : Value) : Prop := Below (wr.heap.size + 1) (wr.alloc (.cells (memArr x A c) 45)) w1 ∧ w1.heap[wr.heap.size + 1]? = some (.cells (clsCells y v).toArray 76 (0, 0)) ∧ w1.heap.size = wr.heap.size + 2
theorem mid_call {x : Mem} {A : Option Addr} {c : Nat} {wr w1 : World} {y : Cls} {v : Value} (hd : Drawn0 ((wr.alloc (.cells (memArr x A c) 45)).alloc (.cells (clsCells y v).toArray 76)) w1) : MidC x A c wr w1 y v := by
 obtain ⟨n, rfl⟩ := hd.out
 have h0 := World.size_alloc wr (.cells (memArr x A c) 45)
 have h1 := World.size_alloc (wr.alloc (.cells (memArr x A c) 45)) (.cells (clsCells y v).toArray 76)
 have hb := pw_below_drewN (B := wr.heap.size + 2) (Below.refl _ ((wr.alloc (.cells (memArr x A c) 45)).alloc (.cells (clsCells y v).toArray 76))) n
 refine ⟨pw_below_drewN ((show Below (wr.heap.size + 1) (wr.alloc (.cells (memArr x A c) 45)) (wr.alloc (.cells (memArr x A c) 45)) from Below.refl _ _).alloc (by omega) _) _, ?_, ?_⟩
 ·refine (hb.block _ (by omega)).trans ?_
  have h2 := blk_new (wr.alloc (.cells (memArr x A c) 45)) (.cells (clsCells y v).toArray 76)
  rw [h0] at h2
  exact h2
 ·simp
theorem cls_box {w : World} {b : Nat} {y : Cls} {v : Value} (h : w.heap[b]? = some (.cells (clsCells y v).toArray 76 (0, 0))) : ∀ j u, (clsCells y v)[j]? = some u → w.cell? ⟨b, 0 + j, none⟩ = some u := by
 intro j u hu
 unfold World.cell?
 dsimp only
 rw [h, Nat.zero_add]
 simpa using hu
theorem mid_facts {x : Mem} {A : Option Addr} {c : Nat} {wr w1 : World} {y : Cls} {v : Value} (h : MidC x A c wr w1 y v) : w1.cell? ⟨wr.heap.size, 0, none⟩ = some (.string x.f0) ∧ w1.cell? ⟨wr.heap.size + 1, 0, none⟩ = some (.string y.f0.f0) ∧ w1.cell? ⟨wr.heap.size + 1, 1, none⟩ = some (.string y.f0.f1) ∧ w1.cell? ⟨wr.heap.size + 1, 2, none⟩ = some (.string y.f0.f2) ∧ w1.cell? ⟨wr.heap.size + 1, 3, none⟩ = some (.int .u8 y.f0.f3) ∧
  w1.cell? ⟨wr.heap.size + 1, 4, none⟩ = some (.int .i64 y.f0.f4.f0) ∧ w1.cell? ⟨wr.heap.size + 1, 5, none⟩ = some (.int .i64 y.f0.f4.f1) ∧ w1.cell? ⟨wr.heap.size + 1, 6, none⟩ = some (.int .i64 y.f0.f4.f2) ∧ w1.cell? ⟨wr.heap.size + 1, 7, none⟩ = some (.int .i64 y.f0.f4.f3) ∧ w1.cell? ⟨wr.heap.size + 1, 8, none⟩ = some v ∧ w1.cell? ⟨wr.heap.size + 1, 9, none⟩ = some (.int .i64 y.f1) ∧
  (∀ j, w1.frozen? ⟨wr.heap.size + 1, j, none⟩ = false) ∧ w1.frozen? ⟨wr.heap.size + 1, 0, none⟩ = false := by
 obtain ⟨z0, z1, z2, z3, z4, z5, z6, z7, z8, z9⟩ := cls_facts (cls_box h.2.1)
 have hs : ∀ j, w1.frozen? ⟨wr.heap.size + 1, j, none⟩ = false := by
  intro j
  unfold World.frozen?
  dsimp only
  rw [h.2.1]
  rfl
 refine ⟨?_, z0, z1, z2, z3, z4, z5, z6, z7, z8, z9, hs, hs 0⟩
 have h1 := (h.1.block wr.heap.size (Nat.lt_succ_self _)).trans (blk_new wr _)
 unfold World.cell?
 dsimp only
 rw [h1]
 rfl
theorem cls_chain {w : World} {b : Nat} {y q : Cls} {v u : Value} (p : ByteArray) (h : w.heap[b]? = some (.cells (clsCells y v).toArray 76 (0, 0))) :
  (((((((((((w.setCell ⟨b, 0, none⟩ (.string q.f0.f0)).setCell ⟨b, 1, none⟩ (.string q.f0.f1)).setCell ⟨b, 2, none⟩ (.string q.f0.f2)).setCell ⟨b, 3, none⟩ (.int .u8 q.f0.f3)).setCell ⟨b, 4, none⟩ (.int .i64 q.f0.f4.f0)).setCell ⟨b, 5, none⟩ (.int .i64 q.f0.f4.f1)).setCell ⟨b, 6, none⟩ (.int .i64 q.f0.f4.f2)).setCell ⟨b, 7, none⟩ (.int .i64 q.f0.f4.f3)).setCell ⟨b, 8, none⟩ (u)).setCell ⟨b, 9, none⟩ (.int .i64 q.f1)).setCell ⟨b, 0, none⟩ (.string p)).heap[b]? = some (.cells #[.string p, .string q.f0.f1, .string q.f0.f2, .int .u8 q.f0.f3, .int .i64 q.f0.f4.f0, .int .i64 q.f0.f4.f1, .int .i64 q.f0.f4.f2, .int .i64 q.f0.f4.f3, u, .int .i64 q.f1] 76 (0, 0)) := by
 have h : w.heap[b]? = some (.cells #[.string y.f0.f0, .string y.f0.f1, .string y.f0.f2, .int .u8 y.f0.f3, .int .i64 y.f0.f4.f0, .int .i64 y.f0.f4.f1, .int .i64 y.f0.f4.f2, .int .i64 y.f0.f4.f3, v, .int .i64 y.f1] 76 (0, 0)) := h
 have h := blk_put (cs' := #[.string q.f0.f0, .string y.f0.f1, .string y.f0.f2, .int .u8 y.f0.f3, .int .i64 y.f0.f4.f0, .int .i64 y.f0.f4.f1, .int .i64 y.f0.f4.f2, .int .i64 y.f0.f4.f3, v, .int .i64 y.f1]) h 0 (.string q.f0.f0) rfl
 have h := blk_put (cs' := #[.string q.f0.f0, .string q.f0.f1, .string y.f0.f2, .int .u8 y.f0.f3, .int .i64 y.f0.f4.f0, .int .i64 y.f0.f4.f1, .int .i64 y.f0.f4.f2, .int .i64 y.f0.f4.f3, v, .int .i64 y.f1]) h 1 (.string q.f0.f1) rfl
 have h := blk_put (cs' := #[.string q.f0.f0, .string q.f0.f1, .string q.f0.f2, .int .u8 y.f0.f3, .int .i64 y.f0.f4.f0, .int .i64 y.f0.f4.f1, .int .i64 y.f0.f4.f2, .int .i64 y.f0.f4.f3, v, .int .i64 y.f1]) h 2 (.string q.f0.f2) rfl
 have h := blk_put (cs' := #[.string q.f0.f0, .string q.f0.f1, .string q.f0.f2, .int .u8 q.f0.f3, .int .i64 y.f0.f4.f0, .int .i64 y.f0.f4.f1, .int .i64 y.f0.f4.f2, .int .i64 y.f0.f4.f3, v, .int .i64 y.f1]) h 3 (.int .u8 q.f0.f3) rfl
 have h := blk_put (cs' := #[.string q.f0.f0, .string q.f0.f1, .string q.f0.f2, .int .u8 q.f0.f3, .int .i64 q.f0.f4.f0, .int .i64 y.f0.f4.f1, .int .i64 y.f0.f4.f2, .int .i64 y.f0.f4.f3, v, .int .i64 y.f1]) h 4 (.int .i64 q.f0.f4.f0) rfl
 have h := blk_put (cs' := #[.string q.f0.f0, .string q.f0.f1, .string q.f0.f2, .int .u8 q.f0.f3, .int .i64 q.f0.f4.f0, .int .i64 q.f0.f4.f1, .int .i64 y.f0.f4.f2, .int .i64 y.f0.f4.f3, v, .int .i64 y.f1]) h 5 (.int .i64 q.f0.f4.f1) rfl
 have h := blk_put (cs' := #[.string q.f0.f0, .string q.f0.f1, .string q.f0.f2, .int .u8 q.f0.f3, .int .i64 q.f0.f4.f0, .int .i64 q.f0.f4.f1, .int .i64 q.f0.f4.f2, .int .i64 y.f0.f4.f3, v, .int .i64 y.f1]) h 6 (.int .i64 q.f0.f4.f2) rfl
 have h := blk_put (cs' := #[.string q.f0.f0, .string q.f0.f1, .string q.f0.f2, .int .u8 q.f0.f3, .int .i64 q.f0.f4.f0, .int .i64 q.f0.f4.f1, .int .i64 q.f0.f4.f2, .int .i64 q.f0.f4.f3, v, .int .i64 y.f1]) h 7 (.int .i64 q.f0.f4.f3) rfl
 have h := blk_put (cs' := #[.string q.f0.f0, .string q.f0.f1, .string q.f0.f2, .int .u8 q.f0.f3, .int .i64 q.f0.f4.f0, .int .i64 q.f0.f4.f1, .int .i64 q.f0.f4.f2, .int .i64 q.f0.f4.f3, u, .int .i64 y.f1]) h 8 (u) rfl
 have h := blk_put (cs' := #[.string q.f0.f0, .string q.f0.f1, .string q.f0.f2, .int .u8 q.f0.f3, .int .i64 q.f0.f4.f0, .int .i64 q.f0.f4.f1, .int .i64 q.f0.f4.f2, .int .i64 q.f0.f4.f3, u, .int .i64 q.f1]) h 9 (.int .i64 q.f1) rfl
 exact blk_put (cs' := #[.string p, .string q.f0.f1, .string q.f0.f2, .int .u8 q.f0.f3, .int .i64 q.f0.f4.f0, .int .i64 q.f0.f4.f1, .int .i64 q.f0.f4.f2, .int .i64 q.f0.f4.f3, u, .int .i64 q.f1]) h 0 (.string p) rfl
theorem take_filter {xs : List Cls} (f : Cls → Bool) {k : Nat} (h : k < xs.length) : (xs.take (k + 1)).filter f = (xs.take k).filter f ++ (if f xs[k] then [xs[k]] else []) := by
 rw [List.take_succ_eq_append_getElem h, List.filter_append, List.filter_cons, List.filter_nil]
theorem flt_grown {W w1 w2 : World} {row : Option Nat} (h : FltB W w1) (hg : w1.grownBy w2 row) (hne : some W.heap.size ≠ row) : FltB W w2 := (hg.block _ (blk_lt2 h) hne).trans h
set_option maxRecDepth 100000 in
set_option maxHeartbeats 8000000 in
theorem RFold_calls (A0 : Option Addr) (c0 : Nat) (l : List Mem) (W : World) (hC : Kd.C k45 W A0 l.length l) (hz : MemsZ l) :
  Calls Tryd.prog 29 #[.slice A0 l.length c0] W (RPost l W) := by
 have HC := Aside0.mk hC
 have HZ := Aside0.mk hz
 have hlen : (l.length : Int) ≤ 1000000000000 := by have := hz.1; omega
 clear hC hz
 generalize hpost : RPost l W = Q
 have hQ := Aside0.mk hpost
 clear hpost
 go_enter Tryd.func29, Tryd.ntmps29
 go_wp2
 go_loopw [4] (fun i wr => ∃ n : Int, i = .int .i64 n ∧ Aside0 (FR1 l W n wr)) (fun i _ => (l.length - (intOf i)).toNat)
 case atStart => exact ⟨0, rfl, ⟨⟨by omega, by omega, fun j hj h => absurd h (by omega), below_alloc (Below.refl _ _) _, blk_new W _⟩⟩⟩
 case round =>
  obtain ⟨n, rfl, HR⟩ := hrel
  have h0 := HR.out.1
  have h1 := HR.out.2.1
  have HB := Aside0.mk HR.out.2.2.2.1
  have HFB := Aside0.mk HR.out.2.2.2.2
  obtain ⟨f0, f1, f2, f3, f4⟩ := HR.out.2.2.2.2.facts
  by_cases hlt : n < (l.length : Int)
  ·have c1b : decide (n < (l.length : Int)) = true := decide_eq_true hlt
   have hnl : n.toNat < l.length := by omega
   obtain ⟨ad, A7, c7, rfl, x0, x1, x2, x3, x4, x5, x6, x7, hl7, hC7⟩ := at_T45 (Kd.C_below HC.out HB.out) n h0 hlt
   have hx := rdM_at l n h0 hlt
   have hxz : MemZ (rd_T45 l n) := by rw [hx]; exact HZ.out.2 _ (List.getElem_mem _)
   generalize rd_T45 l n = x at hx hxz x0 x1 x2 x3 x4 x5 x6 x7 hl7 hC7
   obtain ⟨kg, hkg⟩ := Ev.rounds (refGood_eq x hxz.r)
   cases hgd : goodM x with
   | true =>
    rw [hgd] at hkg
    have HX := Aside0.mk hx
    have HGD := Aside0.mk hgd
    have HKG := Aside0.mk hkg
    have HC7 := Aside0.mk hC7
    have HNL := Aside0.mk hnl
    clear hx hxz hC7 hkg hgd hnl
    go_wp2_with (go_at_call 34; refine (bindleref08_Good.calls kg x.f0 x.f1 x.f2 x.f3.f0 x.f3.f1 x.f3.f2 x.f3.f3 A7 c7 x.f4 true wr HC7.out hl7 HKG.out).mono ?_; rintro e w1 ⟨rfl, hb1⟩)
    have hfin : FR1 l W (n + 1) w1 := by
     refine ⟨by omega, by omega, fun j hj hjn => ?_, HB.out.trans (hb1.mono HB.out.size), HFB.out.below hb1⟩
     rcases Nat.lt_or_ge j n.toNat with h | h
     ·exact HR.out.2.2.1 j hj (by omega)
     ·obtain rfl : j = n.toNat := by omega
      rw [← HX.out]; exact HGD.out
    have HF := Aside0.mk hfin
    clear hfin hb1
    go_roundw
    case rel => exact ⟨n + 1, by go_num, HF⟩
    case measure => simp [intOf]; omega
   | false =>
    rw [hgd] at hkg
    have HX := Aside0.mk hx
    have HGD := Aside0.mk hgd
    have HKG := Aside0.mk hkg
    have HC7 := Aside0.mk hC7
    have HNL := Aside0.mk hnl
    clear hx hxz hC7 hkg hgd hnl
    go_wp2_with (go_at_call 34; refine (bindleref08_Good.calls kg x.f0 x.f1 x.f2 x.f3.f0 x.f3.f1 x.f3.f2 x.f3.f3 A7 c7 x.f4 false wr HC7.out hl7 HKG.out).mono ?_; rintro e w1 ⟨rfl, hb1⟩; obtain ⟨hc1, hf1⟩ := bcell hb1; have HB1 := Aside0.mk hb1; clear hb1)
    have hst := foldF_bad (find_bad HNL.out (fun k hk hkn => HR.out.2.2.1 k hk (by omega)) (by rw [← HX.out]; exact HGD.out))
    rw [Int.toNat_of_nonneg h0] at hst
    refine bodyPost_ret (v := .tuple #[.slice none 0 0, .agg #[.int .i64 1, .int .i64 n]]) (by simp [results, Tryd.results29, go_sem, hc1, hf1, f0, f1, f4]) rfl ?_
    rw [← hQ.out]
    refine ⟨.slice none 0 0, by rw [hst], by rw [hst]; exact Kd.V_nil _ _ _ _ _, ?_⟩
    repeat (with_reducible refine below_put ?_ _ _ (Nat.le_refl _) _)
    exact HB.out.trans (HB1.out.mono HB.out.size)
  ·have c1b : decide (n < (l.length : Int)) = false := decide_eq_false hlt
   have hok := find_ok (l := l) (fun k hk => HR.out.2.2.1 k hk (by omega))
   have HOK := Aside0.mk hok
   have hstart : FR2 l W 0 (.slice none 0 0) wr := ⟨by omega, by omega, ⟨[], rfl, FInv.start l, Kd.N_nil _ _ _ _ _⟩, HB.out, HFB.out⟩
   have HST := Aside0.mk hstart
   clear hstart hok f0 f1 f2 f3 f4
   go_wp2
   clear hlt c1b
   go_loopw [6, 5] (fun i o wr => ∃ n : Int, i = .int .i64 n ∧ Aside0 (FR2 l W n o wr)) (fun i _ _ => (l.length - (intOf i)).toNat)
   case atStart => exact ⟨0, rfl, HST⟩
   case round =>
    obtain ⟨n, rfl, HR⟩ := hrel
    have h0 := HR.out.1
    have h1 := HR.out.2.1
    obtain ⟨s, hs, hI, hN⟩ := HR.out.2.2.1
    have HB := Aside0.mk HR.out.2.2.2.1
    have HFB := Aside0.mk HR.out.2.2.2.2
    obtain ⟨f0, f1, f2, f3, f4⟩ := HR.out.2.2.2.2.facts
    have hsl : s.length ≤ 1000000000000 := by have := hI.len; omega
    generalize hxs : s.map (clsOf l) = xs at hN
    have hxl : xs.length = s.length := by rw [← hxs, List.length_map]
    obtain ⟨Al, cl, rfl⟩ := Kd.N_slice hN
    have hxI : (xs.length : Int) ≤ 1000000000000 := by omega
    have HS := Aside0.mk hs
    have HI := Aside0.mk hI
    have HXS := Aside0.mk hxs
    have HXL := Aside0.mk hxl
    have HNN := Aside0.mk (Kd.N_mono (Kd.N_bound hN) (ok' := fun k => k < wr.heap.size) (fun k hk => hk.2))
    clear hs hI hxs hxl hN hsl
    by_cases hlt : n < (l.length : Int)
    ·have c1b : decide (n < (l.length : Int)) = true := decide_eq_true hlt
     have hnl : n.toNat < l.length := by omega
     obtain ⟨ad, A7, c7, rfl, x0, x1, x2, x3, x4, x5, x6, x7, hl7, hC7⟩ := at_T45 (Kd.C_below HC.out HB.out) n h0 hlt
     have hx := rdM_at l n h0 hlt
     have hxz : MemZ (rd_T45 l n) := by rw [hx]; exact HZ.out.2 _ (List.getElem_mem _)
     have hxg : goodM (rd_T45 l n) = true := by rw [hx]; exact all_good HOK.out (List.getElem_mem _)
     have hst := stepF_eq l s n.toNat hnl
     have hgd : l.getD n.toNat zM = l[n.toNat] := by rw [List.getD_eq_getElem?_getD, List.getElem?_eq_getElem hnl]; rfl
     rw [← hx] at hst hgd
     have HLX : Aside0 (l[n.toNat]? = some (rd_T45 l n)) := ⟨by rw [hx]; exact List.getElem?_eq_getElem hnl⟩
     generalize rd_T45 l n = x at hx hxz hxg x0 x1 x2 x3 x4 x5 x6 x7 hl7 hC7 hst hgd HLX
     have HXZ := Aside0.mk hxz
     have HXG := Aside0.mk hxg
     have HSTEP := Aside0.mk hst
     have HGD := Aside0.mk hgd
     have HC7 := Aside0.mk hC7
     have HNL := Aside0.mk hnl
     have HL7 : Aside0 (x.f4.length ≤ c7) := ⟨hl7⟩
     clear hx hxz hxg hst hgd hC7 hnl hl7
     by_cases h49 : x.f2 = 49
     ·have e49 : (x.f2 == 49) = true := beq_iff_eq.2 h49
      have H49 := Aside0.mk h49
      clear h49
      have hat : (atD s x.f1.data.toList = none ∧ idxC xs x.f1 = -1) ∨ ∃ (i : Nat) (hi : i < s.length), idxC xs x.f1 = (i : Int) ∧ atD s x.f1.data.toList = some (s[i]'hi).2 := by
       rw [← HXS.out]
       exact idx_at HI.out.nodup x.f1
      obtain ⟨kg, hkg⟩ := Ev.rounds (at_eq xs x.f1 (by omega))
      generalize idxC xs x.f1 = j at hkg hat
      have HKG := Aside0.mk hkg
      have hCX := Kd.N_reads' HNN.out
      have HCX : Aside0 (∀ o1 o2, Kd.C k76 ((wr.alloc o1).alloc o2) Al xs.length xs) := ⟨fun o1 o2 => Kd.C_alloc (Kd.C_alloc hCX.2.2 o1) o2⟩
      have HCL := Aside0.mk hCX.2.1
      clear hkg hCX
      rcases hat with ⟨hno, rfl⟩ | ⟨i, hi, rfl, hso⟩
      ·have hst := HSTEP.out
       rw [if_pos H49.out, hno] at hst
       have hst2 := foldF_stop HOK.out HNL.out HS.out hst
       rw [Int.toNat_of_nonneg h0] at hst2
       have HST2 := Aside0.mk hst2
       clear hno hst hst2
       go_wp2_with (go_at_call 48; refine (bindleref08_at.calls kg Al cl xs x.f1 (-1) _ (HCX.out _ _) HCL.out HKG.out).mono ?_; rintro e w1 ⟨rfl, hd⟩; have hb1 : Below wr.heap.size wr w1 := drawn2 hd; have HB1 := Aside0.mk hb1; obtain ⟨g0, g1, g2, g3, g4⟩ := (HFB.out.below hb1).facts; clear hb1 hd)
       refine bodyPost_ret (v := .tuple #[.slice none 0 0, .agg #[.int .i64 7, .int .i64 n]]) (by simp [results, Tryd.results29, go_sem, g0, g1, g4]) rfl ?_
       rw [← hQ.out]
       refine ⟨.slice none 0 0, by rw [HST2.out], by rw [HST2.out]; exact Kd.V_nil _ _ _ _ _, ?_⟩
       repeat (with_reducible refine below_put ?_ _ _ (Nat.le_refl _) _)
       exact HB.out.trans (HB1.out.mono HB.out.size)
      ·obtain ⟨m, hlm, _⟩ := (HI.out.cls _ (List.getElem_mem hi)).2
       have hxl2 := HXL.out
       have hix : i < xs.length := by omega
       have hgc : xs[i] = clsOf l s[i] := by
        have h := HXS.out
        subst h
        rw [List.getElem_map]
       have hf3 : xs[i].f0.f3 = m.f2 := by
        rw [hgc]
        unfold clsOf
        dsimp only
        rw [List.getD_eq_getElem?_getD, hlm]
        rfl
       have hst := HSTEP.out
       rw [if_pos H49.out, hso] at hst
       dsimp only at hst
       rw [hlm] at hst
       dsimp only at hst
       obtain ⟨g, cap, he, _, _, _⟩ := Kd.N_form HNN.out (by omega)
       cases he
       have hbig : (i : Int) ≤ 1000000000000 := by omega
       have hi0 : (0 : Int) ≤ (i : Int) := Int.natCast_nonneg i
       have hiL : (i : Int) < (xs.length : Int) := by omega
       have hin : decide ((i : Int) < 0) = false := decide_eq_false (by omega)
       have hCE := cls_elem HNN.out i hix rfl
       generalize xs[i] = q at hCE hgc hf3
       have HGC := Aside0.mk hgc
       obtain ⟨Aq, cq, hq2, _, hqc, hqF, _⟩ := hCE
       have HQ2 := Aside0.mk hq2
       have HQC := Aside0.mk hqc
       have HQF := Aside0.mk (Kd.F_mono hqF (fun k hk => hk.1))
       clear hq2 hqc hqF
       clear hso hgc hlm hix hxl2
       by_cases h48 : m.f2 = 48
       ·have e48 : (q.f0.f3 == 48) = true := by rw [hf3]; exact beq_iff_eq.2 h48
        have e48b : (q.f0.f3 != 48) = false := by rw [bne, e48]; rfl
        rw [if_pos h48] at hst
        have HS2 := Aside0.mk hst
        clear hst hf3 h48
        go_wp2_with (go_at_call 48; refine (bindleref08_at.calls kg (some ⟨g, 0, none⟩) cl xs x.f1 (i : Int) _ (HCX.out _ _) HCL.out HKG.out).mono ?_; rintro e w1 ⟨rfl, hd⟩; have hb1 : Below wr.heap.size wr w1 := drawn2 hd; have hmc := mid_call (x := x) (A := A7) (c := c7) (y := ⟨⟨x.f0, x.f1, emp, x.f2, x.f3, x.f4⟩, n⟩) hd; obtain ⟨q0, q1, q2, q3, q4, q5, q6, q7, q8, q9⟩ := cls_facts (fun j u h => gkeep hb1 (HQ2.out j u h)); obtain ⟨m0, n0, n1, n2, n3, n4, n5, n6, n7, n8, n9, soft, soft0⟩ := mid_facts hmc; have HMC := Aside0.mk hmc; clear hb1 hd hmc)
        generalize hwz : World.setCell _ ⟨wr.heap.size + 1, 0, none⟩ (.string x.f0) = wz
        obtain ⟨cc, hcc⟩ : ∃ cc, cc = (s[i]'hi).2 := ⟨_, rfl⟩
        obtain ⟨y, hy⟩ : ∃ y, y = clsOf l (x.f0, cc) := ⟨_, rfl⟩
        have hmid : RMid x A7 c7 wr wz y Aq cq := by
         have hq := HGC.out
         have h5 : y.f0.f5 = q.f0.f5 := by rw [hq, hy, hcc]; rfl
         refine ⟨?_, ?_, ?_, by rw [h5]; exact HQC.out, by rw [h5]; exact HQF.out⟩
         ·rw [← hwz]
          repeat (with_reducible refine below_put ?_ _ _ (Nat.le_refl _) _)
          exact HMC.out.1
         ·rw [← hwz]
          refine (cls_chain x.f0 HMC.out.2.1).trans ?_
          have h5' := h5
          rw [hq, hy, hcc]
          rfl
         ·rw [← hwz]
          simp only [World.size_setCell]
          exact HMC.out.2.2
        have hs2 : stepF l s n.toNat = some (putP s x.f0 cc) := by rw [hcc]; exact HS2.out
        clear HS2
        have HS2 := Aside0.mk hs2
        have HYE := Aside0.mk hy
        obtain ⟨Ay, cy, HMID⟩ : ∃ Ay cy, Aside0 (RMid x A7 c7 wr wz y Ay cy) := ⟨_, _, ⟨hmid⟩⟩
        clear hmid hwz hy hcc hs2 q0 q1 q2 q3 q4 q5 q6 q7 q8 q9 m0 n0 n1 n2 n3 n4 n5 n6 n7 n8 n9 soft soft0 HQ2 HQC HQF HGC e48 e48b HMC
        try go_wp2
        obtain ⟨w0, rfl⟩ : ∃ w0, w0 = wr := ⟨_, rfl⟩
        have HMZ : Aside0 (wz.heap.size = w0.heap.size + 2) := ⟨HMID.out.2.2.1⟩
        go_loopw [11, 10] (fun i o wr => ∃ k : Int, i = .int .i64 k ∧ Aside0 (FR3 xs x.f0 wz k o wr)) (fun i _ _ => (xs.length - (intOf i)).toNat)
        case atStart => exact ⟨0, rfl, ⟨⟨by omega, by omega, Below.refl _ _, Kd.N_nil _ _ _ _ _⟩⟩⟩
        case round =>
         obtain ⟨k, rfl, HR3⟩ := hrel
         have k0 := HR3.out.1
         have k1 := HR3.out.2.1
         have HB3 := Aside0.mk HR3.out.2.2.1
         have hN3 := HR3.out.2.2.2
         generalize hys : List.filter _ (List.take k.toNat xs) = ys at hN3
         have hyl : ys.length ≤ xs.length := by
          rw [← hys]
          exact Nat.le_trans (List.length_filter_le _ _) (by rw [List.length_take]; omega)
         obtain ⟨Ao, co, rfl⟩ := Kd.N_slice hN3
         have HOB := Aside0.mk (Kd.N_base hN3)
         have HO := Aside0.mk hN3
         have HYS := Aside0.mk hys
         have HYL := Aside0.mk hyl
         have HWW : Aside0 (Below w0.heap.size w0 wr) := ⟨HMID.out.below.trans (HB3.out.mono HMID.out.below.size)⟩
         clear hN3 hys hyl
         by_cases hlt3 : k < (xs.length : Int)
         ·have c2b : decide (k < (xs.length : Int)) = true := decide_eq_true hlt3
          have hkl : k.toNat < xs.length := by omega
          obtain ⟨g, cap, he, _, _, _⟩ := Kd.N_form HNN.out (by omega)
          cases he
          obtain ⟨Ak, ck, hk2, _, hkc, hkF, hkK⟩ := cls_elem (Kd.N_below HNN.out HWW.out) k.toNat hkl rfl
          have htf := take_filter (fun y' => !decide (y'.f0.f0.toList = x.f0.toList)) hkl
          generalize xs[k.toNat] = q at hk2 hkc hkF hkK htf
          obtain ⟨q0, q1, q2, q3, q4, q5, q6, q7, q8, q9⟩ := cls_facts hk2
          have m0 := gkeep HB3.out HMID.out.facts.1
          have HTF := Aside0.mk htf
          have HKC := Aside0.mk hkc
          have HKK := Aside0.mk hkK
          clear htf hkc hkK hkF hk2
          by_cases hpe : q.f0.f0.toList = x.f0.toList
          ·have e1 : (q.f0.f0.toList == x.f0.toList) = true := beq_iff_eq.2 hpe
           have HPE := Aside0.mk hpe
           clear hpe
           go_upto_region 22 with (fail)
           go_quiet (fail)
           have hfin : FR3 xs x.f0 wz (k + 1) (.slice Ao ys.length co) (wr.drewN nq) := by
            refine ⟨by omega, by omega, HB3.out.trans (pw_below_drewN (Below.refl _ _) _), ?_⟩
            have e2 := HTF.out
            rw [HYS.out] at e2
            rw [show (k + 1).toNat = k.toNat + 1 from by omega, e2]
            simp only [HPE.out, decide_true, Bool.not_true, Bool.false_eq_true, if_false, List.append_nil]
            exact Kd.N_drewN HO.out _
           have HF := Aside0.mk hfin
           clear hfin
           go_wp2
           go_roundw
           case rel => exact ⟨k + 1, by go_num, HF⟩
           case measure => simp [intOf]; omega
          ·have e1 : (q.f0.f0.toList == x.f0.toList) = false := beq_eq_false_iff_ne.2 hpe
           have HPE := Aside0.mk hpe
           clear hpe
           go_upto_region 22 with (fail)
           go_quiet (fail)
           generalize hw5 : World.drewN wr nq = w5
           have hb5 : Below wr.heap.size wr w5 := by rw [← hw5]; exact pw_below_drewN (Below.refl _ _) _
           have HB5 := Aside0.mk hb5
           have HK5 := Aside0.mk (Kd.FK_below HKK.out hb5)
           have p0 := gkeep hb5 q0
           have p1 := gkeep hb5 q1
           have p2 := gkeep hb5 q2
           have p3 := gkeep hb5 q3
           have p4 := gkeep hb5 q4
           have p5 := gkeep hb5 q5
           have p6 := gkeep hb5 q6
           have p7 := gkeep hb5 q7
           have p8 := gkeep hb5 q8
           have p9 := gkeep hb5 q9
           have HW5 := Aside0.mk hw5
           clear hb5 hw5 q0 q1 q2 q3 q4 q5 q6 q7 q8 q9
           go_wp2_with (at_builtin; refine Kd.N_append k76 (w0 := wz) wz.heap.size rfl (.tmp 92) (.tmp 97) 74 76 (.agg #[.string ⟨#[]⟩, .string ⟨#[]⟩, .string ⟨#[]⟩, .int .u8 0, .int .i64 0, .int .i64 0, .int .i64 0, .int .i64 0, .slice none 0 0, .int .i64 0]) 120 rfl Tryd.underlying74 infoCls rfl (by decide) (by decide) (.slice Ao ys.length co) ys q [.string q.f0.f0, .string q.f0.f1, .string q.f0.f2, .int .u8 q.f0.f3, .int .i64 q.f0.f4.f0, .int .i64 q.f0.f4.f1, .int .i64 q.f0.f4.f2, .int .i64 q.f0.f4.f3, .slice Ak q.f0.f5.length ck, .int .i64 q.f1] (fun _ => True) (fun k' => k' < w0.heap.size ∧ k' ≠ g) rfl rfl HK5.out (fun k' hk => ⟨trivial, fun e => by have h1 := HOB.out k' e.symm; have h2 := HMZ.out; omega⟩) (fun _ _ => trivial) (Kd.N_below HO.out HB5.out) (HB3.out.trans (HB5.out.mono HB3.out.size)) (Nat.le_trans HB3.out.size HB5.out.size) (by have := HYL.out; omega) ?_; intro v6 w6 hN6 hB6 hg6 hat6; have HN6 := Aside0.mk hN6; have HB6 := Aside0.mk hB6; clear hN6 hB6 hg6 hat6)
           have hfin : FR3 xs x.f0 wz (k + 1) v6 w6 := by
            refine ⟨by omega, by omega, HB6.out, ?_⟩
            have e2 := HTF.out
            rw [HYS.out] at e2
            rw [show (k + 1).toNat = k.toNat + 1 from by omega, e2]
            simp only [HPE.out, decide_false, Bool.not_false, if_true]
            exact HN6.out
           have HF := Aside0.mk hfin
           clear hfin HN6 HB6
           go_roundw
           case rel => exact ⟨k + 1, by go_num, HF⟩
           case measure => simp [intOf]; omega
         ·have c2b : decide (k < (xs.length : Int)) = false := decide_eq_false hlt3
          have hfull : ys = xs.filter (fun y' => !decide (y'.f0.f0.toList = x.f0.toList)) := by rw [← HYS.out, List.take_of_length_le (by omega)]
          have hbx := HMID.out.facts.2
          have b0 := gkeep HB3.out (hbx 0 _ rfl)
          have b1 := gkeep HB3.out (hbx 1 _ rfl)
          have b2 := gkeep HB3.out (hbx 2 _ rfl)
          have b3 := gkeep HB3.out (hbx 3 _ rfl)
          have b4 := gkeep HB3.out (hbx 4 _ rfl)
          have b5 := gkeep HB3.out (hbx 5 _ rfl)
          have b6 := gkeep HB3.out (hbx 6 _ rfl)
          have b7 := gkeep HB3.out (hbx 7 _ rfl)
          have b8 := gkeep HB3.out (hbx 8 _ rfl)
          have b9 := gkeep HB3.out (hbx 9 _ rfl)
          have HFULL := Aside0.mk hfull
          have HFK := Aside0.mk (k76_mkF wr _ y HMID.out.2.2.2.1 (Kd.F_below HMID.out.2.2.2.2 HWW.out))
          clear hfull hbx
          go_wp2_with (at_builtin; refine Kd.N_append k76 (w0 := W) W.heap.size rfl (.tmp 99) (.tmp 101) 74 76 (.agg #[.string ⟨#[]⟩, .string ⟨#[]⟩, .string ⟨#[]⟩, .int .u8 0, .int .i64 0, .int .i64 0, .int .i64 0, .int .i64 0, .slice none 0 0, .int .i64 0]) 120 rfl Tryd.underlying74 infoCls rfl (by decide) (by decide) (.slice Ao ys.length co) ys y [.string y.f0.f0, .string y.f0.f1, .string y.f0.f2, .int .u8 y.f0.f3, .int .i64 y.f0.f4.f0, .int .i64 y.f0.f4.f1, .int .i64 y.f0.f4.f2, .int .i64 y.f0.f4.f3, .slice Ay y.f0.f5.length cy, .int .i64 y.f1] (fun _ => True) (fun k' => k' < w0.heap.size) rfl rfl HFK.out (fun k' hk => ⟨trivial, fun e => by have h1 := HOB.out k' e.symm; have h2 := HMZ.out; omega⟩) (fun _ _ => trivial) (Kd.N_lower HO.out (Nat.le_trans HB.out.size HMID.out.below.size)) (HB.out.trans (HWW.out.mono HB.out.size)) (Nat.le_trans HB.out.size HWW.out.size) (by have := HYL.out; omega) ?_; intro v6 w6 hN6 hB6 hg6 hat6; have HN6 := Aside0.mk hN6; have HB6 := Aside0.mk hB6; have HG6 := Aside0.mk hg6; clear hN6 hB6 hg6 hat6)
          have hfin : FR2 l W (n + 1) v6 w6 := by
           refine ⟨by omega, by omega, ⟨putP s x.f0 cc, ?_, ?_, ?_⟩, HB6.out, ?_⟩
           ·rw [show (n + 1).toNat = n.toNat + 1 from by omega, stepsF_succ HS.out]; exact HS2.out
           ·rw [show (n + 1).toNat = n.toNat + 1 from by omega]
            have hlx := (List.getElem?_eq_some_iff.1 HLX.out).2
            exact HI.out.step HNL.out (by rw [hlx]; exact good_path HXG.out) (by rw [hlx]; exact HXZ.out.1) HS2.out
           ·have e3 := HN6.out
            rw [HFULL.out, ← HXS.out, HYE.out, names_next] at e3
            exact e3
           ·refine flt_grown (HFB.out.below HWW.out) HG6.out (fun e => ?_)
            have h1 := HOB.out _ e.symm
            have h2 := HMZ.out
            have h3 := HFB.out.facts.2.2.2.2
            omega
          have HF := Aside0.mk hfin
          clear hfin HN6 HB6 HG6
          go_roundw
          case rel => exact ⟨n + 1, by go_num, HF⟩
          case measure => simp [intOf]; omega
       ·have e48 : (q.f0.f3 == 48) = false := by rw [hf3]; exact beq_eq_false_iff_ne.2 h48
        have e48b : (q.f0.f3 != 48) = true := by rw [bne, e48]; rfl
        rw [if_neg h48] at hst
        have hst2 := foldF_stop HOK.out HNL.out HS.out hst
        rw [Int.toNat_of_nonneg h0] at hst2
        have HST2 := Aside0.mk hst2
        clear hst hst2 h48 hf3
        go_wp2_with (go_at_call 48; refine (bindleref08_at.calls kg (some ⟨g, 0, none⟩) cl xs x.f1 (i : Int) _ (HCX.out _ _) HCL.out HKG.out).mono ?_; rintro e w1 ⟨rfl, hd⟩; have hb1 : Below wr.heap.size wr w1 := drawn2 hd; have HB1 := Aside0.mk hb1; obtain ⟨g0, g1, g2, g3, g4⟩ := (HFB.out.below hb1).facts; obtain ⟨q0, q1, q2, q3, q4, q5, q6, q7, q8, q9⟩ := cls_facts (fun j u h => gkeep hb1 (HQ2.out j u h)); clear hb1 hd)
        refine bodyPost_ret (v := .tuple #[.slice none 0 0, .agg #[.int .i64 7, .int .i64 n]]) (by simp [results, Tryd.results29, go_sem, g0, g1, g4]) rfl ?_
        rw [← hQ.out]
        refine ⟨.slice none 0 0, by rw [HST2.out], by rw [HST2.out]; exact Kd.V_nil _ _ _ _ _, ?_⟩
        repeat (with_reducible refine below_put ?_ _ _ (Nat.le_refl _) _)
        exact HB.out.trans (HB1.out.mono HB.out.size)
     ·have e49 : (x.f2 == 49) = false := beq_eq_false_iff_ne.2 h49
      have hst2 := HSTEP.out
      rw [if_neg h49] at hst2
      have HS2 := Aside0.mk hst2
      clear h49 hst2
      go_upto_region 18 with (fail)
      generalize hy : (⟨⟨x.f0, x.f1, emp, x.f2, x.f3, x.f4⟩, n⟩ : Cls) = y
      have hye : y = clsOf l (x.f0, n.toNat) := by
       rw [← hy]
       unfold clsOf
       rw [HGD.out, Int.toNat_of_nonneg h0]
      generalize hwz : World.alloc (World.alloc _ _) _ = wz
      have hmid : RMid x A7 c7 wr wz y A7 c7 := by
       rw [← hwz, ← hy]
       refine ⟨?_, ?_, ?_, HL7.out, Kd.C_F (Kd.heap_int _) HC7.out⟩
       ·exact (show Below (wr.heap.size + 1) (wr.alloc (.cells (memArr x A7 c7) 45)) (wr.alloc (.cells (memArr x A7 c7) 45)) from Below.refl _ _).alloc (by rw [World.size_alloc]; exact Nat.le_refl _) _
       ·have := blk_new (wr.alloc (.cells (memArr x A7 c7) 45)) (.cells (clsCells ⟨⟨x.f0, x.f1, emp, x.f2, x.f3, x.f4⟩, n⟩ (.slice A7 x.f4.length c7)).toArray 76)
        rw [World.size_alloc] at this
        exact this
       ·rw [World.size_alloc, World.size_alloc]
      have HMID := Aside0.mk hmid
      obtain ⟨cc, HS2, HYE, Ay, cy, HMID⟩ : ∃ cc, Aside0 (stepF l s n.toNat = some (putP s x.f0 cc)) ∧ Aside0 (y = clsOf l (x.f0, cc)) ∧ ∃ Ay cy, Aside0 (RMid x A7 c7 wr wz y Ay cy) := ⟨_, HS2, ⟨hye⟩, _, _, ⟨hmid⟩⟩
      clear hmid hye hy hwz
      try go_wp2
      obtain ⟨w0, rfl⟩ : ∃ w0, w0 = wr := ⟨_, rfl⟩
      have HMZ : Aside0 (wz.heap.size = w0.heap.size + 2) := ⟨HMID.out.2.2.1⟩
      go_loopw [11, 10] (fun i o wr => ∃ k : Int, i = .int .i64 k ∧ Aside0 (FR3 xs x.f0 wz k o wr)) (fun i _ _ => (xs.length - (intOf i)).toNat)
      case atStart => exact ⟨0, rfl, ⟨⟨by omega, by omega, Below.refl _ _, Kd.N_nil _ _ _ _ _⟩⟩⟩
      case round =>
       obtain ⟨k, rfl, HR3⟩ := hrel
       have k0 := HR3.out.1
       have k1 := HR3.out.2.1
       have HB3 := Aside0.mk HR3.out.2.2.1
       have hN3 := HR3.out.2.2.2
       generalize hys : List.filter _ (List.take k.toNat xs) = ys at hN3
       have hyl : ys.length ≤ xs.length := by
        rw [← hys]
        exact Nat.le_trans (List.length_filter_le _ _) (by rw [List.length_take]; omega)
       obtain ⟨Ao, co, rfl⟩ := Kd.N_slice hN3
       have HOB := Aside0.mk (Kd.N_base hN3)
       have HO := Aside0.mk hN3
       have HYS := Aside0.mk hys
       have HYL := Aside0.mk hyl
       have HWW : Aside0 (Below w0.heap.size w0 wr) := ⟨HMID.out.below.trans (HB3.out.mono HMID.out.below.size)⟩
       clear hN3 hys hyl
       by_cases hlt3 : k < (xs.length : Int)
       ·have c2b : decide (k < (xs.length : Int)) = true := decide_eq_true hlt3
        have hkl : k.toNat < xs.length := by omega
        obtain ⟨g, cap, he, _, _, _⟩ := Kd.N_form HNN.out (by omega)
        cases he
        obtain ⟨Ak, ck, hk2, _, hkc, hkF, hkK⟩ := cls_elem (Kd.N_below HNN.out HWW.out) k.toNat hkl rfl
        have htf := take_filter (fun y' => !decide (y'.f0.f0.toList = x.f0.toList)) hkl
        generalize xs[k.toNat] = q at hk2 hkc hkF hkK htf
        obtain ⟨q0, q1, q2, q3, q4, q5, q6, q7, q8, q9⟩ := cls_facts hk2
        have m0 := gkeep HB3.out HMID.out.facts.1
        have HTF := Aside0.mk htf
        have HKC := Aside0.mk hkc
        have HKK := Aside0.mk hkK
        clear htf hkc hkK hkF hk2
        by_cases hpe : q.f0.f0.toList = x.f0.toList
        ·have e1 : (q.f0.f0.toList == x.f0.toList) = true := beq_iff_eq.2 hpe
         have HPE := Aside0.mk hpe
         clear hpe
         go_upto_region 22 with (fail)
         go_quiet (fail)
         have hfin : FR3 xs x.f0 wz (k + 1) (.slice Ao ys.length co) (wr.drewN nq) := by
          refine ⟨by omega, by omega, HB3.out.trans (pw_below_drewN (Below.refl _ _) _), ?_⟩
          have e2 := HTF.out
          rw [HYS.out] at e2
          rw [show (k + 1).toNat = k.toNat + 1 from by omega, e2]
          simp only [HPE.out, decide_true, Bool.not_true, Bool.false_eq_true, if_false, List.append_nil]
          exact Kd.N_drewN HO.out _
         have HF := Aside0.mk hfin
         clear hfin
         go_wp2
         go_roundw
         case rel => exact ⟨k + 1, by go_num, HF⟩
         case measure => simp [intOf]; omega
        ·have e1 : (q.f0.f0.toList == x.f0.toList) = false := beq_eq_false_iff_ne.2 hpe
         have HPE := Aside0.mk hpe
         clear hpe
         go_upto_region 22 with (fail)
         go_quiet (fail)
         generalize hw5 : World.drewN wr nq = w5
         have hb5 : Below wr.heap.size wr w5 := by rw [← hw5]; exact pw_below_drewN (Below.refl _ _) _
         have HB5 := Aside0.mk hb5
         have HK5 := Aside0.mk (Kd.FK_below HKK.out hb5)
         have p0 := gkeep hb5 q0
         have p1 := gkeep hb5 q1
         have p2 := gkeep hb5 q2
         have p3 := gkeep hb5 q3
         have p4 := gkeep hb5 q4
         have p5 := gkeep hb5 q5
         have p6 := gkeep hb5 q6
         have p7 := gkeep hb5 q7
         have p8 := gkeep hb5 q8
         have p9 := gkeep hb5 q9
         have HW5 := Aside0.mk hw5
         clear hb5 hw5 q0 q1 q2 q3 q4 q5 q6 q7 q8 q9
         go_wp2_with (at_builtin; refine Kd.N_append k76 (w0 := wz) wz.heap.size rfl (.tmp 92) (.tmp 97) 74 76 (.agg #[.string ⟨#[]⟩, .string ⟨#[]⟩, .string ⟨#[]⟩, .int .u8 0, .int .i64 0, .int .i64 0, .int .i64 0, .int .i64 0, .slice none 0 0, .int .i64 0]) 120 rfl Tryd.underlying74 infoCls rfl (by decide) (by decide) (.slice Ao ys.length co) ys q [.string q.f0.f0, .string q.f0.f1, .string q.f0.f2, .int .u8 q.f0.f3, .int .i64 q.f0.f4.f0, .int .i64 q.f0.f4.f1, .int .i64 q.f0.f4.f2, .int .i64 q.f0.f4.f3, .slice Ak q.f0.f5.length ck, .int .i64 q.f1] (fun _ => True) (fun k' => k' < w0.heap.size ∧ k' ≠ g) rfl rfl HK5.out (fun k' hk => ⟨trivial, fun e => by have h1 := HOB.out k' e.symm; have h2 := HMZ.out; omega⟩) (fun _ _ => trivial) (Kd.N_below HO.out HB5.out) (HB3.out.trans (HB5.out.mono HB3.out.size)) (Nat.le_trans HB3.out.size HB5.out.size) (by have := HYL.out; omega) ?_; intro v6 w6 hN6 hB6 hg6 hat6; have HN6 := Aside0.mk hN6; have HB6 := Aside0.mk hB6; clear hN6 hB6 hg6 hat6)
         have hfin : FR3 xs x.f0 wz (k + 1) v6 w6 := by
          refine ⟨by omega, by omega, HB6.out, ?_⟩
          have e2 := HTF.out
          rw [HYS.out] at e2
          rw [show (k + 1).toNat = k.toNat + 1 from by omega, e2]
          simp only [HPE.out, decide_false, Bool.not_false, if_true]
          exact HN6.out
         have HF := Aside0.mk hfin
         clear hfin HN6 HB6
         go_roundw
         case rel => exact ⟨k + 1, by go_num, HF⟩
         case measure => simp [intOf]; omega
       ·have c2b : decide (k < (xs.length : Int)) = false := decide_eq_false hlt3
        have hfull : ys = xs.filter (fun y' => !decide (y'.f0.f0.toList = x.f0.toList)) := by rw [← HYS.out, List.take_of_length_le (by omega)]
        have hbx := HMID.out.facts.2
        have b0 := gkeep HB3.out (hbx 0 _ rfl)
        have b1 := gkeep HB3.out (hbx 1 _ rfl)
        have b2 := gkeep HB3.out (hbx 2 _ rfl)
        have b3 := gkeep HB3.out (hbx 3 _ rfl)
        have b4 := gkeep HB3.out (hbx 4 _ rfl)
        have b5 := gkeep HB3.out (hbx 5 _ rfl)
        have b6 := gkeep HB3.out (hbx 6 _ rfl)
        have b7 := gkeep HB3.out (hbx 7 _ rfl)
        have b8 := gkeep HB3.out (hbx 8 _ rfl)
        have b9 := gkeep HB3.out (hbx 9 _ rfl)
        have HFULL := Aside0.mk hfull
        have HFK := Aside0.mk (k76_mkF wr _ y HMID.out.2.2.2.1 (Kd.F_below HMID.out.2.2.2.2 HWW.out))
        clear hfull hbx
        go_wp2_with (at_builtin; refine Kd.N_append k76 (w0 := W) W.heap.size rfl (.tmp 99) (.tmp 101) 74 76 (.agg #[.string ⟨#[]⟩, .string ⟨#[]⟩, .string ⟨#[]⟩, .int .u8 0, .int .i64 0, .int .i64 0, .int .i64 0, .int .i64 0, .slice none 0 0, .int .i64 0]) 120 rfl Tryd.underlying74 infoCls rfl (by decide) (by decide) (.slice Ao ys.length co) ys y [.string y.f0.f0, .string y.f0.f1, .string y.f0.f2, .int .u8 y.f0.f3, .int .i64 y.f0.f4.f0, .int .i64 y.f0.f4.f1, .int .i64 y.f0.f4.f2, .int .i64 y.f0.f4.f3, .slice Ay y.f0.f5.length cy, .int .i64 y.f1] (fun _ => True) (fun k' => k' < w0.heap.size) rfl rfl HFK.out (fun k' hk => ⟨trivial, fun e => by have h1 := HOB.out k' e.symm; have h2 := HMZ.out; omega⟩) (fun _ _ => trivial) (Kd.N_lower HO.out (Nat.le_trans HB.out.size HMID.out.below.size)) (HB.out.trans (HWW.out.mono HB.out.size)) (Nat.le_trans HB.out.size HWW.out.size) (by have := HYL.out; omega) ?_; intro v6 w6 hN6 hB6 hg6 hat6; have HN6 := Aside0.mk hN6; have HB6 := Aside0.mk hB6; have HG6 := Aside0.mk hg6; clear hN6 hB6 hg6 hat6)
        have hfin : FR2 l W (n + 1) v6 w6 := by
         refine ⟨by omega, by omega, ⟨putP s x.f0 cc, ?_, ?_, ?_⟩, HB6.out, ?_⟩
         ·rw [show (n + 1).toNat = n.toNat + 1 from by omega, stepsF_succ HS.out]; exact HS2.out
         ·rw [show (n + 1).toNat = n.toNat + 1 from by omega]
          have hlx := (List.getElem?_eq_some_iff.1 HLX.out).2
          exact HI.out.step HNL.out (by rw [hlx]; exact good_path HXG.out) (by rw [hlx]; exact HXZ.out.1) HS2.out
         ·have e3 := HN6.out
          rw [HFULL.out, ← HXS.out, HYE.out, names_next] at e3
          exact e3
         ·refine flt_grown (HFB.out.below HWW.out) HG6.out (fun e => ?_)
          have h1 := HOB.out _ e.symm
          have h2 := HMZ.out
          have h3 := HFB.out.facts.2.2.2.2
          omega
        have HF := Aside0.mk hfin
        clear hfin HN6 HB6 HG6
        go_roundw
        case rel => exact ⟨n + 1, by go_num, HF⟩
        case measure => simp [intOf]; omega
    ·have c1b : decide (n < (l.length : Int)) = false := decide_eq_false hlt
     have hnl : n.toNat = l.length := by omega
     have hs := HS.out
     have hI := HI.out
     rw [hnl] at hs hI
     have hst := foldF_end HOK.out hs
     have hsm := sorted_map (l := l) hI.nodup
     rw [HXS.out] at hsm
     have hz5 : ∀ y ∈ xs, y.f0.f5.length ≤ 140737488351232 := by
      intro y hy
      rw [← HXS.out] at hy
      obtain ⟨q, hq, rfl⟩ := List.mem_map.1 hy
      obtain ⟨m, hlm, _⟩ := (hI.cls q hq).2
      unfold clsOf
      dsimp only
      rw [List.getD_eq_getElem?_getD, hlm]
      exact (HZ.out.2 m (List.mem_of_getElem? hlm)).2.2
     have hSC := Sorted_calls Al cl xs wr (Kd.N_reads' HNN.out).2.2 (by omega) hz5
     have HSC := Aside0.mk hSC
     have HST := Aside0.mk hst
     have HSM := Aside0.mk hsm
     clear hs hI hst hsm hz5 hSC hnl
     go_wp2_with (go_at_call 49; refine HSC.out.mono ?_; rintro e w3 ⟨v, rfl, hN, hb3⟩; obtain ⟨Av, cv, rfl⟩ := Kd.N_slice hN; obtain ⟨g0, g1, g2, g3, g4⟩ := (HFB.out.below hb3).facts; have HN3 := Aside0.mk hN; have HB3 := Aside0.mk hb3; clear hN hb3)
     refine bodyPost_ret (v := .tuple #[.slice Av (sortedF xs).length cv, .agg #[.int .i64 0, .int .i64 0]]) (by simp [results, Tryd.results29, go_sem, g0, g1, g4]) rfl ?_
     rw [← hQ.out]
     refine ⟨_, by rw [HST.out], ?_, ?_⟩
     ·rw [HST.out, ← HSM.out]
      refine Kd.V_mono (ok := fun k => wr.heap.size ≤ k) ?_ (fun k hk => by have := HB.out.size; omega)
      repeat (with_reducible refine Kd.V_far ?_ (fun k hk e => by have e' : k = W.heap.size := e; omega) _)
      exact Kd.N_V HN3.out
     ·repeat (with_reducible refine below_put ?_ _ _ (Nat.le_refl _) _)
      exact HB.out.trans (HB3.out.mono HB.out.size)
end Go.Proofs.YtfljbidecljlcaaDoor

namespace Go.Proofs.YtfljbidecljlcaaDoor.Print
open Go.RowKit Go.Proofs.YtfljbidecljlcaaDoor Go.Proofs.YtfljbidecljlcaaDoorW.PrintWords Go.Proofs.YtfljbidecljlcaaDoorW.PrintLast Go.Proofs.YtfljbidecljlcaaDoorW.PrintMore
set_option linter.unusedVariables false
def bindleref08_Fold.f (l : List S45) : Option (List S40 × Int × Int) := if memsZ l = true then some (foldF l) else none
theorem bindleref08_Fold.calls (A0 : Option Addr) (c0 : Nat) (l0 : List S45) (r1 : List S40) (r2 r3 : Int) (w : World) (hr0 : Kd.C k45 w A0 l0.length l0) (hc0 : l0.length ≤ c0) (h : bindleref08_Fold.f l0 = some (r1, r2, r3)) :
  Calls Tryd.prog 29 #[.slice A0 l0.length c0] w fun e w' => ∃ v0_ : Value, e = .returned (.tuple #[v0_, .agg #[.int .i64 r2, .int .i64 r3]]) ∧ Kd.V k40 40 w' w.heap.size (fun k_ => w.heap.size ≤ k_) v0_ r1 ∧ Below w.heap.size w w' := by
 unfold bindleref08_Fold.f at h
 split at h
 ·rename_i hc
  simp only [Option.some.injEq] at h
  refine (RFold_calls A0 c0 l0 w hr0 ((memsZ_iff l0).1 hc)).mono ?_
  rintro e w' ⟨v, rfl, hV, hB⟩
  rw [h] at hV ⊢
  exact ⟨v, rfl, hV, hB⟩
 ·cases h
end Go.Proofs.YtfljbidecljlcaaDoor.Print

namespace Go.Proofs.YtfljbidecljlcaaDoor.Print
open Go.RowKit Go.Proofs.YtfljbidecljlcaaDoorW.PrintWords Go.Proofs.YtfljbidecljlcaaDoorW.PrintLast Go.Proofs.YtfljbidecljlcaaDoorW.PrintMore
attribute [local go_sem] max2_int min2_int max_two min_two max_three min_three max_four min_four   -- for this text's walks alone
set_option linter.unusedVariables false
set_option linter.unusedSimpArgs false
theorem eqA49 (d : Nat) (w : World) (x0 y0 : Int) (x1 y1 : Int) :
  (Op.equalIn (d + 2) 49 (.agg #[.int .i64 x0, .int .i64 x1]) (.agg #[.int .i64 y0, .int .i64 y1])).run Tryd.prog w = .ok (x0 == y0 && (x1 == y1)) w := by
 refine eqA_of Tryd.underlying49 (by kernel_rfl) ?_
 refine eqf_cons (by rfl) (by go_simp; rfl) (by go_simp; rfl) (by go_simp) ?_
 exact eqf_last (by rfl) (by go_simp; rfl) (by go_simp; rfl) (by go_simp)
end Go.Proofs.YtfljbidecljlcaaDoor.Print

namespace Go.Proofs.YtfljbidecljlcaaDoor.Print
open Go.RowKit Go.Proofs.YtfljbidecljlcaaDoorW.PrintWords Go.Proofs.YtfljbidecljlcaaDoorW.PrintLast Go.Proofs.YtfljbidecljlcaaDoorW.PrintMore
attribute [local go_sem] max2_int min2_int max_two min_two max_three min_three max_four min_four   -- for this text's walks alone
set_option linter.unusedVariables false
set_option linter.unusedSimpArgs false
def bindlelaw10_light.l0 : Nat → List (S45) → Int → Int → Option (Bool)
 | 0, _, _, _ => none
 | k + 1, x0, x3, x4 => if x4 < (x0.length : Int) then (if (x0.length : Int) > 60 then (some false) else (if 0 ≤ x4 then (if (((rd_T45 x0 x4).f0).size : Int) > 2000 then (some false) else (if (((rd_T45 x0 x4).f1).size : Int) > 2000 then (some false) else (if (((rd_T45 x0 x4).f4).length : Int) > 100000 then (some false) else (bindlelaw10_light.l0 k x0 (wrap64 (x3 + (((rd_T45 x0 x4).f4).length : Int))) (wrap64 (x4 + 1)))))) else (none))) else (some (decide (x3 ≤ 200000)))
def bindlelaw10_light.f (k : Nat) (l0 : List (S45)) : Option (Bool) := bindlelaw10_light.l0 k l0 0 0
set_option maxHeartbeats 8000000 in
set_option maxRecDepth 100000 in
theorem bindlelaw10_light.calls (k : Nat) (A0 : Option Addr) (c0 : Nat) (l0 : List (S45)) (r : Bool) (w : World) (hr0 : Kd.C k45 w A0 l0.length l0) (hc0 : l0.length ≤ c0) (h : bindlelaw10_light.f k l0 = some r) :
  Calls Tryd.prog 25 #[.slice A0 l0.length c0] w fun e w' => e = .returned (.bool r) ∧ Drawn0 w w' := by
 have HR0 := A0_ hr0
 have HC0 := A0_ hc0
 clear hr0 hc0
 have H : (bindlelaw10_light.l0 k l0 0 0) = some r := h
 clear h
 have H' := A0_ H
 clear H
 go_enter Tryd.func25, Tryd.ntmps25
 go_wp2
 go_loopg [3, 4] k (fun kq v3 v4 w' => ∃ (x3_1 : Int) (x4_1 : Int), v3 = .int .i64 x3_1 ∧ v4 = .int .i64 x4_1 ∧ Aside0 (bindlelaw10_light.l0 kq l0 x3_1 x4_1 = some r) ∧ Aside0 (kq ≤ k) ∧ Drawn0 w w')
 case atStart => exact ⟨(0), (0), wr_, wr_, H', ⟨Nat.le_refl _⟩, by repeat (first | exact Drawn0.refl _ | apply Drawn0.step)⟩
 case round =>
  clear H'
  obtain ⟨x3_1, x4_1, rfl, rfl, HA, HK1, ⟨m1, rfl⟩⟩ := hrel
  cases gk with
  | zero => exact absurd HA.out (by simp [bindlelaw10_light.l0])
  | succ k1 =>
   have H := HA.out
   clear HA
   simp only [bindlelaw10_light.l0] at H
   by_cases c2 : x4_1 < (l0.length : Int)
   rotate_left
   ·rw [if_neg c2] at H
    have c2b0 : decide (x4_1 < (l0.length : Int)) = false := decide_eq_false c2
    clear c2
    obtain rfl := Option.some.inj H
    go_wp2
    go_ret
    exact ⟨by first | rfl | (simp; done) | (simp [*]; done), by repeat (first | exact Drawn0.refl _ | apply Drawn0.step)⟩
   rw [if_pos c2] at H
   have c2b0 : decide (x4_1 < (l0.length : Int)) = true := decide_eq_true c2
   clear c2
   by_cases c3 : (l0.length : Int) > 60
   ·rw [if_pos c3] at H
    have c3b0 : decide (60 < (l0.length : Int)) = true := decide_eq_true c3
    have c3b1 : decide (60 < l0.length) = true := decide_eq_true (by omega)
    clear c3
    obtain rfl := Option.some.inj H
    go_wp2
    go_ret
    exact ⟨by first | rfl | (simp; done) | (simp [*]; done), by repeat (first | exact Drawn0.refl _ | apply Drawn0.step)⟩
   rw [if_neg c3] at H
   have c3b0 : decide (60 < (l0.length : Int)) = false := decide_eq_false c3
   have c3b1 : decide (60 < l0.length) = false := decide_eq_false (by omega)
   clear c3
   by_cases c4 : 0 ≤ x4_1
   rotate_left
   ·rw [if_neg c4] at H
    exact absurd H (by simp)
   rw [if_pos c4] at H
   have c4b0 : decide (0 ≤ x4_1) = true := decide_eq_true c4
   clear c4
   by_cases c5 : (((rd_T45 l0 x4_1).f0).size : Int) > 2000
   ·rw [if_pos c5] at H
    have c5b0 : decide (2000 < (((rd_T45 l0 x4_1).f0).size : Int)) = true := decide_eq_true c5
    have c5b1 : decide (2000 < ((rd_T45 l0 x4_1).f0).size) = true := decide_eq_true (by omega)
    clear c5
    obtain rfl := Option.some.inj H
    have p376 : 0 ≤ (x4_1 : Int) := wd_
    have q376 : x4_1 < (l0.length : Int) := wd_
    obtain ⟨ad376, A376_7, c376_7, e376, hx376_0, hx376_1, hx376_2, hx376_3, hx376_4, hx376_5, hx376_6, hx376_7, hl376_7, hi376_7⟩ := at_T45 HR0.out x4_1 p376 q376
    cases e376
    have HR376_7 := A0_ hi376_7
    have HC376_7 := A0_ hl376_7
    clear hi376_7 hl376_7
    replace p376 := eq_true p376
    replace q376 := eq_true q376
    go_wp2
    go_ret
    exact ⟨by first | rfl | (simp; done) | (simp [*]; done), by repeat (first | exact Drawn0.refl _ | apply Drawn0.step)⟩
   rw [if_neg c5] at H
   have c5b0 : decide (2000 < (((rd_T45 l0 x4_1).f0).size : Int)) = false := decide_eq_false c5
   have c5b1 : decide (2000 < ((rd_T45 l0 x4_1).f0).size) = false := decide_eq_false (by omega)
   clear c5
   by_cases c6 : (((rd_T45 l0 x4_1).f1).size : Int) > 2000
   ·rw [if_pos c6] at H
    have c6b0 : decide (2000 < (((rd_T45 l0 x4_1).f1).size : Int)) = true := decide_eq_true c6
    have c6b1 : decide (2000 < ((rd_T45 l0 x4_1).f1).size) = true := decide_eq_true (by omega)
    clear c6
    obtain rfl := Option.some.inj H
    have p376 : 0 ≤ (x4_1 : Int) := wd_
    have q376 : x4_1 < (l0.length : Int) := wd_
    obtain ⟨ad376, A376_7, c376_7, e376, hx376_0, hx376_1, hx376_2, hx376_3, hx376_4, hx376_5, hx376_6, hx376_7, hl376_7, hi376_7⟩ := at_T45 HR0.out x4_1 p376 q376
    cases e376
    have HR376_7 := A0_ hi376_7
    have HC376_7 := A0_ hl376_7
    clear hi376_7 hl376_7
    replace p376 := eq_true p376
    replace q376 := eq_true q376
    have p377 : 0 ≤ (x4_1 : Int) := wd_
    have q377 : x4_1 < (l0.length : Int) := wd_
    obtain ⟨ad377, A377_7, c377_7, e377, hx377_0, hx377_1, hx377_2, hx377_3, hx377_4, hx377_5, hx377_6, hx377_7, hl377_7, hi377_7⟩ := at_T45 HR0.out x4_1 p377 q377
    obtain rfl : ad376 = ad377 := (by injection e377)
    have HR377_7 := A0_ hi377_7
    have HC377_7 := A0_ hl377_7
    clear hi377_7 hl377_7
    replace p377 := eq_true p377
    replace q377 := eq_true q377
    have ea_ := Option.some.inj (hx376_7.symm.trans hx377_7)
    injection ea_ with ea_ en_ ec_
    subst ea_
    subst ec_
    clear en_
    go_wp2
    go_ret
    exact ⟨by first | rfl | (simp; done) | (simp [*]; done), by repeat (first | exact Drawn0.refl _ | apply Drawn0.step)⟩
   rw [if_neg c6] at H
   have c6b0 : decide (2000 < (((rd_T45 l0 x4_1).f1).size : Int)) = false := decide_eq_false c6
   have c6b1 : decide (2000 < ((rd_T45 l0 x4_1).f1).size) = false := decide_eq_false (by omega)
   clear c6
   by_cases c7 : (((rd_T45 l0 x4_1).f4).length : Int) > 100000
   ·rw [if_pos c7] at H
    have c7b0 : decide (100000 < (((rd_T45 l0 x4_1).f4).length : Int)) = true := decide_eq_true c7
    have c7b1 : decide (100000 < ((rd_T45 l0 x4_1).f4).length) = true := decide_eq_true (by omega)
    clear c7
    obtain rfl := Option.some.inj H
    have p376 : 0 ≤ (x4_1 : Int) := wd_
    have q376 : x4_1 < (l0.length : Int) := wd_
    obtain ⟨ad376, A376_7, c376_7, e376, hx376_0, hx376_1, hx376_2, hx376_3, hx376_4, hx376_5, hx376_6, hx376_7, hl376_7, hi376_7⟩ := at_T45 HR0.out x4_1 p376 q376
    cases e376
    have HR376_7 := A0_ hi376_7
    have HC376_7 := A0_ hl376_7
    clear hi376_7 hl376_7
    replace p376 := eq_true p376
    replace q376 := eq_true q376
    have p377 : 0 ≤ (x4_1 : Int) := wd_
    have q377 : x4_1 < (l0.length : Int) := wd_
    obtain ⟨ad377, A377_7, c377_7, e377, hx377_0, hx377_1, hx377_2, hx377_3, hx377_4, hx377_5, hx377_6, hx377_7, hl377_7, hi377_7⟩ := at_T45 HR0.out x4_1 p377 q377
    obtain rfl : ad376 = ad377 := (by injection e377)
    have HR377_7 := A0_ hi377_7
    have HC377_7 := A0_ hl377_7
    clear hi377_7 hl377_7
    replace p377 := eq_true p377
    replace q377 := eq_true q377
    have ea_ := Option.some.inj (hx376_7.symm.trans hx377_7)
    injection ea_ with ea_ en_ ec_
    subst ea_
    subst ec_
    clear en_
    have p378 : 0 ≤ (x4_1 : Int) := wd_
    have q378 : x4_1 < (l0.length : Int) := wd_
    obtain ⟨ad378, A378_7, c378_7, e378, hx378_0, hx378_1, hx378_2, hx378_3, hx378_4, hx378_5, hx378_6, hx378_7, hl378_7, hi378_7⟩ := at_T45 HR0.out x4_1 p378 q378
    obtain rfl : ad376 = ad378 := (by injection e378)
    have HR378_7 := A0_ hi378_7
    have HC378_7 := A0_ hl378_7
    clear hi378_7 hl378_7
    replace p378 := eq_true p378
    replace q378 := eq_true q378
    have ea_ := Option.some.inj (hx376_7.symm.trans hx378_7)
    injection ea_ with ea_ en_ ec_
    subst ea_
    subst ec_
    clear en_
    go_wp2
    go_ret
    exact ⟨by first | rfl | (simp; done) | (simp [*]; done), by repeat (first | exact Drawn0.refl _ | apply Drawn0.step)⟩
   rw [if_neg c7] at H
   have c7b0 : decide (100000 < (((rd_T45 l0 x4_1).f4).length : Int)) = false := decide_eq_false c7
   have c7b1 : decide (100000 < ((rd_T45 l0 x4_1).f4).length) = false := decide_eq_false (by omega)
   clear c7
   have H' := A0_ H
   clear H
   have p376 : 0 ≤ (x4_1 : Int) := wd_
   have q376 : x4_1 < (l0.length : Int) := wd_
   obtain ⟨ad376, A376_7, c376_7, e376, hx376_0, hx376_1, hx376_2, hx376_3, hx376_4, hx376_5, hx376_6, hx376_7, hl376_7, hi376_7⟩ := at_T45 HR0.out x4_1 p376 q376
   cases e376
   have HR376_7 := A0_ hi376_7
   have HC376_7 := A0_ hl376_7
   clear hi376_7 hl376_7
   replace p376 := eq_true p376
   replace q376 := eq_true q376
   have p377 : 0 ≤ (x4_1 : Int) := wd_
   have q377 : x4_1 < (l0.length : Int) := wd_
   obtain ⟨ad377, A377_7, c377_7, e377, hx377_0, hx377_1, hx377_2, hx377_3, hx377_4, hx377_5, hx377_6, hx377_7, hl377_7, hi377_7⟩ := at_T45 HR0.out x4_1 p377 q377
   obtain rfl : ad376 = ad377 := (by injection e377)
   have HR377_7 := A0_ hi377_7
   have HC377_7 := A0_ hl377_7
   clear hi377_7 hl377_7
   replace p377 := eq_true p377
   replace q377 := eq_true q377
   have ea_ := Option.some.inj (hx376_7.symm.trans hx377_7)
   injection ea_ with ea_ en_ ec_
   subst ea_
   subst ec_
   clear en_
   have p378 : 0 ≤ (x4_1 : Int) := wd_
   have q378 : x4_1 < (l0.length : Int) := wd_
   obtain ⟨ad378, A378_7, c378_7, e378, hx378_0, hx378_1, hx378_2, hx378_3, hx378_4, hx378_5, hx378_6, hx378_7, hl378_7, hi378_7⟩ := at_T45 HR0.out x4_1 p378 q378
   obtain rfl : ad376 = ad378 := (by injection e378)
   have HR378_7 := A0_ hi378_7
   have HC378_7 := A0_ hl378_7
   clear hi378_7 hl378_7
   replace p378 := eq_true p378
   replace q378 := eq_true q378
   have ea_ := Option.some.inj (hx376_7.symm.trans hx378_7)
   injection ea_ with ea_ en_ ec_
   subst ea_
   subst ec_
   clear en_
   have p379 : 0 ≤ (x4_1 : Int) := wd_
   have q379 : x4_1 < (l0.length : Int) := wd_
   obtain ⟨ad379, A379_7, c379_7, e379, hx379_0, hx379_1, hx379_2, hx379_3, hx379_4, hx379_5, hx379_6, hx379_7, hl379_7, hi379_7⟩ := at_T45 HR0.out x4_1 p379 q379
   obtain rfl : ad376 = ad379 := (by injection e379)
   have HR379_7 := A0_ hi379_7
   have HC379_7 := A0_ hl379_7
   clear hi379_7 hl379_7
   replace p379 := eq_true p379
   replace q379 := eq_true q379
   have ea_ := Option.some.inj (hx376_7.symm.trans hx379_7)
   injection ea_ with ea_ en_ ec_
   subst ea_
   subst ec_
   clear en_
   go_wp2
   go_roundg k1
   case measure => have := HK1.out; omega
   case rel => exact ⟨(wrap64 (x3_1 + (((rd_T45 l0 x4_1).f4).length : Int))), (wrap64 (x4_1 + 1)), wr_, wr_, H', ⟨by have := HK1.out; omega⟩, by repeat (first | exact Drawn0.refl _ | apply Drawn0.step)⟩
end Go.Proofs.YtfljbidecljlcaaDoor.Print

namespace Go.Proofs.YtfljbidecljlcaaDoor.Print
open Go.RowKit Go.Proofs.YtfljbidecljlcaaDoorW.PrintWords Go.Proofs.YtfljbidecljlcaaDoorW.PrintLast Go.Proofs.YtfljbidecljlcaaDoorW.PrintMore
attribute [local go_sem] max2_int min2_int max_two min_two max_three min_three max_four min_four   -- for this text's walks alone
set_option linter.unusedVariables false
set_option linter.unusedSimpArgs false
def bindleref08_Own.l0 : Nat → List (S45) → List (S45) → Int → Option ((List (S45)))
 | 0, _, _, _ => none
 | k + 1, x0, x3, x4 => if x4 < (x0.length : Int) then (if 0 ≤ x4 then ((some (([] : List Int) : List Int)).bind fun y382 => (if y382.length + ((rd_T45 x0 x4).f4).length < 140737488355328 then (if x3.length < 1466015503701 then (bindleref08_Own.l0 k x0 (x3 ++ [(⟨(rd_T45 x0 x4).f0, (rd_T45 x0 x4).f1, (rd_T45 x0 x4).f2, (⟨(rd_T45 x0 x4).f3.f0, (rd_T45 x0 x4).f3.f1, (rd_T45 x0 x4).f3.f2, (rd_T45 x0 x4).f3.f3⟩ : S38), (y382 ++ ((rd_T45 x0 x4).f4))⟩ : S45)]) (wrap64 (x4 + 1))) else (none)) else (none))) else (none)) else (some x3)
def bindleref08_Own.f (k : Nat) (l0 : List (S45)) : Option ((List (S45))) := bindleref08_Own.l0 k l0 ([] : List (S45)) 0
set_option maxHeartbeats 8000000 in
set_option maxRecDepth 100000 in
theorem bindleref08_Own.calls (k : Nat) (A0 : Option Addr) (c0 : Nat) (l0 : List (S45)) (r : List (S45)) (w : World) (hr0 : Kd.C k45 w A0 l0.length l0) (hc0 : l0.length ≤ c0) (h : bindleref08_Own.f k l0 = some r) :
  Calls Tryd.prog 28 #[.slice A0 l0.length c0] w fun e w' => ∃ v0_ : Value, e = .returned (v0_) ∧ Kd.S k45 45 w' w.heap.size (fun _ => True) v0_ r ∧ Below w.heap.size w w' := by
 have hu45 := Tryd.underlying45
 have HR0 := A0_ hr0
 have HC0 := A0_ hc0
 clear hr0 hc0
 have HB := A0_ (Below.refl w.heap.size w)
 have H : (bindleref08_Own.l0 k l0 ([] : List (S45)) 0) = some r := h
 clear h
 have H' := A0_ H
 clear H
 go_enter Tryd.func28, Tryd.ntmps28
 go_wp2
 go_loopg [3, 4] k (fun kq v3 v4 w' => ∃ (x3_1 : List (S45)) (x4_1 : Int), v4 = .int .i64 x4_1 ∧ Aside0 (bindleref08_Own.l0 kq l0 x3_1 x4_1 = some r) ∧ Aside0 (kq ≤ k) ∧ Aside0 (Kd.S k45 45 w' w.heap.size (fun _ => True) v3 x3_1) ∧ Aside0 (Below w.heap.size w w'))
 case atStart => exact ⟨(([] : List (S45))), (0), wr_, H', ⟨Nat.le_refl _⟩, ⟨by first | exact Kd.S_nil _ _ _ _ _ | exact Kd.N_nil _ _ _ _ _ | exact Kd.V_nil _ _ _ _ _ | exact Kd.Q_nil _ _ _ _ _ | exact Kd.R_nil _ _ _ _ _⟩, ⟨wb_ HB.out⟩⟩
 case round =>
  clear H'
  obtain ⟨x3_1, x4_1, rfl, HA, HK1, HO_3, HB⟩ := hrel
  cases gk with
  | zero => exact absurd HA.out (by simp [bindleref08_Own.l0])
  | succ k1 =>
   have H := HA.out
   clear HA
   simp only [bindleref08_Own.l0] at H
   by_cases c2 : x4_1 < (l0.length : Int)
   rotate_left
   ·rw [if_neg c2] at H
    have c2b0 : decide (x4_1 < (l0.length : Int)) = false := decide_eq_false c2
    clear c2
    obtain rfl := Option.some.inj H
    go_wp2
    go_ret
    exact ⟨_, we_, wS_ HO_3.out, wb_ HB.out⟩
   rw [if_pos c2] at H
   have c2b0 : decide (x4_1 < (l0.length : Int)) = true := decide_eq_true c2
   clear c2
   by_cases c3 : 0 ≤ x4_1
   rotate_left
   ·rw [if_neg c3] at H
    exact absurd H (by simp)
   rw [if_pos c3] at H
   have c3b0 : decide (0 ≤ x4_1) = true := decide_eq_true c3
   clear c3
   obtain ⟨y382, hy382⟩ : ∃ y_ : List Int, y_ = (([] : List Int)) := ⟨_, rfl⟩
   replace H : (if y382.length + ((rd_T45 l0 x4_1).f4).length < 140737488355328 then (if x3_1.length < 1466015503701 then (bindleref08_Own.l0 k1 l0 (x3_1 ++ [(⟨(rd_T45 l0 x4_1).f0, (rd_T45 l0 x4_1).f1, (rd_T45 l0 x4_1).f2, (⟨(rd_T45 l0 x4_1).f3.f0, (rd_T45 l0 x4_1).f3.f1, (rd_T45 l0 x4_1).f3.f2, (rd_T45 l0 x4_1).f3.f3⟩ : S38), (y382 ++ ((rd_T45 l0 x4_1).f4))⟩ : S45)]) (wrap64 (x4_1 + 1))) else (none)) else (none)) = some r := by first | (rw [hy382]; with_reducible exact H) | (have H2_ := (Option.bind_some _ _).symm.trans H; rw [hy382]; with_reducible exact H2_) | (have H2_ := (Option.bind_some _ _).symm.trans H; with_reducible exact H2_) | with_reducible exact H | (rw [hy382]; exact H) | exact H
   have Ny382 := A0_ hy382
   clear hy382
   by_cases c4 : y382.length + ((rd_T45 l0 x4_1).f4).length < 140737488355328
   rotate_left
   ·rw [if_neg c4] at H
    exact absurd H (by simp)
   rw [if_pos c4] at H
   have LMc4 := A0_ c4
   clear c4
   obtain ⟨y385, hy385⟩ : ∃ y_ : List Int, y_ = (y382 ++ ((rd_T45 l0 x4_1).f4)) := ⟨_, rfl⟩
   replace H : (if x3_1.length < 1466015503701 then (bindleref08_Own.l0 k1 l0 (x3_1 ++ [(⟨(rd_T45 l0 x4_1).f0, (rd_T45 l0 x4_1).f1, (rd_T45 l0 x4_1).f2, (⟨(rd_T45 l0 x4_1).f3.f0, (rd_T45 l0 x4_1).f3.f1, (rd_T45 l0 x4_1).f3.f2, (rd_T45 l0 x4_1).f3.f3⟩ : S38), y385⟩ : S45)]) (wrap64 (x4_1 + 1))) else (none)) = some r := by first | (rw [hy385]; with_reducible exact H) | (have H2_ := (Option.bind_some _ _).symm.trans H; rw [hy385]; with_reducible exact H2_) | (have H2_ := (Option.bind_some _ _).symm.trans H; with_reducible exact H2_) | with_reducible exact H | (rw [hy385]; exact H) | exact H
   have Ny385 := A0_ hy385
   clear hy385
   by_cases c5 : x3_1.length < 1466015503701
   rotate_left
   ·rw [if_neg c5] at H
    exact absurd H (by simp)
   rw [if_pos c5] at H
   have LMc5 := A0_ c5
   clear c5
   obtain ⟨y388, hy388⟩ : ∃ y_ : List (S45), y_ = (x3_1 ++ [(⟨(rd_T45 l0 x4_1).f0, (rd_T45 l0 x4_1).f1, (rd_T45 l0 x4_1).f2, (⟨(rd_T45 l0 x4_1).f3.f0, (rd_T45 l0 x4_1).f3.f1, (rd_T45 l0 x4_1).f3.f2, (rd_T45 l0 x4_1).f3.f3⟩ : S38), y385⟩ : S45)]) := ⟨_, rfl⟩
   replace H : (bindleref08_Own.l0 k1 l0 y388 (wrap64 (x4_1 + 1))) = some r := by first | (rw [hy388]; with_reducible exact H) | (have H2_ := (Option.bind_some _ _).symm.trans H; rw [hy388]; with_reducible exact H2_) | (have H2_ := (Option.bind_some _ _).symm.trans H; with_reducible exact H2_) | with_reducible exact H | (rw [hy388]; exact H) | exact H
   have Ny388 := A0_ hy388
   clear hy388
   have H' := A0_ H
   clear H
   have p380 : 0 ≤ (x4_1 : Int) := wd_
   have q380 : x4_1 < (l0.length : Int) := wd_
   obtain ⟨ad380, A380_7, c380_7, e380, hx380_0, hx380_1, hx380_2, hx380_3, hx380_4, hx380_5, hx380_6, hx380_7, hl380_7, hi380_7⟩ := at_T45 HR0.out x4_1 p380 q380
   cases e380
   replace hx380_0 := (HB.out.cell (World.block_lt_of_cell? w _ hx380_0)).trans hx380_0
   replace hx380_1 := (HB.out.cell (World.block_lt_of_cell? w _ hx380_1)).trans hx380_1
   replace hx380_2 := (HB.out.cell (World.block_lt_of_cell? w _ hx380_2)).trans hx380_2
   replace hx380_3 := (HB.out.cell (World.block_lt_of_cell? w _ hx380_3)).trans hx380_3
   replace hx380_4 := (HB.out.cell (World.block_lt_of_cell? w _ hx380_4)).trans hx380_4
   replace hx380_5 := (HB.out.cell (World.block_lt_of_cell? w _ hx380_5)).trans hx380_5
   replace hx380_6 := (HB.out.cell (World.block_lt_of_cell? w _ hx380_6)).trans hx380_6
   replace hx380_7 := (HB.out.cell (World.block_lt_of_cell? w _ hx380_7)).trans hx380_7
   have HR380_7 := A0_ hi380_7
   have HC380_7 := A0_ hl380_7
   clear hi380_7 hl380_7
   replace p380 := eq_true p380
   replace q380 := eq_true q380
   go_wp2_with (first | ((with_reducible refine gate_dst (N := 5) rfl ?_); refine box_event ?hg (N := 5) ?hd (cs := #[.string (⟨#[]⟩ : ByteArray), .string (⟨#[]⟩ : ByteArray), .int .u8 0, .int .i64 0, .int .i64 0, .int .i64 0, .int .i64 0, .slice none 0 0]) (t := 45) ?hr ?_; (case hd => rfl); (case hg => rfl); (case hr => first | (go_simp; done) | (go_simp; rfl)); intro gb381 hg w6 hbox hb; have n0_ := A0_ (Sb_ (Kd.S_elderB (wS_ HO_3.out) gb381 (Nat.le_of_eq hg.symm)) hb); have n1_ := A0_ (below_step (wb_ HB.out) hb); have n2_ := A0_ (hbox); have n3_ := A0_ ((by rw [hg]; exact (below_size (wb_ HB.out)) : w.heap.size ≤ gb381)); have n4_ := A0_ ((by rw [hg]; exact (below_size (wb_ HB.out)) : w.heap.size ≤ gb381)); clear HO_3; clear HB; have HO_3 := n0_; have HB := n1_; have BK381 := n2_; have GW381 := n3_; have GE381 := n4_; clear n0_ n1_ n2_ n3_ n4_; clear hb hbox hg; have hcz7_0 : w6.cell? ⟨gb381, 0, none⟩ = some (.string (⟨#[]⟩ : ByteArray)) := (bc_ BK381.out 0).trans rfl; have hcz7_1 : w6.cell? ⟨gb381, 1, none⟩ = some (.string (⟨#[]⟩ : ByteArray)) := (bc_ BK381.out 1).trans rfl; have hcz7_2 : w6.cell? ⟨gb381, 2, none⟩ = some (.int .u8 0) := (bc_ BK381.out 2).trans rfl; have hcz7_3 : w6.cell? ⟨gb381, 3, none⟩ = some (.int .i64 0) := (bc_ BK381.out 3).trans rfl; have hcz7_4 : w6.cell? ⟨gb381, 4, none⟩ = some (.int .i64 0) := (bc_ BK381.out 4).trans rfl; have hcz7_5 : w6.cell? ⟨gb381, 5, none⟩ = some (.int .i64 0) := (bc_ BK381.out 5).trans rfl; have hcz7_6 : w6.cell? ⟨gb381, 6, none⟩ = some (.int .i64 0) := (bc_ BK381.out 6).trans rfl; have hcz7_7 : w6.cell? ⟨gb381, 7, none⟩ = some (.slice none 0 0) := (bc_ BK381.out 7).trans rfl; have hfz7_0 := bf_ BK381.out 0; have hfz7_1 := bf_ BK381.out 1; have hfz7_2 := bf_ BK381.out 2; have hfz7_3 := bf_ BK381.out 3; have hfz7_4 := bf_ BK381.out 4; have hfz7_5 := bf_ BK381.out 5; have hfz7_6 := bf_ BK381.out 6; have hfz7_7 := bf_ BK381.out 7) | ((with_reducible refine gate_dst (N := 16) rfl ?_); refine Kd.R_lit (Kd.int .u8) _ 5 ?hg (N := 16) ?hd (xs := ([] : List Int)) (inner := []) (ok := fun _ => True) (okp := fun _ => True) ?hr ?hp (fun _ hk => hk) trivial (Below.refl _ _) (Nat.le_refl _) (by simp) ?_; (case hd => rfl); (case hg => rfl); (case hr => first | (go_simp; done) | (go_simp; rfl)); (case hp => exact (Reps.none _ _)); intro v383 w8 ho9 hb hg_ hnew_; clear hg_ hnew_; (first | rw [← Ny382.out] at ho9 | (simp only [Int.reduceToNat] at ho9; rw [← Ny382.out] at ho9)); have n0_ := A0_ (Kd.S_elder' (by (with_reducible repeat (first | apply Sa_ | apply SN_ | apply S1_)); exact (Kd.S_mono (Kd.S_far (p := ⟨gb381, 7, none⟩) (Kd.S_far (p := ⟨gb381, 6, none⟩) (Kd.S_far (p := ⟨gb381, 5, none⟩) (Kd.S_far (p := ⟨gb381, 4, none⟩) (Kd.S_far (p := ⟨gb381, 3, none⟩) (Kd.S_far (p := ⟨gb381, 2, none⟩) (Kd.S_far (p := ⟨gb381, 1, none⟩) (Kd.S_far (p := ⟨gb381, 0, none⟩) (Kd.S_mono HO_3.out (fun k_ hk => (⟨hk, hk.2⟩ : _ ∧ k_ ≠ gb381))) (fun _ hk => hk.2) (.string ((rd_T45 l0 x4_1).f0))) (fun _ hk => hk.2) (.string ((rd_T45 l0 x4_1).f1))) (fun _ hk => hk.2) (.int .u8 ((rd_T45 l0 x4_1).f2))) (fun _ hk => hk.2) (.int .i64 ((rd_T45 l0 x4_1).f3.f0))) (fun _ hk => hk.2) (.int .i64 ((rd_T45 l0 x4_1).f3.f1))) (fun _ hk => hk.2) (.int .i64 ((rd_T45 l0 x4_1).f3.f2))) (fun _ hk => hk.2) (.int .i64 ((rd_T45 l0 x4_1).f3.f3))) (fun _ hk => hk.2) (.slice A380_7 ((rd_T45 l0 x4_1).f4).length c380_7)) (fun _ h_ => h_.1))) (Kd.R_base ho9) hb); have n1_ := A0_ (Kd.R_lower ho9 (below_size (wb1_ HB.out GE381.out))); have n2_ := A0_ (blk_below (g := gb381) (o := .cells #[.string ((rd_T45 l0 x4_1).f0), .string ((rd_T45 l0 x4_1).f1), .int .u8 ((rd_T45 l0 x4_1).f2), .int .i64 ((rd_T45 l0 x4_1).f3.f0), .int .i64 ((rd_T45 l0 x4_1).f3.f1), .int .i64 ((rd_T45 l0 x4_1).f3.f2), .int .i64 ((rd_T45 l0 x4_1).f3.f3), .slice A380_7 ((rd_T45 l0 x4_1).f4).length c380_7] 45 (0, 0)) (by (with_reducible repeat (first | refine blk_drewN ?_ _ | refine blk_drew ?_ | refine blk_alloc ?_ _)); refine blk_put (cs := #[.string ((rd_T45 l0 x4_1).f0), .string ((rd_T45 l0 x4_1).f1), .int .u8 ((rd_T45 l0 x4_1).f2), .int .i64 ((rd_T45 l0 x4_1).f3.f0), .int .i64 ((rd_T45 l0 x4_1).f3.f1), .int .i64 ((rd_T45 l0 x4_1).f3.f2), .int .i64 ((rd_T45 l0 x4_1).f3.f3), .slice none 0 0]) ?_ 7 _ rfl; (with_reducible repeat (first | refine blk_drewN ?_ _ | refine blk_drew ?_ | refine blk_alloc ?_ _)); refine blk_put (cs := #[.string ((rd_T45 l0 x4_1).f0), .string ((rd_T45 l0 x4_1).f1), .int .u8 ((rd_T45 l0 x4_1).f2), .int .i64 ((rd_T45 l0 x4_1).f3.f0), .int .i64 ((rd_T45 l0 x4_1).f3.f1), .int .i64 ((rd_T45 l0 x4_1).f3.f2), .int .i64 0, .slice none 0 0]) ?_ 6 _ rfl; (with_reducible repeat (first | refine blk_drewN ?_ _ | refine blk_drew ?_ | refine blk_alloc ?_ _)); refine blk_put (cs := #[.string ((rd_T45 l0 x4_1).f0), .string ((rd_T45 l0 x4_1).f1), .int .u8 ((rd_T45 l0 x4_1).f2), .int .i64 ((rd_T45 l0 x4_1).f3.f0), .int .i64 ((rd_T45 l0 x4_1).f3.f1), .int .i64 0, .int .i64 0, .slice none 0 0]) ?_ 5 _ rfl; (with_reducible repeat (first | refine blk_drewN ?_ _ | refine blk_drew ?_ | refine blk_alloc ?_ _)); refine blk_put (cs := #[.string ((rd_T45 l0 x4_1).f0), .string ((rd_T45 l0 x4_1).f1), .int .u8 ((rd_T45 l0 x4_1).f2), .int .i64 ((rd_T45 l0 x4_1).f3.f0), .int .i64 0, .int .i64 0, .int .i64 0, .slice none 0 0]) ?_ 4 _ rfl; (with_reducible repeat (first | refine blk_drewN ?_ _ | refine blk_drew ?_ | refine blk_alloc ?_ _)); refine blk_put (cs := #[.string ((rd_T45 l0 x4_1).f0), .string ((rd_T45 l0 x4_1).f1), .int .u8 ((rd_T45 l0 x4_1).f2), .int .i64 0, .int .i64 0, .int .i64 0, .int .i64 0, .slice none 0 0]) ?_ 3 _ rfl; (with_reducible repeat (first | refine blk_drewN ?_ _ | refine blk_drew ?_ | refine blk_alloc ?_ _)); refine blk_put (cs := #[.string ((rd_T45 l0 x4_1).f0), .string ((rd_T45 l0 x4_1).f1), .int .u8 0, .int .i64 0, .int .i64 0, .int .i64 0, .int .i64 0, .slice none 0 0]) ?_ 2 _ rfl; (with_reducible repeat (first | refine blk_drewN ?_ _ | refine blk_drew ?_ | refine blk_alloc ?_ _)); refine blk_put (cs := #[.string ((rd_T45 l0 x4_1).f0), .string (⟨#[]⟩ : ByteArray), .int .u8 0, .int .i64 0, .int .i64 0, .int .i64 0, .int .i64 0, .slice none 0 0]) ?_ 1 _ rfl; (with_reducible repeat (first | refine blk_drewN ?_ _ | refine blk_drew ?_ | refine blk_alloc ?_ _)); refine blk_put (cs := #[.string (⟨#[]⟩ : ByteArray), .string (⟨#[]⟩ : ByteArray), .int .u8 0, .int .i64 0, .int .i64 0, .int .i64 0, .int .i64 0, .slice none 0 0]) ?_ 0 _ rfl; (with_reducible repeat (first | refine blk_drewN ?_ _ | refine blk_drew ?_ | refine blk_alloc ?_ _)); exact BK381.out) hb); have n3_ := A0_ (below_step (wb1_ HB.out GE381.out) hb); clear HO_3; clear BK381; clear HB; have HO_3 := n0_; have HO384 := n1_; have BK381 := n2_; have HB := n3_; clear n0_ n1_ n2_ n3_; clear hb ho9; have hcz10_0 : w8.cell? ⟨gb381, 0, none⟩ = some (.string ((rd_T45 l0 x4_1).f0)) := (bc_ BK381.out 0).trans rfl; have hcz10_1 : w8.cell? ⟨gb381, 1, none⟩ = some (.string ((rd_T45 l0 x4_1).f1)) := (bc_ BK381.out 1).trans rfl; have hcz10_2 : w8.cell? ⟨gb381, 2, none⟩ = some (.int .u8 ((rd_T45 l0 x4_1).f2)) := (bc_ BK381.out 2).trans rfl; have hcz10_3 : w8.cell? ⟨gb381, 3, none⟩ = some (.int .i64 ((rd_T45 l0 x4_1).f3.f0)) := (bc_ BK381.out 3).trans rfl; have hcz10_4 : w8.cell? ⟨gb381, 4, none⟩ = some (.int .i64 ((rd_T45 l0 x4_1).f3.f1)) := (bc_ BK381.out 4).trans rfl; have hcz10_5 : w8.cell? ⟨gb381, 5, none⟩ = some (.int .i64 ((rd_T45 l0 x4_1).f3.f2)) := (bc_ BK381.out 5).trans rfl; have hcz10_6 : w8.cell? ⟨gb381, 6, none⟩ = some (.int .i64 ((rd_T45 l0 x4_1).f3.f3)) := (bc_ BK381.out 6).trans rfl; have hcz10_7 : w8.cell? ⟨gb381, 7, none⟩ = some (.slice A380_7 ((rd_T45 l0 x4_1).f4).length c380_7) := (bc_ BK381.out 7).trans rfl; have hfz10_0 := bf_ BK381.out 0; have hfz10_1 := bf_ BK381.out 1; have hfz10_2 := bf_ BK381.out 2; have hfz10_3 := bf_ BK381.out 3; have hfz10_4 := bf_ BK381.out 4; have hfz10_5 := bf_ BK381.out 5; have hfz10_6 := bf_ BK381.out 6; have hfz10_7 := bf_ BK381.out 7) | ((with_reducible refine gate_builtin (b := .append) (xs := #[.tmp 16, .tmp 18]) rfl ?_); at_builtin; refine Kd.R_append_rows (Kd.int .u8) (w0 := w) w.heap.size rfl (.tmp 16) (.tmp 18) 23 5 (.int .u8 0) 1 rfl Tryd.underlying23 info5 rfl (by decide) (by omega) v383 y382 ((rd_T45 l0 x4_1).f4) _ _ _ (fun _ => True) (fun _ => False) rfl rfl ?aO ?aR (fun _ _ h => h) (fun _ h => h.elim) ?aF ?aB ?aS ?aL ?_; (case aR => exact wc_ (Kd.C_below HR380_7.out HB.out)); (case aB => exact (wb1_ HB.out GE381.out)); (case aF => exact (fun _ _ => trivial)); (case aO => exact (wR_ HO384.out)); (case aS => exact (below_size (wb1_ HB.out GE381.out))); (case aL => have := LMc4.out; omega); intro v386 w11 ho hb hg hat; rw [← Ny385.out] at ho; have n0_ := A0_ (Kd.S_after (ok := (fun k_ => k_ ≠ gb381)) (by (with_reducible repeat (first | apply Sa_ | apply SN_ | apply S1_)); exact Kd.S_mono HO_3.out (fun _ hk => ⟨hk.1.2, hk.2⟩)) hg hat); have n1_ := A0_ (blk_grown (g := gb381) (o := .cells #[.string ((rd_T45 l0 x4_1).f0), .string ((rd_T45 l0 x4_1).f1), .int .u8 ((rd_T45 l0 x4_1).f2), .int .i64 ((rd_T45 l0 x4_1).f3.f0), .int .i64 ((rd_T45 l0 x4_1).f3.f1), .int .i64 ((rd_T45 l0 x4_1).f3.f2), .int .i64 ((rd_T45 l0 x4_1).f3.f3), .slice A380_7 ((rd_T45 l0 x4_1).f4).length c380_7] 45 (0, 0)) (wB_ BK381.out) hg (Kd.R_ne HO384.out BK381.out (by decide))); have n2_ := A0_ (hb); have n3_ := A0_ (ho); clear HO_3; clear BK381; clear HB; clear HO384; have HO_3 := n0_; have BK381 := n1_; have HB := n2_; have HO387 := n3_; clear n0_ n1_ n2_ n3_; clear ho hb hg hat; obtain ⟨Ao12, co12, eo12⟩ := Kd.R_slice HO387.out; subst eo12; have hcz13_0 : w11.cell? ⟨gb381, 0, none⟩ = some (.string ((rd_T45 l0 x4_1).f0)) := (bc_ BK381.out 0).trans rfl; have hcz13_1 : w11.cell? ⟨gb381, 1, none⟩ = some (.string ((rd_T45 l0 x4_1).f1)) := (bc_ BK381.out 1).trans rfl; have hcz13_2 : w11.cell? ⟨gb381, 2, none⟩ = some (.int .u8 ((rd_T45 l0 x4_1).f2)) := (bc_ BK381.out 2).trans rfl; have hcz13_3 : w11.cell? ⟨gb381, 3, none⟩ = some (.int .i64 ((rd_T45 l0 x4_1).f3.f0)) := (bc_ BK381.out 3).trans rfl; have hcz13_4 : w11.cell? ⟨gb381, 4, none⟩ = some (.int .i64 ((rd_T45 l0 x4_1).f3.f1)) := (bc_ BK381.out 4).trans rfl; have hcz13_5 : w11.cell? ⟨gb381, 5, none⟩ = some (.int .i64 ((rd_T45 l0 x4_1).f3.f2)) := (bc_ BK381.out 5).trans rfl; have hcz13_6 : w11.cell? ⟨gb381, 6, none⟩ = some (.int .i64 ((rd_T45 l0 x4_1).f3.f3)) := (bc_ BK381.out 6).trans rfl; have hcz13_7 : w11.cell? ⟨gb381, 7, none⟩ = some (.slice A380_7 ((rd_T45 l0 x4_1).f4).length c380_7) := (bc_ BK381.out 7).trans rfl; have hfz13_0 := bf_ BK381.out 0; have hfz13_1 := bf_ BK381.out 1; have hfz13_2 := bf_ BK381.out 2; have hfz13_3 := bf_ BK381.out 3; have hfz13_4 := bf_ BK381.out 4; have hfz13_5 := bf_ BK381.out 5; have hfz13_6 := bf_ BK381.out 6; have hfz13_7 := bf_ BK381.out 7) | ((with_reducible refine gate_store (t := 23) (p := 20) rfl ?_); refine store_event (t := 23) (p := 20) (v := ?vo_w14) (w1 := (w11.setCell ⟨gb381, 7, none⟩ (.slice Ao12 y385.length co12))) ?hg ?ho ?hn ?hr ?_; (case ho => rfl); (case hg => rfl); (case hn => rfl); (case hr => first | (go_simp; done) | (go_simp; rfl)); intro w14 hw; have n0_ : Aside0 (Kd.S k45 45 w14 w.heap.size (fun k_ => some k_ ≠ (.slice Ao12 y385.length co12 : Value).ownBlock ∧ k_ ≠ gb381) u3 x3_1) := ⟨(by rw [hw]; exact (by (with_reducible repeat (first | apply Sa_ | apply SN_ | apply S1_)); exact Kd.S_mono (Kd.S_far (p := ⟨gb381, 7, none⟩) (Kd.S_mono HO_3.out (fun k_ hk => (⟨hk, hk.1⟩ : _ ∧ k_ ≠ gb381))) (fun _ hk => hk.2) (.slice Ao12 y385.length co12)) (fun _ hk => ⟨hk.1.2, hk.1.1⟩)))⟩; have n1_ : Aside0 (Kd.R (Kd.int .u8) 5 w14 w.heap.size (fun _ => True) (.slice Ao12 y385.length co12) y385) := ⟨(by rw [hw]; exact (by (with_reducible repeat (first | apply Ra_ | apply RN_ | apply R1_)); exact Kd.R_mono (Kd.R_far (p := ⟨gb381, 7, none⟩) (Kd.R_types HO387.out BK381.out (by decide)) (fun _ hk => hk.2) (.slice Ao12 y385.length co12)) (fun _ hk => trivial)))⟩; have n2_ : Aside0 (w14.heap[gb381]? = some (.cells #[.string ((rd_T45 l0 x4_1).f0), .string ((rd_T45 l0 x4_1).f1), .int .u8 ((rd_T45 l0 x4_1).f2), .int .i64 ((rd_T45 l0 x4_1).f3.f0), .int .i64 ((rd_T45 l0 x4_1).f3.f1), .int .i64 ((rd_T45 l0 x4_1).f3.f2), .int .i64 ((rd_T45 l0 x4_1).f3.f3), .slice Ao12 y385.length co12] 45 (0, 0))) := ⟨(by rw [hw]; exact (by (with_reducible repeat (first | refine blk_drewN ?_ _ | refine blk_drew ?_ | refine blk_alloc ?_ _)); refine blk_put (cs := #[.string ((rd_T45 l0 x4_1).f0), .string ((rd_T45 l0 x4_1).f1), .int .u8 ((rd_T45 l0 x4_1).f2), .int .i64 ((rd_T45 l0 x4_1).f3.f0), .int .i64 ((rd_T45 l0 x4_1).f3.f1), .int .i64 ((rd_T45 l0 x4_1).f3.f2), .int .i64 ((rd_T45 l0 x4_1).f3.f3), .slice A380_7 ((rd_T45 l0 x4_1).f4).length c380_7]) ?_ 7 _ rfl; (with_reducible repeat (first | refine blk_drewN ?_ _ | refine blk_drew ?_ | refine blk_alloc ?_ _)); exact BK381.out))⟩; have n3_ : Aside0 (Below w.heap.size w w14) := ⟨(by rw [hw]; exact (wb1_ HB.out GE381.out))⟩; clear hw; clear HO_3; clear HO387; clear BK381; clear HB; have HO_3 := n0_; have HO387 := n1_; have BK381 := n2_; have HB := n3_; clear n0_ n1_ n2_ n3_; have hcz15_0 : w14.cell? ⟨gb381, 0, none⟩ = some (.string ((rd_T45 l0 x4_1).f0)) := (bc_ BK381.out 0).trans rfl; have hcz15_1 : w14.cell? ⟨gb381, 1, none⟩ = some (.string ((rd_T45 l0 x4_1).f1)) := (bc_ BK381.out 1).trans rfl; have hcz15_2 : w14.cell? ⟨gb381, 2, none⟩ = some (.int .u8 ((rd_T45 l0 x4_1).f2)) := (bc_ BK381.out 2).trans rfl; have hcz15_3 : w14.cell? ⟨gb381, 3, none⟩ = some (.int .i64 ((rd_T45 l0 x4_1).f3.f0)) := (bc_ BK381.out 3).trans rfl; have hcz15_4 : w14.cell? ⟨gb381, 4, none⟩ = some (.int .i64 ((rd_T45 l0 x4_1).f3.f1)) := (bc_ BK381.out 4).trans rfl; have hcz15_5 : w14.cell? ⟨gb381, 5, none⟩ = some (.int .i64 ((rd_T45 l0 x4_1).f3.f2)) := (bc_ BK381.out 5).trans rfl; have hcz15_6 : w14.cell? ⟨gb381, 6, none⟩ = some (.int .i64 ((rd_T45 l0 x4_1).f3.f3)) := (bc_ BK381.out 6).trans rfl; have hcz15_7 : w14.cell? ⟨gb381, 7, none⟩ = some (.slice Ao12 y385.length co12) := (bc_ BK381.out 7).trans rfl; have hfz15_0 := bf_ BK381.out 0; have hfz15_1 := bf_ BK381.out 1; have hfz15_2 := bf_ BK381.out 2; have hfz15_3 := bf_ BK381.out 3; have hfz15_4 := bf_ BK381.out 4; have hfz15_5 := bf_ BK381.out 5; have hfz15_6 := bf_ BK381.out 6; have hfz15_7 := bf_ BK381.out 7) | ((with_reducible refine gate_builtin (b := .append) (xs := #[.tmp 21, .tmp 23]) rfl ?_); at_builtin; refine Kd.S_append k45 (w0 := w) w.heap.size rfl (.tmp 21) (.tmp 23) 28 45 (.agg #[(.string ⟨#[]⟩), (.string ⟨#[]⟩), (.int .u8 0), (.int .i64 0), (.int .i64 0), (.int .i64 0), (.int .i64 0), (.slice none 0 0)]) 96 rfl Tryd.underlying28 info45 rfl (by decide) (by omega) u3 x3_1 (⟨(rd_T45 l0 x4_1).f0, (rd_T45 l0 x4_1).f1, (rd_T45 l0 x4_1).f2, (⟨(rd_T45 l0 x4_1).f3.f0, (rd_T45 l0 x4_1).f3.f1, (rd_T45 l0 x4_1).f3.f2, (rd_T45 l0 x4_1).f3.f3⟩ : S38), y385⟩ : S45) [.string ((rd_T45 l0 x4_1).f0), .string ((rd_T45 l0 x4_1).f1), .int .u8 ((rd_T45 l0 x4_1).f2), .int .i64 ((rd_T45 l0 x4_1).f3.f0), .int .i64 ((rd_T45 l0 x4_1).f3.f1), .int .i64 ((rd_T45 l0 x4_1).f3.f2), .int .i64 ((rd_T45 l0 x4_1).f3.f3), .slice Ao12 y385.length co12] (fun k_ => k_ ≠ gb381) (fun k_ => some k_ = (.slice Ao12 y385.length co12 : Value).ownBlock) rfl rfl ?aP (fun k_ hk_ => ((Kd.R_mono (ok' := fun k_ => ((fun k_ => k_ ≠ gb381)) k_ ∧ some k_ ≠ (u3 : Value).ownBlock) (Kd.R_types (Kd.R_apart' (HO387.out) (Kd.S_typed HO_3.out) (by decide)) BK381.out (by decide)) (fun k_ hk => ⟨hk.2, hk.1.2⟩))).1 k_ hk_.symm) ?aF ?aO ?aB ?aS ?aL ?_; (case aP => exact k45_mkM _ _ _ (⟨(rd_T45 l0 x4_1).f0, (rd_T45 l0 x4_1).f1, (rd_T45 l0 x4_1).f2, (⟨(rd_T45 l0 x4_1).f3.f0, (rd_T45 l0 x4_1).f3.f1, (rd_T45 l0 x4_1).f3.f2, (rd_T45 l0 x4_1).f3.f3⟩ : S38), y385⟩ : S45) (Kd.R_mono (Kd.R_tight rfl (Kd.R_mono (ok' := fun k_ => ((fun k_ => k_ ≠ gb381)) k_ ∧ some k_ ≠ (u3 : Value).ownBlock) (Kd.R_types (Kd.R_apart' (HO387.out) (Kd.S_typed HO_3.out) (by decide)) BK381.out (by decide)) (fun k_ hk => ⟨hk.2, hk.1.2⟩))) (fun _ h_ => h_))); (case aB => exact (wb1_ HB.out GE381.out)); (case aF => exact (fun k_ hk => Kd.freshB (g := gb381) (o := .cells #[.string ((rd_T45 l0 x4_1).f0), .string ((rd_T45 l0 x4_1).f1), .int .u8 ((rd_T45 l0 x4_1).f2), .int .i64 ((rd_T45 l0 x4_1).f3.f0), .int .i64 ((rd_T45 l0 x4_1).f3.f1), .int .i64 ((rd_T45 l0 x4_1).f3.f2), .int .i64 ((rd_T45 l0 x4_1).f3.f3), .slice Ao12 y385.length co12] 45 (0, 0)) (wB_ BK381.out) k_ hk)); (case aO => exact (by (with_reducible repeat (first | apply Sa_ | apply SN_ | apply S1_)); exact Kd.S_mono HO_3.out (fun k_ hk => ⟨hk.2, fun e_ => hk.1 e_⟩))); (case aS => exact (below_size (wb1_ HB.out GE381.out))); (case aL => have := LMc5.out; omega); intro v389 w16 ho hb hg hat; rw [← Ny388.out] at ho; have n0_ := A0_ (blk_grown (g := gb381) (o := .cells #[.string ((rd_T45 l0 x4_1).f0), .string ((rd_T45 l0 x4_1).f1), .int .u8 ((rd_T45 l0 x4_1).f2), .int .i64 ((rd_T45 l0 x4_1).f3.f0), .int .i64 ((rd_T45 l0 x4_1).f3.f1), .int .i64 ((rd_T45 l0 x4_1).f3.f2), .int .i64 ((rd_T45 l0 x4_1).f3.f3), .slice Ao12 y385.length co12] 45 (0, 0)) (wB_ BK381.out) hg (Kd.S_away HO_3.out (fun _ hk => hk.2))); have n1_ := A0_ (hb); have n2_ := A0_ (ho); clear BK381; clear HB; clear HO_3; clear HO387; have BK381 := n0_; have HB := n1_; have HO390 := n2_; clear n0_ n1_ n2_; clear ho hb hg hat))
   go_roundg k1
   case measure => have := HK1.out; omega
   case rel => exact ⟨(y388), (wrap64 (x4_1 + 1)), wr_, H', ⟨by have := HK1.out; omega⟩, ⟨by (with_reducible repeat (first | apply Sa_ | apply SN_ | apply S1_)); exact Kd.S_mono HO390.out (fun _ hk => trivial)⟩, ⟨wb1_ HB.out GE381.out⟩⟩
end Go.Proofs.YtfljbidecljlcaaDoor.Print

namespace Go.Proofs.YtfljbidecljlcaaDoor.Print
open Go.RowKit Go.Proofs.YtfljbidecljlcaaDoorW.PrintWords Go.Proofs.YtfljbidecljlcaaDoorW.PrintLast Go.Proofs.YtfljbidecljlcaaDoorW.PrintMore
attribute [local go_sem] max2_int min2_int max_two min_two max_three min_three max_four min_four   -- for this text's walks alone
set_option linter.unusedVariables false
set_option linter.unusedSimpArgs false
attribute [local go_sem high] eqA49
def bindlelaw10_TreeFolds.f (k : Nat) (l0 : List (S45)) : Option (Bool) := (bindlelaw10_light.f k l0).bind fun t398 => (if t398 = true then ((bindleref08_Own.f k l0).bind fun t400 => ((tree_Fold.f t400).bind fun bt403 => ((bindleref08_Fold.f l0).bind fun bt409 => ((bindlelaw10_answers.f).bind fun t415 => (if t415 = true then (if (bt403.2.1 == bt409.2.1 && (bt403.2.2 == bt409.2.2)) = true then ((bindleref08_SameTree.f k bt403.1 bt409.1).bind fun t416 => (if t416 = true then (if bt403.2.1 = 0 then ((tree_Good.f bt403.1).bind fun t417 => (some t417)) else (some true)) else (some false))) else (some false)) else (some false)))))) else ((bindlelaw10_answers.f).bind fun t399 => (some t399)))
set_option maxHeartbeats 8000000 in
set_option maxRecDepth 100000 in
theorem bindlelaw10_TreeFolds.calls (k : Nat) (A0 : Option Addr) (c0 : Nat) (l0 : List (S45)) (r : Bool) (w : World) (hT : Aside0 (Tabs w)) (hr0 : Kd.C k45 w A0 l0.length l0) (hc0 : l0.length ≤ c0) (h : bindlelaw10_TreeFolds.f k l0 = some r) :
  Calls Tryd.prog 8 #[.slice A0 l0.length c0] w fun e w' => e = .returned (.bool r) ∧ Below w.heap.size w w' := by
 have hu49 := Tryd.underlying49
 have HR0 := A0_ hr0
 have HC0 := A0_ hc0
 clear hr0 hc0
 have HB := A0_ (Below.refl w.heap.size w)
 have H : ((bindlelaw10_light.f k l0).bind fun t398 => (if t398 = true then ((bindleref08_Own.f k l0).bind fun t400 => ((tree_Fold.f t400).bind fun bt403 => ((bindleref08_Fold.f l0).bind fun bt409 => ((bindlelaw10_answers.f).bind fun t415 => (if t415 = true then (if (bt403.2.1 == bt409.2.1 && (bt403.2.2 == bt409.2.2)) = true then ((bindleref08_SameTree.f k bt403.1 bt409.1).bind fun t416 => (if t416 = true then (if bt403.2.1 = 0 then ((tree_Good.f bt403.1).bind fun t417 => (some t417)) else (some true)) else (some false))) else (some false)) else (some false)))))) else ((bindlelaw10_answers.f).bind fun t399 => (some t399)))) = some r := h
 clear h
 replace H := Option.bind_eq_some_iff.mp H
 obtain ⟨t398, A20, H⟩ := H
 replace H : (if t398 = true then ((bindleref08_Own.f k l0).bind fun t400 => ((tree_Fold.f t400).bind fun bt403 => ((bindleref08_Fold.f l0).bind fun bt409 => ((bindlelaw10_answers.f).bind fun t415 => (if t415 = true then (if (bt403.2.1 == bt409.2.1 && (bt403.2.2 == bt409.2.2)) = true then ((bindleref08_SameTree.f k bt403.1 bt409.1).bind fun t416 => (if t416 = true then (if bt403.2.1 = 0 then ((tree_Good.f bt403.1).bind fun t417 => (some t417)) else (some true)) else (some false))) else (some false)) else (some false)))))) else ((bindlelaw10_answers.f).bind fun t399 => (some t399))) = some r := H
 have A2 := A0_ A20
 clear A20
 by_cases c3 : t398 = true
 rotate_left
 ·replace c3 := Bool.eq_false_iff.mpr c3
  subst c3
  have H1 : ((bindlelaw10_answers.f).bind fun t399 => (some t399)) = some r := by rw [if_neg (show ¬ (false = true) by decide)] at H; exact H
  clear H
  have H := H1
  clear H1
  replace H := Option.bind_eq_some_iff.mp H
  obtain ⟨t399, A840, H⟩ := H
  replace H : (some t399) = some r := H
  have A84 := A0_ A840
  clear A840
  obtain rfl := Option.some.inj H
  go_enter Tryd.func8, Tryd.ntmps8
  go_wp2_with (first | ((with_reducible refine gate_callee (f := 25) rfl ?_); refine goesL_ (some 8) rfl rfl Tryd.func25 (by kernel_rfl) rfl #[.slice A0 l0.length c0] rfl wm_ ?_; (with_reducible refine (bindlelaw10_light.calls k _ _ l0 false _ ?side1 ?side2 A2.out).mono ?_); (case side1 => exact wc_ HR0.out); (case side2 => exact HC0.out); rintro e w' ⟨rfl, ⟨nd, rfl⟩⟩; refine ⟨_, rfl, ?_⟩) | ((with_reducible refine gate_callee (f := 26) rfl ?_); refine goesL_ (some 10) rfl rfl Tryd.func26 (by kernel_rfl) rfl #[] rfl wm_ ?_; (with_reducible refine (bindlelaw10_answers.calls  t399 _ ?side1 A84.out).mono ?_); (case side1 => exact A0_ (Tabs.below hT.out (wb_ HB.out))); rintro e w85 ⟨rfl, hb⟩; refine ⟨_, rfl, ?_⟩; have n0_ := A0_ (below_step (wb_ HB.out) hb); clear HB; have HB := n0_; clear n0_; (try clear hb); (try clear hb2); (try clear hk); (try clear hi)))
  go_ret
  exact ⟨we_, wb_ HB.out⟩
 subst c3
 have H1 : ((bindleref08_Own.f k l0).bind fun t400 => ((tree_Fold.f t400).bind fun bt403 => ((bindleref08_Fold.f l0).bind fun bt409 => ((bindlelaw10_answers.f).bind fun t415 => (if t415 = true then (if (bt403.2.1 == bt409.2.1 && (bt403.2.2 == bt409.2.2)) = true then ((bindleref08_SameTree.f k bt403.1 bt409.1).bind fun t416 => (if t416 = true then (if bt403.2.1 = 0 then ((tree_Good.f bt403.1).bind fun t417 => (some t417)) else (some true)) else (some false))) else (some false)) else (some false)))))) = some r := by rw [if_pos rfl] at H; exact H
 clear H
 have H := H1
 clear H1
 replace H := Option.bind_eq_some_iff.mp H
 obtain ⟨t400, A40, H⟩ := H
 replace H : ((tree_Fold.f t400).bind fun bt403 => ((bindleref08_Fold.f l0).bind fun bt409 => ((bindlelaw10_answers.f).bind fun t415 => (if t415 = true then (if (bt403.2.1 == bt409.2.1 && (bt403.2.2 == bt409.2.2)) = true then ((bindleref08_SameTree.f k bt403.1 bt409.1).bind fun t416 => (if t416 = true then (if bt403.2.1 = 0 then ((tree_Good.f bt403.1).bind fun t417 => (some t417)) else (some true)) else (some false))) else (some false)) else (some false))))) = some r := H
 have A4 := A0_ A40
 clear A40
 replace H := Option.bind_eq_some_iff.mp H
 obtain ⟨⟨t403, t406, t407⟩, A50, H⟩ := H
 replace H : ((bindleref08_Fold.f l0).bind fun bt409 => ((bindlelaw10_answers.f).bind fun t415 => (if t415 = true then (if (t406 == bt409.2.1 && (t407 == bt409.2.2)) = true then ((bindleref08_SameTree.f k t403 bt409.1).bind fun t416 => (if t416 = true then (if t406 = 0 then ((tree_Good.f t403).bind fun t417 => (some t417)) else (some true)) else (some false))) else (some false)) else (some false)))) = some r := H
 have A5 := A0_ A50
 clear A50
 replace H := Option.bind_eq_some_iff.mp H
 obtain ⟨⟨t409, t412, t413⟩, A60, H⟩ := H
 replace H : ((bindlelaw10_answers.f).bind fun t415 => (if t415 = true then (if (t406 == t412 && (t407 == t413)) = true then ((bindleref08_SameTree.f k t403 t409).bind fun t416 => (if t416 = true then (if t406 = 0 then ((tree_Good.f t403).bind fun t417 => (some t417)) else (some true)) else (some false))) else (some false)) else (some false))) = some r := H
 have A6 := A0_ A60
 clear A60
 replace H := Option.bind_eq_some_iff.mp H
 obtain ⟨t415, A70, H⟩ := H
 replace H : (if t415 = true then (if (t406 == t412 && (t407 == t413)) = true then ((bindleref08_SameTree.f k t403 t409).bind fun t416 => (if t416 = true then (if t406 = 0 then ((tree_Good.f t403).bind fun t417 => (some t417)) else (some true)) else (some false))) else (some false)) else (some false)) = some r := H
 have A7 := A0_ A70
 clear A70
 by_cases c8 : t415 = true
 rotate_left
 ·replace c8 := Bool.eq_false_iff.mpr c8
  subst c8
  have H1 : (some false) = some r := by rw [if_neg (show ¬ (false = true) by decide)] at H; exact H
  clear H
  have H := H1
  clear H1
  obtain rfl := Option.some.inj H
  go_enter Tryd.func8, Tryd.ntmps8
  go_wp2_with (first | ((with_reducible refine gate_callee (f := 25) rfl ?_); refine goesL_ (some 8) rfl rfl Tryd.func25 (by kernel_rfl) rfl #[.slice A0 l0.length c0] rfl wm_ ?_; (with_reducible refine (bindlelaw10_light.calls k _ _ l0 true _ ?side1 ?side2 A2.out).mono ?_); (case side1 => exact wc_ HR0.out); (case side2 => exact HC0.out); rintro e w' ⟨rfl, ⟨nd, rfl⟩⟩; refine ⟨_, rfl, ?_⟩) | ((with_reducible refine gate_callee (f := 28) rfl ?_); refine goesL_ (some 13) rfl rfl Tryd.func28 (by kernel_rfl) rfl #[.slice A0 l0.length c0] rfl wm_ ?_; (with_reducible refine (bindleref08_Own.calls k _ _ l0 t400 _ ?side1 ?side2 A4.out).mono ?_); (case side1 => exact wc_ HR0.out); (case side2 => exact HC0.out); rintro e w74 ⟨v401, rfl, ho0, hb⟩; refine ⟨_, rfl, ?_⟩; have n0_ := A0_ (Kd.S_lower ho0 (below_size (wb_ HB.out))); have n1_ := A0_ (below_step (wb_ HB.out) hb); clear HB; have HO402 := n0_; have HB := n1_; clear n0_ n1_; (try clear hb); (try clear hb2); (try clear hk); (try clear hi); (try clear ho0); obtain ⟨Ao75, co75, eo75⟩ := Kd.S_slice HO402.out; subst eo75) | ((with_reducible refine gate_callee (f := 27) rfl ?_); refine goesL_ (some 14) rfl rfl Tryd.func27 (by kernel_rfl) rfl #[.slice Ao75 t400.length co75] rfl wm_ ?_; (with_reducible refine (tree_Fold.calls _ _ t400 t403 t406 t407 _ ?side1 ?side2 ?side3 A5.out).mono ?_); (case side1 => exact A0_ (Tabs.below hT.out (wb_ HB.out))); (case side2 => exact wc_ (Kd.S_reads' HO402.out).2.2); (case side3 => exact (Kd.S_reads' HO402.out).2.1); rintro e w76 ⟨v404, rfl, ho0, hb⟩; refine ⟨_, rfl, ?_⟩; have n0_ := A0_ (Sb_ (wS_ HO402.out) hb); have n1_ := A0_ (Kd.V_lower (Kd.V_mono (ok' := fun k_ => some k_ ≠ (.slice Ao75 t400.length co75 : Value).ownBlock) ho0 (fun k_ hk_ => (Kd.fresh' (Kd.S_lt (wS_ HO402.out)) k_ hk_))) (below_size (wb_ HB.out))); have n2_ := A0_ (below_step (wb_ HB.out) hb); clear HO402; clear HB; have HO402 := n0_; have HO405 := n1_; have HB := n2_; clear n0_ n1_ n2_; (try clear hb); (try clear hb2); (try clear hk); (try clear hi); (try clear ho0)) | ((with_reducible refine gate_dst (N := 4) rfl ?_); refine box_event ?hg (N := 4) ?hd (cs := #[.int .i64 0, .int .i64 0]) (t := 49) ?hr ?_; (case hd => rfl); (case hg => rfl); (case hr => first | (go_simp; done) | (go_simp; rfl)); intro gb408 hg w77 hbox hb; have n0_ := A0_ (Sb_ (wS_ HO402.out) hb); have n1_ := A0_ (Vb_ (Kd.V_elderB (wV_ HO405.out) gb408 (Nat.le_of_eq hg.symm)) hb); have n2_ := A0_ (below_step (wb_ HB.out) hb); have n3_ := A0_ (hbox); have n4_ := A0_ ((by rw [hg]; exact (below_size (wb_ HB.out)) : w.heap.size ≤ gb408)); have n5_ := A0_ ((by rw [hg]; exact (below_size (wb_ HB.out)) : w.heap.size ≤ gb408)); clear HO402; clear HO405; clear HB; have HO402 := n0_; have HO405 := n1_; have HB := n2_; have BK408 := n3_; have GW408 := n4_; have GE408 := n5_; clear n0_ n1_ n2_ n3_ n4_ n5_; clear hb hbox hg; have hcz78_0 : w77.cell? ⟨gb408, 0, none⟩ = some (.int .i64 0) := (bc_ BK408.out 0).trans rfl; have hcz78_1 : w77.cell? ⟨gb408, 1, none⟩ = some (.int .i64 0) := (bc_ BK408.out 1).trans rfl; have hfz78_0 := bf_ BK408.out 0; have hfz78_1 := bf_ BK408.out 1) | ((with_reducible refine gate_callee (f := 29) rfl ?_); refine goesL_ (some 19) rfl rfl Tryd.func29 (by kernel_rfl) rfl #[.slice A0 l0.length c0] rfl wm_ ?_; (with_reducible refine (bindleref08_Fold.calls _ _ l0 t409 t412 t413 _ ?side1 ?side2 A6.out).mono ?_); (case side1 => exact Kd.C_below HR0.out (wb1_ HB.out GE408.out)); (case side2 => exact HC0.out); rintro e w79 ⟨v410, rfl, ho0, hb⟩; refine ⟨_, rfl, ?_⟩; have n0_ := A0_ (Sb_ (by (with_reducible repeat (first | apply Sa_ | apply SN_ | apply S1_)); exact (Kd.S_mono (Kd.S_far (p := ⟨gb408, 1, none⟩) (Kd.S_far (p := ⟨gb408, 0, none⟩) (Kd.S_types HO402.out BK408.out (by decide)) (fun _ hk => hk.2) (.int .i64 t406)) (fun _ hk => hk.2) (.int .i64 t407)) (fun _ h_ => h_.1))) hb); have n1_ := A0_ (Vb_ (by (with_reducible repeat (first | apply Va_ | apply VN_ | apply V1_)); exact (Kd.V_mono (Kd.V_far (p := ⟨gb408, 1, none⟩) (Kd.V_far (p := ⟨gb408, 0, none⟩) (Kd.V_mono HO405.out (fun k_ hk => (⟨hk, hk.2⟩ : _ ∧ k_ ≠ gb408))) (fun _ hk => hk.2) (.int .i64 t406)) (fun _ hk => hk.2) (.int .i64 t407)) (fun _ h_ => h_.1))) hb); have n2_ := A0_ (Kd.V_lower (Kd.V_mono (ok' := fun k_ => some k_ ≠ (.slice Ao75 t400.length co75 : Value).ownBlock ∧ k_ ≠ gb408) ho0 (fun k_ hk_ => ⟨(Kd.fresh' (Kd.S_lt (by (with_reducible repeat (first | apply Sa_ | apply SN_ | apply S1_)); exact (Kd.S_mono (Kd.S_far (p := ⟨gb408, 1, none⟩) (Kd.S_far (p := ⟨gb408, 0, none⟩) (Kd.S_types HO402.out BK408.out (by decide)) (fun _ hk => hk.2) (.int .i64 t406)) (fun _ hk => hk.2) (.int .i64 t407)) (fun _ h_ => h_.1)))) k_ hk_), (Kd.freshB (g := gb408) (o := .cells #[.int .i64 t406, .int .i64 t407] 49 (0, 0)) (by (with_reducible repeat (first | refine blk_drewN ?_ _ | refine blk_drew ?_ | refine blk_alloc ?_ _)); refine blk_put (cs := #[.int .i64 t406, .int .i64 0]) ?_ 1 _ rfl; (with_reducible repeat (first | refine blk_drewN ?_ _ | refine blk_drew ?_ | refine blk_alloc ?_ _)); refine blk_put (cs := #[.int .i64 0, .int .i64 0]) ?_ 0 _ rfl; (with_reducible repeat (first | refine blk_drewN ?_ _ | refine blk_drew ?_ | refine blk_alloc ?_ _)); exact BK408.out) k_ hk_)⟩)) (below_size (wb1_ HB.out GE408.out))); have n3_ := A0_ (blk_below (g := gb408) (o := .cells #[.int .i64 t406, .int .i64 t407] 49 (0, 0)) (by (with_reducible repeat (first | refine blk_drewN ?_ _ | refine blk_drew ?_ | refine blk_alloc ?_ _)); refine blk_put (cs := #[.int .i64 t406, .int .i64 0]) ?_ 1 _ rfl; (with_reducible repeat (first | refine blk_drewN ?_ _ | refine blk_drew ?_ | refine blk_alloc ?_ _)); refine blk_put (cs := #[.int .i64 0, .int .i64 0]) ?_ 0 _ rfl; (with_reducible repeat (first | refine blk_drewN ?_ _ | refine blk_drew ?_ | refine blk_alloc ?_ _)); exact BK408.out) hb); have n4_ := A0_ (below_step (wb1_ HB.out GE408.out) hb); clear HO402; clear HO405; clear BK408; clear HB; have HO402 := n0_; have HO405 := n1_; have HO411 := n2_; have BK408 := n3_; have HB := n4_; clear n0_ n1_ n2_ n3_ n4_; (try clear hb); (try clear hb2); (try clear hk); (try clear hi); (try clear ho0)) | ((with_reducible refine gate_dst (N := 6) rfl ?_); refine box_event ?hg (N := 6) ?hd (cs := #[.int .i64 0, .int .i64 0]) (t := 49) ?hr ?_; (case hd => rfl); (case hg => rfl); (case hr => first | (go_simp; done) | (go_simp; rfl)); intro gb414 hg w80 hbox hb; have n0_ := A0_ (Sb_ (wS_ HO402.out) hb); have n1_ := A0_ (Vb_ (Kd.V_elderB (wV_ HO405.out) gb414 (Nat.le_of_eq hg.symm)) hb); have n2_ := A0_ (Vb_ (Kd.V_elderB (wV_ HO411.out) gb414 (Nat.le_of_eq hg.symm)) hb); have n3_ := A0_ (blk_below (g := gb408) (o := .cells #[.int .i64 t406, .int .i64 t407] 49 (0, 0)) (wB_ BK408.out) hb); have n4_ := A0_ (below_step (wb1_ HB.out GE408.out) hb); have n5_ := A0_ (hbox); have n6_ := A0_ ((by rw [hg]; exact (below_size (wb1_ HB.out GE408.out)) : w.heap.size ≤ gb414)); have n7_ := A0_ ((by rw [hg]; exact (below_size (wb1_ HB.out GE408.out)) : w.heap.size ≤ gb414)); have n8_ := A0_ ((by rw [hg]; exact Nat.ne_of_lt (blk_lt (g := gb408) (o := .cells #[.int .i64 t406, .int .i64 t407] 49 (0, 0)) (wB_ BK408.out)) : gb408 ≠ gb414)); have n9_ := A0_ ((by rw [hg]; exact Nat.ne_of_gt (blk_lt (g := gb408) (o := .cells #[.int .i64 t406, .int .i64 t407] 49 (0, 0)) (wB_ BK408.out)) : gb414 ≠ gb408)); clear HO402; clear HO405; clear HO411; clear BK408; clear HB; have HO402 := n0_; have HO405 := n1_; have HO411 := n2_; have BK408 := n3_; have HB := n4_; have BK414 := n5_; have GW414 := n6_; have GE414 := n7_; have NB408_414 := n8_; have NB414_408 := n9_; clear n0_ n1_ n2_ n3_ n4_ n5_ n6_ n7_ n8_ n9_; clear hb hbox hg; have hnb81 := NB414_408.out; have hnc81 := NB408_414.out; have hcz82_0 : w80.cell? ⟨gb414, 0, none⟩ = some (.int .i64 0) := (bc_ BK414.out 0).trans rfl; have hcz82_1 : w80.cell? ⟨gb414, 1, none⟩ = some (.int .i64 0) := (bc_ BK414.out 1).trans rfl; have hfz82_0 := bf_ BK414.out 0; have hfz82_1 := bf_ BK414.out 1) | ((with_reducible refine gate_callee (f := 26) rfl ?_); refine goesL_ (some 22) rfl rfl Tryd.func26 (by kernel_rfl) rfl #[] rfl wm_ ?_; (with_reducible refine (bindlelaw10_answers.calls  false _ ?side1 A7.out).mono ?_); (case side1 => exact A0_ (Tabs.below hT.out (wb2_ HB.out GE408.out GE414.out))); rintro e w83 ⟨rfl, hb⟩; refine ⟨_, rfl, ?_⟩; have n0_ := A0_ (Sb_ (by (with_reducible repeat (first | apply Sa_ | apply SN_ | apply S1_)); exact (Kd.S_mono (Kd.S_far (p := ⟨gb414, 1, none⟩) (Kd.S_far (p := ⟨gb414, 0, none⟩) (Kd.S_types HO402.out BK414.out (by decide)) (fun _ hk => hk.2) (.int .i64 t412)) (fun _ hk => hk.2) (.int .i64 t413)) (fun _ h_ => h_.1))) hb); have n1_ := A0_ (Vb_ (by (with_reducible repeat (first | apply Va_ | apply VN_ | apply V1_)); exact (Kd.V_mono (Kd.V_far (p := ⟨gb414, 1, none⟩) (Kd.V_far (p := ⟨gb414, 0, none⟩) (Kd.V_mono HO405.out (fun k_ hk => (⟨hk, hk.2⟩ : _ ∧ k_ ≠ gb414))) (fun _ hk => hk.2) (.int .i64 t412)) (fun _ hk => hk.2) (.int .i64 t413)) (fun _ h_ => h_.1))) hb); have n2_ := A0_ (Vb_ (by (with_reducible repeat (first | apply Va_ | apply VN_ | apply V1_)); exact (Kd.V_mono (Kd.V_far (p := ⟨gb414, 1, none⟩) (Kd.V_far (p := ⟨gb414, 0, none⟩) (Kd.V_mono HO411.out (fun k_ hk => (⟨hk, hk.2⟩ : _ ∧ k_ ≠ gb414))) (fun _ hk => hk.2) (.int .i64 t412)) (fun _ hk => hk.2) (.int .i64 t413)) (fun _ h_ => h_.1))) hb); have n3_ := A0_ (blk_below (g := gb408) (o := .cells #[.int .i64 t406, .int .i64 t407] 49 (0, 0)) (by (with_reducible repeat (first | refine blk_drewN ?_ _ | refine blk_drew ?_ | refine blk_alloc ?_ _)); refine blk_far ?_ NB408_414.out _; (with_reducible repeat (first | refine blk_drewN ?_ _ | refine blk_drew ?_ | refine blk_alloc ?_ _)); refine blk_far ?_ NB408_414.out _; (with_reducible repeat (first | refine blk_drewN ?_ _ | refine blk_drew ?_ | refine blk_alloc ?_ _)); exact BK408.out) hb); have n4_ := A0_ (blk_below (g := gb414) (o := .cells #[.int .i64 t412, .int .i64 t413] 49 (0, 0)) (by (with_reducible repeat (first | refine blk_drewN ?_ _ | refine blk_drew ?_ | refine blk_alloc ?_ _)); refine blk_put (cs := #[.int .i64 t412, .int .i64 0]) ?_ 1 _ rfl; (with_reducible repeat (first | refine blk_drewN ?_ _ | refine blk_drew ?_ | refine blk_alloc ?_ _)); refine blk_put (cs := #[.int .i64 0, .int .i64 0]) ?_ 0 _ rfl; (with_reducible repeat (first | refine blk_drewN ?_ _ | refine blk_drew ?_ | refine blk_alloc ?_ _)); exact BK414.out) hb); have n5_ := A0_ (below_step (wb2_ HB.out GE408.out GE414.out) hb); clear HO402; clear HO405; clear HO411; clear BK408; clear BK414; clear HB; have HO402 := n0_; have HO405 := n1_; have HO411 := n2_; have BK408 := n3_; have BK414 := n4_; have HB := n5_; clear n0_ n1_ n2_ n3_ n4_ n5_; (try clear hb); (try clear hb2); (try clear hk); (try clear hi)))
  go_ret
  exact ⟨we_, wb2_ HB.out GE408.out GE414.out⟩
 subst c8
 have H1 : (if (t406 == t412 && (t407 == t413)) = true then ((bindleref08_SameTree.f k t403 t409).bind fun t416 => (if t416 = true then (if t406 = 0 then ((tree_Good.f t403).bind fun t417 => (some t417)) else (some true)) else (some false))) else (some false)) = some r := by rw [if_pos rfl] at H; exact H
 clear H
 have H := H1
 clear H1
 by_cases c9 : (t406 == t412 && (t407 == t413)) = true
 rotate_left
 ·rw [if_neg c9] at H
  have c9b0 : (t406 == t412 && (t407 == t413)) = false := by simpa using c9
  (try (have c9b1 : decide (t406 = t412 && (t407 == t413)) = false := by simpa using c9))
  (try (have c9b2 : (t406 == t412 && (t407 == t413)) = false := by simpa using c9))
  (try (have c9b3 : ¬ (t406 = t412 && (t407 == t413)) := by simpa using c9))
  clear c9
  obtain rfl := Option.some.inj H
  go_enter Tryd.func8, Tryd.ntmps8
  go_wp2_with (first | ((with_reducible refine gate_callee (f := 25) rfl ?_); refine goesL_ (some 8) rfl rfl Tryd.func25 (by kernel_rfl) rfl #[.slice A0 l0.length c0] rfl wm_ ?_; (with_reducible refine (bindlelaw10_light.calls k _ _ l0 true _ ?side1 ?side2 A2.out).mono ?_); (case side1 => exact wc_ HR0.out); (case side2 => exact HC0.out); rintro e w' ⟨rfl, ⟨nd, rfl⟩⟩; refine ⟨_, rfl, ?_⟩) | ((with_reducible refine gate_callee (f := 28) rfl ?_); refine goesL_ (some 13) rfl rfl Tryd.func28 (by kernel_rfl) rfl #[.slice A0 l0.length c0] rfl wm_ ?_; (with_reducible refine (bindleref08_Own.calls k _ _ l0 t400 _ ?side1 ?side2 A4.out).mono ?_); (case side1 => exact wc_ HR0.out); (case side2 => exact HC0.out); rintro e w62 ⟨v401, rfl, ho0, hb⟩; refine ⟨_, rfl, ?_⟩; have n0_ := A0_ (Kd.S_lower ho0 (below_size (wb_ HB.out))); have n1_ := A0_ (below_step (wb_ HB.out) hb); clear HB; have HO402 := n0_; have HB := n1_; clear n0_ n1_; (try clear hb); (try clear hb2); (try clear hk); (try clear hi); (try clear ho0); obtain ⟨Ao63, co63, eo63⟩ := Kd.S_slice HO402.out; subst eo63) | ((with_reducible refine gate_callee (f := 27) rfl ?_); refine goesL_ (some 14) rfl rfl Tryd.func27 (by kernel_rfl) rfl #[.slice Ao63 t400.length co63] rfl wm_ ?_; (with_reducible refine (tree_Fold.calls _ _ t400 t403 t406 t407 _ ?side1 ?side2 ?side3 A5.out).mono ?_); (case side1 => exact A0_ (Tabs.below hT.out (wb_ HB.out))); (case side2 => exact wc_ (Kd.S_reads' HO402.out).2.2); (case side3 => exact (Kd.S_reads' HO402.out).2.1); rintro e w64 ⟨v404, rfl, ho0, hb⟩; refine ⟨_, rfl, ?_⟩; have n0_ := A0_ (Sb_ (wS_ HO402.out) hb); have n1_ := A0_ (Kd.V_lower (Kd.V_mono (ok' := fun k_ => some k_ ≠ (.slice Ao63 t400.length co63 : Value).ownBlock) ho0 (fun k_ hk_ => (Kd.fresh' (Kd.S_lt (wS_ HO402.out)) k_ hk_))) (below_size (wb_ HB.out))); have n2_ := A0_ (below_step (wb_ HB.out) hb); clear HO402; clear HB; have HO402 := n0_; have HO405 := n1_; have HB := n2_; clear n0_ n1_ n2_; (try clear hb); (try clear hb2); (try clear hk); (try clear hi); (try clear ho0)) | ((with_reducible refine gate_dst (N := 4) rfl ?_); refine box_event ?hg (N := 4) ?hd (cs := #[.int .i64 0, .int .i64 0]) (t := 49) ?hr ?_; (case hd => rfl); (case hg => rfl); (case hr => first | (go_simp; done) | (go_simp; rfl)); intro gb408 hg w65 hbox hb; have n0_ := A0_ (Sb_ (wS_ HO402.out) hb); have n1_ := A0_ (Vb_ (Kd.V_elderB (wV_ HO405.out) gb408 (Nat.le_of_eq hg.symm)) hb); have n2_ := A0_ (below_step (wb_ HB.out) hb); have n3_ := A0_ (hbox); have n4_ := A0_ ((by rw [hg]; exact (below_size (wb_ HB.out)) : w.heap.size ≤ gb408)); have n5_ := A0_ ((by rw [hg]; exact (below_size (wb_ HB.out)) : w.heap.size ≤ gb408)); clear HO402; clear HO405; clear HB; have HO402 := n0_; have HO405 := n1_; have HB := n2_; have BK408 := n3_; have GW408 := n4_; have GE408 := n5_; clear n0_ n1_ n2_ n3_ n4_ n5_; clear hb hbox hg; have hcz66_0 : w65.cell? ⟨gb408, 0, none⟩ = some (.int .i64 0) := (bc_ BK408.out 0).trans rfl; have hcz66_1 : w65.cell? ⟨gb408, 1, none⟩ = some (.int .i64 0) := (bc_ BK408.out 1).trans rfl; have hfz66_0 := bf_ BK408.out 0; have hfz66_1 := bf_ BK408.out 1) | ((with_reducible refine gate_callee (f := 29) rfl ?_); refine goesL_ (some 19) rfl rfl Tryd.func29 (by kernel_rfl) rfl #[.slice A0 l0.length c0] rfl wm_ ?_; (with_reducible refine (bindleref08_Fold.calls _ _ l0 t409 t412 t413 _ ?side1 ?side2 A6.out).mono ?_); (case side1 => exact Kd.C_below HR0.out (wb1_ HB.out GE408.out)); (case side2 => exact HC0.out); rintro e w67 ⟨v410, rfl, ho0, hb⟩; refine ⟨_, rfl, ?_⟩; have n0_ := A0_ (Sb_ (by (with_reducible repeat (first | apply Sa_ | apply SN_ | apply S1_)); exact (Kd.S_mono (Kd.S_far (p := ⟨gb408, 1, none⟩) (Kd.S_far (p := ⟨gb408, 0, none⟩) (Kd.S_types HO402.out BK408.out (by decide)) (fun _ hk => hk.2) (.int .i64 t406)) (fun _ hk => hk.2) (.int .i64 t407)) (fun _ h_ => h_.1))) hb); have n1_ := A0_ (Vb_ (by (with_reducible repeat (first | apply Va_ | apply VN_ | apply V1_)); exact (Kd.V_mono (Kd.V_far (p := ⟨gb408, 1, none⟩) (Kd.V_far (p := ⟨gb408, 0, none⟩) (Kd.V_mono HO405.out (fun k_ hk => (⟨hk, hk.2⟩ : _ ∧ k_ ≠ gb408))) (fun _ hk => hk.2) (.int .i64 t406)) (fun _ hk => hk.2) (.int .i64 t407)) (fun _ h_ => h_.1))) hb); have n2_ := A0_ (Kd.V_lower (Kd.V_mono (ok' := fun k_ => some k_ ≠ (.slice Ao63 t400.length co63 : Value).ownBlock ∧ k_ ≠ gb408) ho0 (fun k_ hk_ => ⟨(Kd.fresh' (Kd.S_lt (by (with_reducible repeat (first | apply Sa_ | apply SN_ | apply S1_)); exact (Kd.S_mono (Kd.S_far (p := ⟨gb408, 1, none⟩) (Kd.S_far (p := ⟨gb408, 0, none⟩) (Kd.S_types HO402.out BK408.out (by decide)) (fun _ hk => hk.2) (.int .i64 t406)) (fun _ hk => hk.2) (.int .i64 t407)) (fun _ h_ => h_.1)))) k_ hk_), (Kd.freshB (g := gb408) (o := .cells #[.int .i64 t406, .int .i64 t407] 49 (0, 0)) (by (with_reducible repeat (first | refine blk_drewN ?_ _ | refine blk_drew ?_ | refine blk_alloc ?_ _)); refine blk_put (cs := #[.int .i64 t406, .int .i64 0]) ?_ 1 _ rfl; (with_reducible repeat (first | refine blk_drewN ?_ _ | refine blk_drew ?_ | refine blk_alloc ?_ _)); refine blk_put (cs := #[.int .i64 0, .int .i64 0]) ?_ 0 _ rfl; (with_reducible repeat (first | refine blk_drewN ?_ _ | refine blk_drew ?_ | refine blk_alloc ?_ _)); exact BK408.out) k_ hk_)⟩)) (below_size (wb1_ HB.out GE408.out))); have n3_ := A0_ (blk_below (g := gb408) (o := .cells #[.int .i64 t406, .int .i64 t407] 49 (0, 0)) (by (with_reducible repeat (first | refine blk_drewN ?_ _ | refine blk_drew ?_ | refine blk_alloc ?_ _)); refine blk_put (cs := #[.int .i64 t406, .int .i64 0]) ?_ 1 _ rfl; (with_reducible repeat (first | refine blk_drewN ?_ _ | refine blk_drew ?_ | refine blk_alloc ?_ _)); refine blk_put (cs := #[.int .i64 0, .int .i64 0]) ?_ 0 _ rfl; (with_reducible repeat (first | refine blk_drewN ?_ _ | refine blk_drew ?_ | refine blk_alloc ?_ _)); exact BK408.out) hb); have n4_ := A0_ (below_step (wb1_ HB.out GE408.out) hb); clear HO402; clear HO405; clear BK408; clear HB; have HO402 := n0_; have HO405 := n1_; have HO411 := n2_; have BK408 := n3_; have HB := n4_; clear n0_ n1_ n2_ n3_ n4_; (try clear hb); (try clear hb2); (try clear hk); (try clear hi); (try clear ho0)) | ((with_reducible refine gate_dst (N := 6) rfl ?_); refine box_event ?hg (N := 6) ?hd (cs := #[.int .i64 0, .int .i64 0]) (t := 49) ?hr ?_; (case hd => rfl); (case hg => rfl); (case hr => first | (go_simp; done) | (go_simp; rfl)); intro gb414 hg w68 hbox hb; have n0_ := A0_ (Sb_ (wS_ HO402.out) hb); have n1_ := A0_ (Vb_ (Kd.V_elderB (wV_ HO405.out) gb414 (Nat.le_of_eq hg.symm)) hb); have n2_ := A0_ (Vb_ (Kd.V_elderB (wV_ HO411.out) gb414 (Nat.le_of_eq hg.symm)) hb); have n3_ := A0_ (blk_below (g := gb408) (o := .cells #[.int .i64 t406, .int .i64 t407] 49 (0, 0)) (wB_ BK408.out) hb); have n4_ := A0_ (below_step (wb1_ HB.out GE408.out) hb); have n5_ := A0_ (hbox); have n6_ := A0_ ((by rw [hg]; exact (below_size (wb1_ HB.out GE408.out)) : w.heap.size ≤ gb414)); have n7_ := A0_ ((by rw [hg]; exact (below_size (wb1_ HB.out GE408.out)) : w.heap.size ≤ gb414)); have n8_ := A0_ ((by rw [hg]; exact Nat.ne_of_lt (blk_lt (g := gb408) (o := .cells #[.int .i64 t406, .int .i64 t407] 49 (0, 0)) (wB_ BK408.out)) : gb408 ≠ gb414)); have n9_ := A0_ ((by rw [hg]; exact Nat.ne_of_gt (blk_lt (g := gb408) (o := .cells #[.int .i64 t406, .int .i64 t407] 49 (0, 0)) (wB_ BK408.out)) : gb414 ≠ gb408)); clear HO402; clear HO405; clear HO411; clear BK408; clear HB; have HO402 := n0_; have HO405 := n1_; have HO411 := n2_; have BK408 := n3_; have HB := n4_; have BK414 := n5_; have GW414 := n6_; have GE414 := n7_; have NB408_414 := n8_; have NB414_408 := n9_; clear n0_ n1_ n2_ n3_ n4_ n5_ n6_ n7_ n8_ n9_; clear hb hbox hg; have hnb69 := NB414_408.out; have hnc69 := NB408_414.out; have hcz70_0 : w68.cell? ⟨gb414, 0, none⟩ = some (.int .i64 0) := (bc_ BK414.out 0).trans rfl; have hcz70_1 : w68.cell? ⟨gb414, 1, none⟩ = some (.int .i64 0) := (bc_ BK414.out 1).trans rfl; have hfz70_0 := bf_ BK414.out 0; have hfz70_1 := bf_ BK414.out 1) | ((with_reducible refine gate_callee (f := 26) rfl ?_); refine goesL_ (some 22) rfl rfl Tryd.func26 (by kernel_rfl) rfl #[] rfl wm_ ?_; (with_reducible refine (bindlelaw10_answers.calls  true _ ?side1 A7.out).mono ?_); (case side1 => exact A0_ (Tabs.below hT.out (wb2_ HB.out GE408.out GE414.out))); rintro e w71 ⟨rfl, hb⟩; refine ⟨_, rfl, ?_⟩; have n0_ := A0_ (Sb_ (by (with_reducible repeat (first | apply Sa_ | apply SN_ | apply S1_)); exact (Kd.S_mono (Kd.S_far (p := ⟨gb414, 1, none⟩) (Kd.S_far (p := ⟨gb414, 0, none⟩) (Kd.S_types HO402.out BK414.out (by decide)) (fun _ hk => hk.2) (.int .i64 t412)) (fun _ hk => hk.2) (.int .i64 t413)) (fun _ h_ => h_.1))) hb); have n1_ := A0_ (Vb_ (by (with_reducible repeat (first | apply Va_ | apply VN_ | apply V1_)); exact (Kd.V_mono (Kd.V_far (p := ⟨gb414, 1, none⟩) (Kd.V_far (p := ⟨gb414, 0, none⟩) (Kd.V_mono HO405.out (fun k_ hk => (⟨hk, hk.2⟩ : _ ∧ k_ ≠ gb414))) (fun _ hk => hk.2) (.int .i64 t412)) (fun _ hk => hk.2) (.int .i64 t413)) (fun _ h_ => h_.1))) hb); have n2_ := A0_ (Vb_ (by (with_reducible repeat (first | apply Va_ | apply VN_ | apply V1_)); exact (Kd.V_mono (Kd.V_far (p := ⟨gb414, 1, none⟩) (Kd.V_far (p := ⟨gb414, 0, none⟩) (Kd.V_mono HO411.out (fun k_ hk => (⟨hk, hk.2⟩ : _ ∧ k_ ≠ gb414))) (fun _ hk => hk.2) (.int .i64 t412)) (fun _ hk => hk.2) (.int .i64 t413)) (fun _ h_ => h_.1))) hb); have n3_ := A0_ (blk_below (g := gb408) (o := .cells #[.int .i64 t406, .int .i64 t407] 49 (0, 0)) (by (with_reducible repeat (first | refine blk_drewN ?_ _ | refine blk_drew ?_ | refine blk_alloc ?_ _)); refine blk_far ?_ NB408_414.out _; (with_reducible repeat (first | refine blk_drewN ?_ _ | refine blk_drew ?_ | refine blk_alloc ?_ _)); refine blk_far ?_ NB408_414.out _; (with_reducible repeat (first | refine blk_drewN ?_ _ | refine blk_drew ?_ | refine blk_alloc ?_ _)); exact BK408.out) hb); have n4_ := A0_ (blk_below (g := gb414) (o := .cells #[.int .i64 t412, .int .i64 t413] 49 (0, 0)) (by (with_reducible repeat (first | refine blk_drewN ?_ _ | refine blk_drew ?_ | refine blk_alloc ?_ _)); refine blk_put (cs := #[.int .i64 t412, .int .i64 0]) ?_ 1 _ rfl; (with_reducible repeat (first | refine blk_drewN ?_ _ | refine blk_drew ?_ | refine blk_alloc ?_ _)); refine blk_put (cs := #[.int .i64 0, .int .i64 0]) ?_ 0 _ rfl; (with_reducible repeat (first | refine blk_drewN ?_ _ | refine blk_drew ?_ | refine blk_alloc ?_ _)); exact BK414.out) hb); have n5_ := A0_ (below_step (wb2_ HB.out GE408.out GE414.out) hb); clear HO402; clear HO405; clear HO411; clear BK408; clear BK414; clear HB; have HO402 := n0_; have HO405 := n1_; have HO411 := n2_; have BK408 := n3_; have BK414 := n4_; have HB := n5_; clear n0_ n1_ n2_ n3_ n4_ n5_; (try clear hb); (try clear hb2); (try clear hk); (try clear hi); have hcz72_0 : w71.cell? ⟨gb408, 0, none⟩ = some (.int .i64 t406) := (bc_ BK408.out 0).trans rfl; have hcz72_1 : w71.cell? ⟨gb408, 1, none⟩ = some (.int .i64 t407) := (bc_ BK408.out 1).trans rfl; have hfz72_0 := bf_ BK408.out 0; have hfz72_1 := bf_ BK408.out 1; have hcz73_0 : w71.cell? ⟨gb414, 0, none⟩ = some (.int .i64 t412) := (bc_ BK414.out 0).trans rfl; have hcz73_1 : w71.cell? ⟨gb414, 1, none⟩ = some (.int .i64 t413) := (bc_ BK414.out 1).trans rfl; have hfz73_0 := bf_ BK414.out 0; have hfz73_1 := bf_ BK414.out 1))
  go_ret
  exact ⟨we_, wb2_ HB.out GE408.out GE414.out⟩
 rw [if_pos c9] at H
 have c9b0 : (t406 == t412 && (t407 == t413)) = true := c9
 (try (have c9b1 : decide (t406 = t412 && (t407 == t413)) = true := by simpa using c9))
 (try (have c9b2 : (t406 == t412 && (t407 == t413)) = true := by simpa using c9))
 clear c9
 replace H := Option.bind_eq_some_iff.mp H
 obtain ⟨t416, A100, H⟩ := H
 replace H : (if t416 = true then (if t406 = 0 then ((tree_Good.f t403).bind fun t417 => (some t417)) else (some true)) else (some false)) = some r := H
 have A10 := A0_ A100
 clear A100
 by_cases c11 : t416 = true
 rotate_left
 ·replace c11 := Bool.eq_false_iff.mpr c11
  subst c11
  have H1 : (some false) = some r := by rw [if_neg (show ¬ (false = true) by decide)] at H; exact H
  clear H
  have H := H1
  clear H1
  obtain rfl := Option.some.inj H
  go_enter Tryd.func8, Tryd.ntmps8
  go_wp2_with (first | ((with_reducible refine gate_callee (f := 25) rfl ?_); refine goesL_ (some 8) rfl rfl Tryd.func25 (by kernel_rfl) rfl #[.slice A0 l0.length c0] rfl wm_ ?_; (with_reducible refine (bindlelaw10_light.calls k _ _ l0 true _ ?side1 ?side2 A2.out).mono ?_); (case side1 => exact wc_ HR0.out); (case side2 => exact HC0.out); rintro e w' ⟨rfl, ⟨nd, rfl⟩⟩; refine ⟨_, rfl, ?_⟩) | ((with_reducible refine gate_callee (f := 28) rfl ?_); refine goesL_ (some 13) rfl rfl Tryd.func28 (by kernel_rfl) rfl #[.slice A0 l0.length c0] rfl wm_ ?_; (with_reducible refine (bindleref08_Own.calls k _ _ l0 t400 _ ?side1 ?side2 A4.out).mono ?_); (case side1 => exact wc_ HR0.out); (case side2 => exact HC0.out); rintro e w47 ⟨v401, rfl, ho0, hb⟩; refine ⟨_, rfl, ?_⟩; have n0_ := A0_ (Kd.S_lower ho0 (below_size (wb_ HB.out))); have n1_ := A0_ (below_step (wb_ HB.out) hb); clear HB; have HO402 := n0_; have HB := n1_; clear n0_ n1_; (try clear hb); (try clear hb2); (try clear hk); (try clear hi); (try clear ho0); obtain ⟨Ao48, co48, eo48⟩ := Kd.S_slice HO402.out; subst eo48) | ((with_reducible refine gate_callee (f := 27) rfl ?_); refine goesL_ (some 14) rfl rfl Tryd.func27 (by kernel_rfl) rfl #[.slice Ao48 t400.length co48] rfl wm_ ?_; (with_reducible refine (tree_Fold.calls _ _ t400 t403 t406 t407 _ ?side1 ?side2 ?side3 A5.out).mono ?_); (case side1 => exact A0_ (Tabs.below hT.out (wb_ HB.out))); (case side2 => exact wc_ (Kd.S_reads' HO402.out).2.2); (case side3 => exact (Kd.S_reads' HO402.out).2.1); rintro e w49 ⟨v404, rfl, ho0, hb⟩; refine ⟨_, rfl, ?_⟩; have n0_ := A0_ (Sb_ (wS_ HO402.out) hb); have n1_ := A0_ (Kd.V_lower (Kd.V_mono (ok' := fun k_ => some k_ ≠ (.slice Ao48 t400.length co48 : Value).ownBlock) ho0 (fun k_ hk_ => (Kd.fresh' (Kd.S_lt (wS_ HO402.out)) k_ hk_))) (below_size (wb_ HB.out))); have n2_ := A0_ (below_step (wb_ HB.out) hb); clear HO402; clear HB; have HO402 := n0_; have HO405 := n1_; have HB := n2_; clear n0_ n1_ n2_; (try clear hb); (try clear hb2); (try clear hk); (try clear hi); (try clear ho0)) | ((with_reducible refine gate_dst (N := 4) rfl ?_); refine box_event ?hg (N := 4) ?hd (cs := #[.int .i64 0, .int .i64 0]) (t := 49) ?hr ?_; (case hd => rfl); (case hg => rfl); (case hr => first | (go_simp; done) | (go_simp; rfl)); intro gb408 hg w50 hbox hb; have n0_ := A0_ (Sb_ (wS_ HO402.out) hb); have n1_ := A0_ (Vb_ (Kd.V_elderB (wV_ HO405.out) gb408 (Nat.le_of_eq hg.symm)) hb); have n2_ := A0_ (below_step (wb_ HB.out) hb); have n3_ := A0_ (hbox); have n4_ := A0_ ((by rw [hg]; exact (below_size (wb_ HB.out)) : w.heap.size ≤ gb408)); have n5_ := A0_ ((by rw [hg]; exact (below_size (wb_ HB.out)) : w.heap.size ≤ gb408)); clear HO402; clear HO405; clear HB; have HO402 := n0_; have HO405 := n1_; have HB := n2_; have BK408 := n3_; have GW408 := n4_; have GE408 := n5_; clear n0_ n1_ n2_ n3_ n4_ n5_; clear hb hbox hg; have hcz51_0 : w50.cell? ⟨gb408, 0, none⟩ = some (.int .i64 0) := (bc_ BK408.out 0).trans rfl; have hcz51_1 : w50.cell? ⟨gb408, 1, none⟩ = some (.int .i64 0) := (bc_ BK408.out 1).trans rfl; have hfz51_0 := bf_ BK408.out 0; have hfz51_1 := bf_ BK408.out 1) | ((with_reducible refine gate_callee (f := 29) rfl ?_); refine goesL_ (some 19) rfl rfl Tryd.func29 (by kernel_rfl) rfl #[.slice A0 l0.length c0] rfl wm_ ?_; (with_reducible refine (bindleref08_Fold.calls _ _ l0 t409 t412 t413 _ ?side1 ?side2 A6.out).mono ?_); (case side1 => exact Kd.C_below HR0.out (wb1_ HB.out GE408.out)); (case side2 => exact HC0.out); rintro e w52 ⟨v410, rfl, ho0, hb⟩; refine ⟨_, rfl, ?_⟩; have n0_ := A0_ (Sb_ (by (with_reducible repeat (first | apply Sa_ | apply SN_ | apply S1_)); exact (Kd.S_mono (Kd.S_far (p := ⟨gb408, 1, none⟩) (Kd.S_far (p := ⟨gb408, 0, none⟩) (Kd.S_types HO402.out BK408.out (by decide)) (fun _ hk => hk.2) (.int .i64 t406)) (fun _ hk => hk.2) (.int .i64 t407)) (fun _ h_ => h_.1))) hb); have n1_ := A0_ (Vb_ (by (with_reducible repeat (first | apply Va_ | apply VN_ | apply V1_)); exact (Kd.V_mono (Kd.V_far (p := ⟨gb408, 1, none⟩) (Kd.V_far (p := ⟨gb408, 0, none⟩) (Kd.V_mono HO405.out (fun k_ hk => (⟨hk, hk.2⟩ : _ ∧ k_ ≠ gb408))) (fun _ hk => hk.2) (.int .i64 t406)) (fun _ hk => hk.2) (.int .i64 t407)) (fun _ h_ => h_.1))) hb); have n2_ := A0_ (Kd.V_lower (Kd.V_mono (ok' := fun k_ => some k_ ≠ (.slice Ao48 t400.length co48 : Value).ownBlock ∧ k_ ≠ gb408) ho0 (fun k_ hk_ => ⟨(Kd.fresh' (Kd.S_lt (by (with_reducible repeat (first | apply Sa_ | apply SN_ | apply S1_)); exact (Kd.S_mono (Kd.S_far (p := ⟨gb408, 1, none⟩) (Kd.S_far (p := ⟨gb408, 0, none⟩) (Kd.S_types HO402.out BK408.out (by decide)) (fun _ hk => hk.2) (.int .i64 t406)) (fun _ hk => hk.2) (.int .i64 t407)) (fun _ h_ => h_.1)))) k_ hk_), (Kd.freshB (g := gb408) (o := .cells #[.int .i64 t406, .int .i64 t407] 49 (0, 0)) (by (with_reducible repeat (first | refine blk_drewN ?_ _ | refine blk_drew ?_ | refine blk_alloc ?_ _)); refine blk_put (cs := #[.int .i64 t406, .int .i64 0]) ?_ 1 _ rfl; (with_reducible repeat (first | refine blk_drewN ?_ _ | refine blk_drew ?_ | refine blk_alloc ?_ _)); refine blk_put (cs := #[.int .i64 0, .int .i64 0]) ?_ 0 _ rfl; (with_reducible repeat (first | refine blk_drewN ?_ _ | refine blk_drew ?_ | refine blk_alloc ?_ _)); exact BK408.out) k_ hk_)⟩)) (below_size (wb1_ HB.out GE408.out))); have n3_ := A0_ (blk_below (g := gb408) (o := .cells #[.int .i64 t406, .int .i64 t407] 49 (0, 0)) (by (with_reducible repeat (first | refine blk_drewN ?_ _ | refine blk_drew ?_ | refine blk_alloc ?_ _)); refine blk_put (cs := #[.int .i64 t406, .int .i64 0]) ?_ 1 _ rfl; (with_reducible repeat (first | refine blk_drewN ?_ _ | refine blk_drew ?_ | refine blk_alloc ?_ _)); refine blk_put (cs := #[.int .i64 0, .int .i64 0]) ?_ 0 _ rfl; (with_reducible repeat (first | refine blk_drewN ?_ _ | refine blk_drew ?_ | refine blk_alloc ?_ _)); exact BK408.out) hb); have n4_ := A0_ (below_step (wb1_ HB.out GE408.out) hb); clear HO402; clear HO405; clear BK408; clear HB; have HO402 := n0_; have HO405 := n1_; have HO411 := n2_; have BK408 := n3_; have HB := n4_; clear n0_ n1_ n2_ n3_ n4_; (try clear hb); (try clear hb2); (try clear hk); (try clear hi); (try clear ho0)) | ((with_reducible refine gate_dst (N := 6) rfl ?_); refine box_event ?hg (N := 6) ?hd (cs := #[.int .i64 0, .int .i64 0]) (t := 49) ?hr ?_; (case hd => rfl); (case hg => rfl); (case hr => first | (go_simp; done) | (go_simp; rfl)); intro gb414 hg w53 hbox hb; have n0_ := A0_ (Sb_ (wS_ HO402.out) hb); have n1_ := A0_ (Vb_ (Kd.V_elderB (wV_ HO405.out) gb414 (Nat.le_of_eq hg.symm)) hb); have n2_ := A0_ (Vb_ (Kd.V_elderB (wV_ HO411.out) gb414 (Nat.le_of_eq hg.symm)) hb); have n3_ := A0_ (blk_below (g := gb408) (o := .cells #[.int .i64 t406, .int .i64 t407] 49 (0, 0)) (wB_ BK408.out) hb); have n4_ := A0_ (below_step (wb1_ HB.out GE408.out) hb); have n5_ := A0_ (hbox); have n6_ := A0_ ((by rw [hg]; exact (below_size (wb1_ HB.out GE408.out)) : w.heap.size ≤ gb414)); have n7_ := A0_ ((by rw [hg]; exact (below_size (wb1_ HB.out GE408.out)) : w.heap.size ≤ gb414)); have n8_ := A0_ ((by rw [hg]; exact Nat.ne_of_lt (blk_lt (g := gb408) (o := .cells #[.int .i64 t406, .int .i64 t407] 49 (0, 0)) (wB_ BK408.out)) : gb408 ≠ gb414)); have n9_ := A0_ ((by rw [hg]; exact Nat.ne_of_gt (blk_lt (g := gb408) (o := .cells #[.int .i64 t406, .int .i64 t407] 49 (0, 0)) (wB_ BK408.out)) : gb414 ≠ gb408)); clear HO402; clear HO405; clear HO411; clear BK408; clear HB; have HO402 := n0_; have HO405 := n1_; have HO411 := n2_; have BK408 := n3_; have HB := n4_; have BK414 := n5_; have GW414 := n6_; have GE414 := n7_; have NB408_414 := n8_; have NB414_408 := n9_; clear n0_ n1_ n2_ n3_ n4_ n5_ n6_ n7_ n8_ n9_; clear hb hbox hg; have hnb54 := NB414_408.out; have hnc54 := NB408_414.out; have hcz55_0 : w53.cell? ⟨gb414, 0, none⟩ = some (.int .i64 0) := (bc_ BK414.out 0).trans rfl; have hcz55_1 : w53.cell? ⟨gb414, 1, none⟩ = some (.int .i64 0) := (bc_ BK414.out 1).trans rfl; have hfz55_0 := bf_ BK414.out 0; have hfz55_1 := bf_ BK414.out 1) | ((with_reducible refine gate_callee (f := 26) rfl ?_); refine goesL_ (some 22) rfl rfl Tryd.func26 (by kernel_rfl) rfl #[] rfl wm_ ?_; (with_reducible refine (bindlelaw10_answers.calls  true _ ?side1 A7.out).mono ?_); (case side1 => exact A0_ (Tabs.below hT.out (wb2_ HB.out GE408.out GE414.out))); rintro e w56 ⟨rfl, hb⟩; refine ⟨_, rfl, ?_⟩; have n0_ := A0_ (Sb_ (by (with_reducible repeat (first | apply Sa_ | apply SN_ | apply S1_)); exact (Kd.S_mono (Kd.S_far (p := ⟨gb414, 1, none⟩) (Kd.S_far (p := ⟨gb414, 0, none⟩) (Kd.S_types HO402.out BK414.out (by decide)) (fun _ hk => hk.2) (.int .i64 t412)) (fun _ hk => hk.2) (.int .i64 t413)) (fun _ h_ => h_.1))) hb); have n1_ := A0_ (Vb_ (by (with_reducible repeat (first | apply Va_ | apply VN_ | apply V1_)); exact (Kd.V_mono (Kd.V_far (p := ⟨gb414, 1, none⟩) (Kd.V_far (p := ⟨gb414, 0, none⟩) (Kd.V_mono HO405.out (fun k_ hk => (⟨hk, hk.2⟩ : _ ∧ k_ ≠ gb414))) (fun _ hk => hk.2) (.int .i64 t412)) (fun _ hk => hk.2) (.int .i64 t413)) (fun _ h_ => h_.1))) hb); have n2_ := A0_ (Vb_ (by (with_reducible repeat (first | apply Va_ | apply VN_ | apply V1_)); exact (Kd.V_mono (Kd.V_far (p := ⟨gb414, 1, none⟩) (Kd.V_far (p := ⟨gb414, 0, none⟩) (Kd.V_mono HO411.out (fun k_ hk => (⟨hk, hk.2⟩ : _ ∧ k_ ≠ gb414))) (fun _ hk => hk.2) (.int .i64 t412)) (fun _ hk => hk.2) (.int .i64 t413)) (fun _ h_ => h_.1))) hb); have n3_ := A0_ (blk_below (g := gb408) (o := .cells #[.int .i64 t406, .int .i64 t407] 49 (0, 0)) (by (with_reducible repeat (first | refine blk_drewN ?_ _ | refine blk_drew ?_ | refine blk_alloc ?_ _)); refine blk_far ?_ NB408_414.out _; (with_reducible repeat (first | refine blk_drewN ?_ _ | refine blk_drew ?_ | refine blk_alloc ?_ _)); refine blk_far ?_ NB408_414.out _; (with_reducible repeat (first | refine blk_drewN ?_ _ | refine blk_drew ?_ | refine blk_alloc ?_ _)); exact BK408.out) hb); have n4_ := A0_ (blk_below (g := gb414) (o := .cells #[.int .i64 t412, .int .i64 t413] 49 (0, 0)) (by (with_reducible repeat (first | refine blk_drewN ?_ _ | refine blk_drew ?_ | refine blk_alloc ?_ _)); refine blk_put (cs := #[.int .i64 t412, .int .i64 0]) ?_ 1 _ rfl; (with_reducible repeat (first | refine blk_drewN ?_ _ | refine blk_drew ?_ | refine blk_alloc ?_ _)); refine blk_put (cs := #[.int .i64 0, .int .i64 0]) ?_ 0 _ rfl; (with_reducible repeat (first | refine blk_drewN ?_ _ | refine blk_drew ?_ | refine blk_alloc ?_ _)); exact BK414.out) hb); have n5_ := A0_ (below_step (wb2_ HB.out GE408.out GE414.out) hb); clear HO402; clear HO405; clear HO411; clear BK408; clear BK414; clear HB; have HO402 := n0_; have HO405 := n1_; have HO411 := n2_; have BK408 := n3_; have BK414 := n4_; have HB := n5_; clear n0_ n1_ n2_ n3_ n4_ n5_; (try clear hb); (try clear hb2); (try clear hk); (try clear hi); have hcz57_0 : w56.cell? ⟨gb408, 0, none⟩ = some (.int .i64 t406) := (bc_ BK408.out 0).trans rfl; have hcz57_1 : w56.cell? ⟨gb408, 1, none⟩ = some (.int .i64 t407) := (bc_ BK408.out 1).trans rfl; have hfz57_0 := bf_ BK408.out 0; have hfz57_1 := bf_ BK408.out 1; have hcz58_0 : w56.cell? ⟨gb414, 0, none⟩ = some (.int .i64 t412) := (bc_ BK414.out 0).trans rfl; have hcz58_1 : w56.cell? ⟨gb414, 1, none⟩ = some (.int .i64 t413) := (bc_ BK414.out 1).trans rfl; have hfz58_0 := bf_ BK414.out 0; have hfz58_1 := bf_ BK414.out 1; obtain ⟨Ao59, co59, eo59⟩ := Kd.V_slice HO405.out; subst eo59; obtain ⟨Ao60, co60, eo60⟩ := Kd.V_slice HO411.out; subst eo60) | (go_at_call 30; (with_reducible refine (bindleref08_SameTree.calls k _ _ t403 _ _ t409 false _ ?side1 ?side2 ?side3 ?side4 A10.out).mono ?_); (case side1 => exact wc_ (Kd.V_reads' HO405.out).2.2); (case side2 => exact (Kd.V_reads' HO405.out).2.1); (case side3 => exact wc_ (Kd.V_reads' HO411.out).2.2); (case side4 => exact (Kd.V_reads' HO411.out).2.1); rintro e w61 ⟨rfl, hb⟩; have n0_ := A0_ (Sb_ (wS_ HO402.out) hb); have n1_ := A0_ (Vb_ (wV_ HO405.out) hb); have n2_ := A0_ (Vb_ (wV_ HO411.out) hb); have n3_ := A0_ (blk_below (g := gb408) (o := .cells #[.int .i64 t406, .int .i64 t407] 49 (0, 0)) (wB_ BK408.out) hb); have n4_ := A0_ (blk_below (g := gb414) (o := .cells #[.int .i64 t412, .int .i64 t413] 49 (0, 0)) (wB_ BK414.out) hb); have n5_ := A0_ (below_step (wb2_ HB.out GE408.out GE414.out) hb); clear HO402; clear HO405; clear HO411; clear BK408; clear BK414; clear HB; have HO402 := n0_; have HO405 := n1_; have HO411 := n2_; have BK408 := n3_; have BK414 := n4_; have HB := n5_; clear n0_ n1_ n2_ n3_ n4_ n5_; (try clear hb); (try clear hb2); (try clear hk); (try clear hi)))
  go_ret
  exact ⟨we_, wb2_ HB.out GE408.out GE414.out⟩
 subst c11
 have H1 : (if t406 = 0 then ((tree_Good.f t403).bind fun t417 => (some t417)) else (some true)) = some r := by rw [if_pos rfl] at H; exact H
 clear H
 have H := H1
 clear H1
 by_cases c12 : t406 = 0
 rotate_left
 ·rw [if_neg c12] at H
  have c12b0 : (t406 == 0) = false := beq_eq_false_iff_ne.mpr c12
  have c12b1 : (t406 != 0) = true := bne_iff_ne.mpr c12
  obtain rfl := Option.some.inj H
  go_enter Tryd.func8, Tryd.ntmps8
  go_wp2_with (first | ((with_reducible refine gate_callee (f := 25) rfl ?_); refine goesL_ (some 8) rfl rfl Tryd.func25 (by kernel_rfl) rfl #[.slice A0 l0.length c0] rfl wm_ ?_; (with_reducible refine (bindlelaw10_light.calls k _ _ l0 true _ ?side1 ?side2 A2.out).mono ?_); (case side1 => exact wc_ HR0.out); (case side2 => exact HC0.out); rintro e w' ⟨rfl, ⟨nd, rfl⟩⟩; refine ⟨_, rfl, ?_⟩) | ((with_reducible refine gate_callee (f := 28) rfl ?_); refine goesL_ (some 13) rfl rfl Tryd.func28 (by kernel_rfl) rfl #[.slice A0 l0.length c0] rfl wm_ ?_; (with_reducible refine (bindleref08_Own.calls k _ _ l0 t400 _ ?side1 ?side2 A4.out).mono ?_); (case side1 => exact wc_ HR0.out); (case side2 => exact HC0.out); rintro e w31 ⟨v401, rfl, ho0, hb⟩; refine ⟨_, rfl, ?_⟩; have n0_ := A0_ (Kd.S_lower ho0 (below_size (wb_ HB.out))); have n1_ := A0_ (below_step (wb_ HB.out) hb); clear HB; have HO402 := n0_; have HB := n1_; clear n0_ n1_; (try clear hb); (try clear hb2); (try clear hk); (try clear hi); (try clear ho0); obtain ⟨Ao32, co32, eo32⟩ := Kd.S_slice HO402.out; subst eo32) | ((with_reducible refine gate_callee (f := 27) rfl ?_); refine goesL_ (some 14) rfl rfl Tryd.func27 (by kernel_rfl) rfl #[.slice Ao32 t400.length co32] rfl wm_ ?_; (with_reducible refine (tree_Fold.calls _ _ t400 t403 t406 t407 _ ?side1 ?side2 ?side3 A5.out).mono ?_); (case side1 => exact A0_ (Tabs.below hT.out (wb_ HB.out))); (case side2 => exact wc_ (Kd.S_reads' HO402.out).2.2); (case side3 => exact (Kd.S_reads' HO402.out).2.1); rintro e w33 ⟨v404, rfl, ho0, hb⟩; refine ⟨_, rfl, ?_⟩; have n0_ := A0_ (Sb_ (wS_ HO402.out) hb); have n1_ := A0_ (Kd.V_lower (Kd.V_mono (ok' := fun k_ => some k_ ≠ (.slice Ao32 t400.length co32 : Value).ownBlock) ho0 (fun k_ hk_ => (Kd.fresh' (Kd.S_lt (wS_ HO402.out)) k_ hk_))) (below_size (wb_ HB.out))); have n2_ := A0_ (below_step (wb_ HB.out) hb); clear HO402; clear HB; have HO402 := n0_; have HO405 := n1_; have HB := n2_; clear n0_ n1_ n2_; (try clear hb); (try clear hb2); (try clear hk); (try clear hi); (try clear ho0)) | ((with_reducible refine gate_dst (N := 4) rfl ?_); refine box_event ?hg (N := 4) ?hd (cs := #[.int .i64 0, .int .i64 0]) (t := 49) ?hr ?_; (case hd => rfl); (case hg => rfl); (case hr => first | (go_simp; done) | (go_simp; rfl)); intro gb408 hg w34 hbox hb; have n0_ := A0_ (Sb_ (wS_ HO402.out) hb); have n1_ := A0_ (Vb_ (Kd.V_elderB (wV_ HO405.out) gb408 (Nat.le_of_eq hg.symm)) hb); have n2_ := A0_ (below_step (wb_ HB.out) hb); have n3_ := A0_ (hbox); have n4_ := A0_ ((by rw [hg]; exact (below_size (wb_ HB.out)) : w.heap.size ≤ gb408)); have n5_ := A0_ ((by rw [hg]; exact (below_size (wb_ HB.out)) : w.heap.size ≤ gb408)); clear HO402; clear HO405; clear HB; have HO402 := n0_; have HO405 := n1_; have HB := n2_; have BK408 := n3_; have GW408 := n4_; have GE408 := n5_; clear n0_ n1_ n2_ n3_ n4_ n5_; clear hb hbox hg; have hcz35_0 : w34.cell? ⟨gb408, 0, none⟩ = some (.int .i64 0) := (bc_ BK408.out 0).trans rfl; have hcz35_1 : w34.cell? ⟨gb408, 1, none⟩ = some (.int .i64 0) := (bc_ BK408.out 1).trans rfl; have hfz35_0 := bf_ BK408.out 0; have hfz35_1 := bf_ BK408.out 1) | ((with_reducible refine gate_callee (f := 29) rfl ?_); refine goesL_ (some 19) rfl rfl Tryd.func29 (by kernel_rfl) rfl #[.slice A0 l0.length c0] rfl wm_ ?_; (with_reducible refine (bindleref08_Fold.calls _ _ l0 t409 t412 t413 _ ?side1 ?side2 A6.out).mono ?_); (case side1 => exact Kd.C_below HR0.out (wb1_ HB.out GE408.out)); (case side2 => exact HC0.out); rintro e w36 ⟨v410, rfl, ho0, hb⟩; refine ⟨_, rfl, ?_⟩; have n0_ := A0_ (Sb_ (by (with_reducible repeat (first | apply Sa_ | apply SN_ | apply S1_)); exact (Kd.S_mono (Kd.S_far (p := ⟨gb408, 1, none⟩) (Kd.S_far (p := ⟨gb408, 0, none⟩) (Kd.S_types HO402.out BK408.out (by decide)) (fun _ hk => hk.2) (.int .i64 t406)) (fun _ hk => hk.2) (.int .i64 t407)) (fun _ h_ => h_.1))) hb); have n1_ := A0_ (Vb_ (by (with_reducible repeat (first | apply Va_ | apply VN_ | apply V1_)); exact (Kd.V_mono (Kd.V_far (p := ⟨gb408, 1, none⟩) (Kd.V_far (p := ⟨gb408, 0, none⟩) (Kd.V_mono HO405.out (fun k_ hk => (⟨hk, hk.2⟩ : _ ∧ k_ ≠ gb408))) (fun _ hk => hk.2) (.int .i64 t406)) (fun _ hk => hk.2) (.int .i64 t407)) (fun _ h_ => h_.1))) hb); have n2_ := A0_ (Kd.V_lower (Kd.V_mono (ok' := fun k_ => some k_ ≠ (.slice Ao32 t400.length co32 : Value).ownBlock ∧ k_ ≠ gb408) ho0 (fun k_ hk_ => ⟨(Kd.fresh' (Kd.S_lt (by (with_reducible repeat (first | apply Sa_ | apply SN_ | apply S1_)); exact (Kd.S_mono (Kd.S_far (p := ⟨gb408, 1, none⟩) (Kd.S_far (p := ⟨gb408, 0, none⟩) (Kd.S_types HO402.out BK408.out (by decide)) (fun _ hk => hk.2) (.int .i64 t406)) (fun _ hk => hk.2) (.int .i64 t407)) (fun _ h_ => h_.1)))) k_ hk_), (Kd.freshB (g := gb408) (o := .cells #[.int .i64 t406, .int .i64 t407] 49 (0, 0)) (by (with_reducible repeat (first | refine blk_drewN ?_ _ | refine blk_drew ?_ | refine blk_alloc ?_ _)); refine blk_put (cs := #[.int .i64 t406, .int .i64 0]) ?_ 1 _ rfl; (with_reducible repeat (first | refine blk_drewN ?_ _ | refine blk_drew ?_ | refine blk_alloc ?_ _)); refine blk_put (cs := #[.int .i64 0, .int .i64 0]) ?_ 0 _ rfl; (with_reducible repeat (first | refine blk_drewN ?_ _ | refine blk_drew ?_ | refine blk_alloc ?_ _)); exact BK408.out) k_ hk_)⟩)) (below_size (wb1_ HB.out GE408.out))); have n3_ := A0_ (blk_below (g := gb408) (o := .cells #[.int .i64 t406, .int .i64 t407] 49 (0, 0)) (by (with_reducible repeat (first | refine blk_drewN ?_ _ | refine blk_drew ?_ | refine blk_alloc ?_ _)); refine blk_put (cs := #[.int .i64 t406, .int .i64 0]) ?_ 1 _ rfl; (with_reducible repeat (first | refine blk_drewN ?_ _ | refine blk_drew ?_ | refine blk_alloc ?_ _)); refine blk_put (cs := #[.int .i64 0, .int .i64 0]) ?_ 0 _ rfl; (with_reducible repeat (first | refine blk_drewN ?_ _ | refine blk_drew ?_ | refine blk_alloc ?_ _)); exact BK408.out) hb); have n4_ := A0_ (below_step (wb1_ HB.out GE408.out) hb); clear HO402; clear HO405; clear BK408; clear HB; have HO402 := n0_; have HO405 := n1_; have HO411 := n2_; have BK408 := n3_; have HB := n4_; clear n0_ n1_ n2_ n3_ n4_; (try clear hb); (try clear hb2); (try clear hk); (try clear hi); (try clear ho0)) | ((with_reducible refine gate_dst (N := 6) rfl ?_); refine box_event ?hg (N := 6) ?hd (cs := #[.int .i64 0, .int .i64 0]) (t := 49) ?hr ?_; (case hd => rfl); (case hg => rfl); (case hr => first | (go_simp; done) | (go_simp; rfl)); intro gb414 hg w37 hbox hb; have n0_ := A0_ (Sb_ (wS_ HO402.out) hb); have n1_ := A0_ (Vb_ (Kd.V_elderB (wV_ HO405.out) gb414 (Nat.le_of_eq hg.symm)) hb); have n2_ := A0_ (Vb_ (Kd.V_elderB (wV_ HO411.out) gb414 (Nat.le_of_eq hg.symm)) hb); have n3_ := A0_ (blk_below (g := gb408) (o := .cells #[.int .i64 t406, .int .i64 t407] 49 (0, 0)) (wB_ BK408.out) hb); have n4_ := A0_ (below_step (wb1_ HB.out GE408.out) hb); have n5_ := A0_ (hbox); have n6_ := A0_ ((by rw [hg]; exact (below_size (wb1_ HB.out GE408.out)) : w.heap.size ≤ gb414)); have n7_ := A0_ ((by rw [hg]; exact (below_size (wb1_ HB.out GE408.out)) : w.heap.size ≤ gb414)); have n8_ := A0_ ((by rw [hg]; exact Nat.ne_of_lt (blk_lt (g := gb408) (o := .cells #[.int .i64 t406, .int .i64 t407] 49 (0, 0)) (wB_ BK408.out)) : gb408 ≠ gb414)); have n9_ := A0_ ((by rw [hg]; exact Nat.ne_of_gt (blk_lt (g := gb408) (o := .cells #[.int .i64 t406, .int .i64 t407] 49 (0, 0)) (wB_ BK408.out)) : gb414 ≠ gb408)); clear HO402; clear HO405; clear HO411; clear BK408; clear HB; have HO402 := n0_; have HO405 := n1_; have HO411 := n2_; have BK408 := n3_; have HB := n4_; have BK414 := n5_; have GW414 := n6_; have GE414 := n7_; have NB408_414 := n8_; have NB414_408 := n9_; clear n0_ n1_ n2_ n3_ n4_ n5_ n6_ n7_ n8_ n9_; clear hb hbox hg; have hnb38 := NB414_408.out; have hnc38 := NB408_414.out; have hcz39_0 : w37.cell? ⟨gb414, 0, none⟩ = some (.int .i64 0) := (bc_ BK414.out 0).trans rfl; have hcz39_1 : w37.cell? ⟨gb414, 1, none⟩ = some (.int .i64 0) := (bc_ BK414.out 1).trans rfl; have hfz39_0 := bf_ BK414.out 0; have hfz39_1 := bf_ BK414.out 1) | ((with_reducible refine gate_callee (f := 26) rfl ?_); refine goesL_ (some 22) rfl rfl Tryd.func26 (by kernel_rfl) rfl #[] rfl wm_ ?_; (with_reducible refine (bindlelaw10_answers.calls  true _ ?side1 A7.out).mono ?_); (case side1 => exact A0_ (Tabs.below hT.out (wb2_ HB.out GE408.out GE414.out))); rintro e w40 ⟨rfl, hb⟩; refine ⟨_, rfl, ?_⟩; have n0_ := A0_ (Sb_ (by (with_reducible repeat (first | apply Sa_ | apply SN_ | apply S1_)); exact (Kd.S_mono (Kd.S_far (p := ⟨gb414, 1, none⟩) (Kd.S_far (p := ⟨gb414, 0, none⟩) (Kd.S_types HO402.out BK414.out (by decide)) (fun _ hk => hk.2) (.int .i64 t412)) (fun _ hk => hk.2) (.int .i64 t413)) (fun _ h_ => h_.1))) hb); have n1_ := A0_ (Vb_ (by (with_reducible repeat (first | apply Va_ | apply VN_ | apply V1_)); exact (Kd.V_mono (Kd.V_far (p := ⟨gb414, 1, none⟩) (Kd.V_far (p := ⟨gb414, 0, none⟩) (Kd.V_mono HO405.out (fun k_ hk => (⟨hk, hk.2⟩ : _ ∧ k_ ≠ gb414))) (fun _ hk => hk.2) (.int .i64 t412)) (fun _ hk => hk.2) (.int .i64 t413)) (fun _ h_ => h_.1))) hb); have n2_ := A0_ (Vb_ (by (with_reducible repeat (first | apply Va_ | apply VN_ | apply V1_)); exact (Kd.V_mono (Kd.V_far (p := ⟨gb414, 1, none⟩) (Kd.V_far (p := ⟨gb414, 0, none⟩) (Kd.V_mono HO411.out (fun k_ hk => (⟨hk, hk.2⟩ : _ ∧ k_ ≠ gb414))) (fun _ hk => hk.2) (.int .i64 t412)) (fun _ hk => hk.2) (.int .i64 t413)) (fun _ h_ => h_.1))) hb); have n3_ := A0_ (blk_below (g := gb408) (o := .cells #[.int .i64 t406, .int .i64 t407] 49 (0, 0)) (by (with_reducible repeat (first | refine blk_drewN ?_ _ | refine blk_drew ?_ | refine blk_alloc ?_ _)); refine blk_far ?_ NB408_414.out _; (with_reducible repeat (first | refine blk_drewN ?_ _ | refine blk_drew ?_ | refine blk_alloc ?_ _)); refine blk_far ?_ NB408_414.out _; (with_reducible repeat (first | refine blk_drewN ?_ _ | refine blk_drew ?_ | refine blk_alloc ?_ _)); exact BK408.out) hb); have n4_ := A0_ (blk_below (g := gb414) (o := .cells #[.int .i64 t412, .int .i64 t413] 49 (0, 0)) (by (with_reducible repeat (first | refine blk_drewN ?_ _ | refine blk_drew ?_ | refine blk_alloc ?_ _)); refine blk_put (cs := #[.int .i64 t412, .int .i64 0]) ?_ 1 _ rfl; (with_reducible repeat (first | refine blk_drewN ?_ _ | refine blk_drew ?_ | refine blk_alloc ?_ _)); refine blk_put (cs := #[.int .i64 0, .int .i64 0]) ?_ 0 _ rfl; (with_reducible repeat (first | refine blk_drewN ?_ _ | refine blk_drew ?_ | refine blk_alloc ?_ _)); exact BK414.out) hb); have n5_ := A0_ (below_step (wb2_ HB.out GE408.out GE414.out) hb); clear HO402; clear HO405; clear HO411; clear BK408; clear BK414; clear HB; have HO402 := n0_; have HO405 := n1_; have HO411 := n2_; have BK408 := n3_; have BK414 := n4_; have HB := n5_; clear n0_ n1_ n2_ n3_ n4_ n5_; (try clear hb); (try clear hb2); (try clear hk); (try clear hi); have hcz41_0 : w40.cell? ⟨gb408, 0, none⟩ = some (.int .i64 t406) := (bc_ BK408.out 0).trans rfl; have hcz41_1 : w40.cell? ⟨gb408, 1, none⟩ = some (.int .i64 t407) := (bc_ BK408.out 1).trans rfl; have hfz41_0 := bf_ BK408.out 0; have hfz41_1 := bf_ BK408.out 1; have hcz42_0 : w40.cell? ⟨gb414, 0, none⟩ = some (.int .i64 t412) := (bc_ BK414.out 0).trans rfl; have hcz42_1 : w40.cell? ⟨gb414, 1, none⟩ = some (.int .i64 t413) := (bc_ BK414.out 1).trans rfl; have hfz42_0 := bf_ BK414.out 0; have hfz42_1 := bf_ BK414.out 1; obtain ⟨Ao43, co43, eo43⟩ := Kd.V_slice HO405.out; subst eo43; obtain ⟨Ao44, co44, eo44⟩ := Kd.V_slice HO411.out; subst eo44) | (go_at_call 30; (with_reducible refine (bindleref08_SameTree.calls k _ _ t403 _ _ t409 true _ ?side1 ?side2 ?side3 ?side4 A10.out).mono ?_); (case side1 => exact wc_ (Kd.V_reads' HO405.out).2.2); (case side2 => exact (Kd.V_reads' HO405.out).2.1); (case side3 => exact wc_ (Kd.V_reads' HO411.out).2.2); (case side4 => exact (Kd.V_reads' HO411.out).2.1); rintro e w45 ⟨rfl, hb⟩; have n0_ := A0_ (Sb_ (wS_ HO402.out) hb); have n1_ := A0_ (Vb_ (wV_ HO405.out) hb); have n2_ := A0_ (Vb_ (wV_ HO411.out) hb); have n3_ := A0_ (blk_below (g := gb408) (o := .cells #[.int .i64 t406, .int .i64 t407] 49 (0, 0)) (wB_ BK408.out) hb); have n4_ := A0_ (blk_below (g := gb414) (o := .cells #[.int .i64 t412, .int .i64 t413] 49 (0, 0)) (wB_ BK414.out) hb); have n5_ := A0_ (below_step (wb2_ HB.out GE408.out GE414.out) hb); clear HO402; clear HO405; clear HO411; clear BK408; clear BK414; clear HB; have HO402 := n0_; have HO405 := n1_; have HO411 := n2_; have BK408 := n3_; have BK414 := n4_; have HB := n5_; clear n0_ n1_ n2_ n3_ n4_ n5_; (try clear hb); (try clear hb2); (try clear hk); (try clear hi); have hcz46_0 : w45.cell? ⟨gb408, 0, none⟩ = some (.int .i64 t406) := (bc_ BK408.out 0).trans rfl; have hcz46_1 : w45.cell? ⟨gb408, 1, none⟩ = some (.int .i64 t407) := (bc_ BK408.out 1).trans rfl; have hfz46_0 := bf_ BK408.out 0; have hfz46_1 := bf_ BK408.out 1))
  go_ret
  exact ⟨we_, wb2_ HB.out GE408.out GE414.out⟩
 rw [if_pos c12] at H
 have c12b0 : (t406 == 0) = true := beq_iff_eq.mpr c12
 have c12b1 : (t406 != 0) = false := bne_eq_false_iff_eq.mpr c12
 clear c12
 replace H := Option.bind_eq_some_iff.mp H
 obtain ⟨t417, A130, H⟩ := H
 replace H : (some t417) = some r := H
 have A13 := A0_ A130
 clear A130
 obtain rfl := Option.some.inj H
 go_enter Tryd.func8, Tryd.ntmps8
 go_wp2_with (first | ((with_reducible refine gate_callee (f := 25) rfl ?_); refine goesL_ (some 8) rfl rfl Tryd.func25 (by kernel_rfl) rfl #[.slice A0 l0.length c0] rfl wm_ ?_; (with_reducible refine (bindlelaw10_light.calls k _ _ l0 true _ ?side1 ?side2 A2.out).mono ?_); (case side1 => exact wc_ HR0.out); (case side2 => exact HC0.out); rintro e w' ⟨rfl, ⟨nd, rfl⟩⟩; refine ⟨_, rfl, ?_⟩) | ((with_reducible refine gate_callee (f := 28) rfl ?_); refine goesL_ (some 13) rfl rfl Tryd.func28 (by kernel_rfl) rfl #[.slice A0 l0.length c0] rfl wm_ ?_; (with_reducible refine (bindleref08_Own.calls k _ _ l0 t400 _ ?side1 ?side2 A4.out).mono ?_); (case side1 => exact wc_ HR0.out); (case side2 => exact HC0.out); rintro e w14 ⟨v401, rfl, ho0, hb⟩; refine ⟨_, rfl, ?_⟩; have n0_ := A0_ (Kd.S_lower ho0 (below_size (wb_ HB.out))); have n1_ := A0_ (below_step (wb_ HB.out) hb); clear HB; have HO402 := n0_; have HB := n1_; clear n0_ n1_; (try clear hb); (try clear hb2); (try clear hk); (try clear hi); (try clear ho0); obtain ⟨Ao15, co15, eo15⟩ := Kd.S_slice HO402.out; subst eo15) | ((with_reducible refine gate_callee (f := 27) rfl ?_); refine goesL_ (some 14) rfl rfl Tryd.func27 (by kernel_rfl) rfl #[.slice Ao15 t400.length co15] rfl wm_ ?_; (with_reducible refine (tree_Fold.calls _ _ t400 t403 t406 t407 _ ?side1 ?side2 ?side3 A5.out).mono ?_); (case side1 => exact A0_ (Tabs.below hT.out (wb_ HB.out))); (case side2 => exact wc_ (Kd.S_reads' HO402.out).2.2); (case side3 => exact (Kd.S_reads' HO402.out).2.1); rintro e w16 ⟨v404, rfl, ho0, hb⟩; refine ⟨_, rfl, ?_⟩; have n0_ := A0_ (Sb_ (wS_ HO402.out) hb); have n1_ := A0_ (Kd.V_lower (Kd.V_mono (ok' := fun k_ => some k_ ≠ (.slice Ao15 t400.length co15 : Value).ownBlock) ho0 (fun k_ hk_ => (Kd.fresh' (Kd.S_lt (wS_ HO402.out)) k_ hk_))) (below_size (wb_ HB.out))); have n2_ := A0_ (below_step (wb_ HB.out) hb); clear HO402; clear HB; have HO402 := n0_; have HO405 := n1_; have HB := n2_; clear n0_ n1_ n2_; (try clear hb); (try clear hb2); (try clear hk); (try clear hi); (try clear ho0)) | ((with_reducible refine gate_dst (N := 4) rfl ?_); refine box_event ?hg (N := 4) ?hd (cs := #[.int .i64 0, .int .i64 0]) (t := 49) ?hr ?_; (case hd => rfl); (case hg => rfl); (case hr => first | (go_simp; done) | (go_simp; rfl)); intro gb408 hg w17 hbox hb; have n0_ := A0_ (Sb_ (wS_ HO402.out) hb); have n1_ := A0_ (Vb_ (Kd.V_elderB (wV_ HO405.out) gb408 (Nat.le_of_eq hg.symm)) hb); have n2_ := A0_ (below_step (wb_ HB.out) hb); have n3_ := A0_ (hbox); have n4_ := A0_ ((by rw [hg]; exact (below_size (wb_ HB.out)) : w.heap.size ≤ gb408)); have n5_ := A0_ ((by rw [hg]; exact (below_size (wb_ HB.out)) : w.heap.size ≤ gb408)); clear HO402; clear HO405; clear HB; have HO402 := n0_; have HO405 := n1_; have HB := n2_; have BK408 := n3_; have GW408 := n4_; have GE408 := n5_; clear n0_ n1_ n2_ n3_ n4_ n5_; clear hb hbox hg; have hcz18_0 : w17.cell? ⟨gb408, 0, none⟩ = some (.int .i64 0) := (bc_ BK408.out 0).trans rfl; have hcz18_1 : w17.cell? ⟨gb408, 1, none⟩ = some (.int .i64 0) := (bc_ BK408.out 1).trans rfl; have hfz18_0 := bf_ BK408.out 0; have hfz18_1 := bf_ BK408.out 1) | ((with_reducible refine gate_callee (f := 29) rfl ?_); refine goesL_ (some 19) rfl rfl Tryd.func29 (by kernel_rfl) rfl #[.slice A0 l0.length c0] rfl wm_ ?_; (with_reducible refine (bindleref08_Fold.calls _ _ l0 t409 t412 t413 _ ?side1 ?side2 A6.out).mono ?_); (case side1 => exact Kd.C_below HR0.out (wb1_ HB.out GE408.out)); (case side2 => exact HC0.out); rintro e w19 ⟨v410, rfl, ho0, hb⟩; refine ⟨_, rfl, ?_⟩; have n0_ := A0_ (Sb_ (by (with_reducible repeat (first | apply Sa_ | apply SN_ | apply S1_)); exact (Kd.S_mono (Kd.S_far (p := ⟨gb408, 1, none⟩) (Kd.S_far (p := ⟨gb408, 0, none⟩) (Kd.S_types HO402.out BK408.out (by decide)) (fun _ hk => hk.2) (.int .i64 t406)) (fun _ hk => hk.2) (.int .i64 t407)) (fun _ h_ => h_.1))) hb); have n1_ := A0_ (Vb_ (by (with_reducible repeat (first | apply Va_ | apply VN_ | apply V1_)); exact (Kd.V_mono (Kd.V_far (p := ⟨gb408, 1, none⟩) (Kd.V_far (p := ⟨gb408, 0, none⟩) (Kd.V_mono HO405.out (fun k_ hk => (⟨hk, hk.2⟩ : _ ∧ k_ ≠ gb408))) (fun _ hk => hk.2) (.int .i64 t406)) (fun _ hk => hk.2) (.int .i64 t407)) (fun _ h_ => h_.1))) hb); have n2_ := A0_ (Kd.V_lower (Kd.V_mono (ok' := fun k_ => some k_ ≠ (.slice Ao15 t400.length co15 : Value).ownBlock ∧ k_ ≠ gb408) ho0 (fun k_ hk_ => ⟨(Kd.fresh' (Kd.S_lt (by (with_reducible repeat (first | apply Sa_ | apply SN_ | apply S1_)); exact (Kd.S_mono (Kd.S_far (p := ⟨gb408, 1, none⟩) (Kd.S_far (p := ⟨gb408, 0, none⟩) (Kd.S_types HO402.out BK408.out (by decide)) (fun _ hk => hk.2) (.int .i64 t406)) (fun _ hk => hk.2) (.int .i64 t407)) (fun _ h_ => h_.1)))) k_ hk_), (Kd.freshB (g := gb408) (o := .cells #[.int .i64 t406, .int .i64 t407] 49 (0, 0)) (by (with_reducible repeat (first | refine blk_drewN ?_ _ | refine blk_drew ?_ | refine blk_alloc ?_ _)); refine blk_put (cs := #[.int .i64 t406, .int .i64 0]) ?_ 1 _ rfl; (with_reducible repeat (first | refine blk_drewN ?_ _ | refine blk_drew ?_ | refine blk_alloc ?_ _)); refine blk_put (cs := #[.int .i64 0, .int .i64 0]) ?_ 0 _ rfl; (with_reducible repeat (first | refine blk_drewN ?_ _ | refine blk_drew ?_ | refine blk_alloc ?_ _)); exact BK408.out) k_ hk_)⟩)) (below_size (wb1_ HB.out GE408.out))); have n3_ := A0_ (blk_below (g := gb408) (o := .cells #[.int .i64 t406, .int .i64 t407] 49 (0, 0)) (by (with_reducible repeat (first | refine blk_drewN ?_ _ | refine blk_drew ?_ | refine blk_alloc ?_ _)); refine blk_put (cs := #[.int .i64 t406, .int .i64 0]) ?_ 1 _ rfl; (with_reducible repeat (first | refine blk_drewN ?_ _ | refine blk_drew ?_ | refine blk_alloc ?_ _)); refine blk_put (cs := #[.int .i64 0, .int .i64 0]) ?_ 0 _ rfl; (with_reducible repeat (first | refine blk_drewN ?_ _ | refine blk_drew ?_ | refine blk_alloc ?_ _)); exact BK408.out) hb); have n4_ := A0_ (below_step (wb1_ HB.out GE408.out) hb); clear HO402; clear HO405; clear BK408; clear HB; have HO402 := n0_; have HO405 := n1_; have HO411 := n2_; have BK408 := n3_; have HB := n4_; clear n0_ n1_ n2_ n3_ n4_; (try clear hb); (try clear hb2); (try clear hk); (try clear hi); (try clear ho0)) | ((with_reducible refine gate_dst (N := 6) rfl ?_); refine box_event ?hg (N := 6) ?hd (cs := #[.int .i64 0, .int .i64 0]) (t := 49) ?hr ?_; (case hd => rfl); (case hg => rfl); (case hr => first | (go_simp; done) | (go_simp; rfl)); intro gb414 hg w20 hbox hb; have n0_ := A0_ (Sb_ (wS_ HO402.out) hb); have n1_ := A0_ (Vb_ (Kd.V_elderB (wV_ HO405.out) gb414 (Nat.le_of_eq hg.symm)) hb); have n2_ := A0_ (Vb_ (Kd.V_elderB (wV_ HO411.out) gb414 (Nat.le_of_eq hg.symm)) hb); have n3_ := A0_ (blk_below (g := gb408) (o := .cells #[.int .i64 t406, .int .i64 t407] 49 (0, 0)) (wB_ BK408.out) hb); have n4_ := A0_ (below_step (wb1_ HB.out GE408.out) hb); have n5_ := A0_ (hbox); have n6_ := A0_ ((by rw [hg]; exact (below_size (wb1_ HB.out GE408.out)) : w.heap.size ≤ gb414)); have n7_ := A0_ ((by rw [hg]; exact (below_size (wb1_ HB.out GE408.out)) : w.heap.size ≤ gb414)); have n8_ := A0_ ((by rw [hg]; exact Nat.ne_of_lt (blk_lt (g := gb408) (o := .cells #[.int .i64 t406, .int .i64 t407] 49 (0, 0)) (wB_ BK408.out)) : gb408 ≠ gb414)); have n9_ := A0_ ((by rw [hg]; exact Nat.ne_of_gt (blk_lt (g := gb408) (o := .cells #[.int .i64 t406, .int .i64 t407] 49 (0, 0)) (wB_ BK408.out)) : gb414 ≠ gb408)); clear HO402; clear HO405; clear HO411; clear BK408; clear HB; have HO402 := n0_; have HO405 := n1_; have HO411 := n2_; have BK408 := n3_; have HB := n4_; have BK414 := n5_; have GW414 := n6_; have GE414 := n7_; have NB408_414 := n8_; have NB414_408 := n9_; clear n0_ n1_ n2_ n3_ n4_ n5_ n6_ n7_ n8_ n9_; clear hb hbox hg; have hnb21 := NB414_408.out; have hnc21 := NB408_414.out; have hcz22_0 : w20.cell? ⟨gb414, 0, none⟩ = some (.int .i64 0) := (bc_ BK414.out 0).trans rfl; have hcz22_1 : w20.cell? ⟨gb414, 1, none⟩ = some (.int .i64 0) := (bc_ BK414.out 1).trans rfl; have hfz22_0 := bf_ BK414.out 0; have hfz22_1 := bf_ BK414.out 1) | ((with_reducible refine gate_callee (f := 26) rfl ?_); refine goesL_ (some 22) rfl rfl Tryd.func26 (by kernel_rfl) rfl #[] rfl wm_ ?_; (with_reducible refine (bindlelaw10_answers.calls  true _ ?side1 A7.out).mono ?_); (case side1 => exact A0_ (Tabs.below hT.out (wb2_ HB.out GE408.out GE414.out))); rintro e w23 ⟨rfl, hb⟩; refine ⟨_, rfl, ?_⟩; have n0_ := A0_ (Sb_ (by (with_reducible repeat (first | apply Sa_ | apply SN_ | apply S1_)); exact (Kd.S_mono (Kd.S_far (p := ⟨gb414, 1, none⟩) (Kd.S_far (p := ⟨gb414, 0, none⟩) (Kd.S_types HO402.out BK414.out (by decide)) (fun _ hk => hk.2) (.int .i64 t412)) (fun _ hk => hk.2) (.int .i64 t413)) (fun _ h_ => h_.1))) hb); have n1_ := A0_ (Vb_ (by (with_reducible repeat (first | apply Va_ | apply VN_ | apply V1_)); exact (Kd.V_mono (Kd.V_far (p := ⟨gb414, 1, none⟩) (Kd.V_far (p := ⟨gb414, 0, none⟩) (Kd.V_mono HO405.out (fun k_ hk => (⟨hk, hk.2⟩ : _ ∧ k_ ≠ gb414))) (fun _ hk => hk.2) (.int .i64 t412)) (fun _ hk => hk.2) (.int .i64 t413)) (fun _ h_ => h_.1))) hb); have n2_ := A0_ (Vb_ (by (with_reducible repeat (first | apply Va_ | apply VN_ | apply V1_)); exact (Kd.V_mono (Kd.V_far (p := ⟨gb414, 1, none⟩) (Kd.V_far (p := ⟨gb414, 0, none⟩) (Kd.V_mono HO411.out (fun k_ hk => (⟨hk, hk.2⟩ : _ ∧ k_ ≠ gb414))) (fun _ hk => hk.2) (.int .i64 t412)) (fun _ hk => hk.2) (.int .i64 t413)) (fun _ h_ => h_.1))) hb); have n3_ := A0_ (blk_below (g := gb408) (o := .cells #[.int .i64 t406, .int .i64 t407] 49 (0, 0)) (by (with_reducible repeat (first | refine blk_drewN ?_ _ | refine blk_drew ?_ | refine blk_alloc ?_ _)); refine blk_far ?_ NB408_414.out _; (with_reducible repeat (first | refine blk_drewN ?_ _ | refine blk_drew ?_ | refine blk_alloc ?_ _)); refine blk_far ?_ NB408_414.out _; (with_reducible repeat (first | refine blk_drewN ?_ _ | refine blk_drew ?_ | refine blk_alloc ?_ _)); exact BK408.out) hb); have n4_ := A0_ (blk_below (g := gb414) (o := .cells #[.int .i64 t412, .int .i64 t413] 49 (0, 0)) (by (with_reducible repeat (first | refine blk_drewN ?_ _ | refine blk_drew ?_ | refine blk_alloc ?_ _)); refine blk_put (cs := #[.int .i64 t412, .int .i64 0]) ?_ 1 _ rfl; (with_reducible repeat (first | refine blk_drewN ?_ _ | refine blk_drew ?_ | refine blk_alloc ?_ _)); refine blk_put (cs := #[.int .i64 0, .int .i64 0]) ?_ 0 _ rfl; (with_reducible repeat (first | refine blk_drewN ?_ _ | refine blk_drew ?_ | refine blk_alloc ?_ _)); exact BK414.out) hb); have n5_ := A0_ (below_step (wb2_ HB.out GE408.out GE414.out) hb); clear HO402; clear HO405; clear HO411; clear BK408; clear BK414; clear HB; have HO402 := n0_; have HO405 := n1_; have HO411 := n2_; have BK408 := n3_; have BK414 := n4_; have HB := n5_; clear n0_ n1_ n2_ n3_ n4_ n5_; (try clear hb); (try clear hb2); (try clear hk); (try clear hi); have hcz24_0 : w23.cell? ⟨gb408, 0, none⟩ = some (.int .i64 t406) := (bc_ BK408.out 0).trans rfl; have hcz24_1 : w23.cell? ⟨gb408, 1, none⟩ = some (.int .i64 t407) := (bc_ BK408.out 1).trans rfl; have hfz24_0 := bf_ BK408.out 0; have hfz24_1 := bf_ BK408.out 1; have hcz25_0 : w23.cell? ⟨gb414, 0, none⟩ = some (.int .i64 t412) := (bc_ BK414.out 0).trans rfl; have hcz25_1 : w23.cell? ⟨gb414, 1, none⟩ = some (.int .i64 t413) := (bc_ BK414.out 1).trans rfl; have hfz25_0 := bf_ BK414.out 0; have hfz25_1 := bf_ BK414.out 1; obtain ⟨Ao26, co26, eo26⟩ := Kd.V_slice HO405.out; subst eo26; obtain ⟨Ao27, co27, eo27⟩ := Kd.V_slice HO411.out; subst eo27) | (go_at_call 30; (with_reducible refine (bindleref08_SameTree.calls k _ _ t403 _ _ t409 true _ ?side1 ?side2 ?side3 ?side4 A10.out).mono ?_); (case side1 => exact wc_ (Kd.V_reads' HO405.out).2.2); (case side2 => exact (Kd.V_reads' HO405.out).2.1); (case side3 => exact wc_ (Kd.V_reads' HO411.out).2.2); (case side4 => exact (Kd.V_reads' HO411.out).2.1); rintro e w28 ⟨rfl, hb⟩; have n0_ := A0_ (Sb_ (wS_ HO402.out) hb); have n1_ := A0_ (Vb_ (wV_ HO405.out) hb); have n2_ := A0_ (Vb_ (wV_ HO411.out) hb); have n3_ := A0_ (blk_below (g := gb408) (o := .cells #[.int .i64 t406, .int .i64 t407] 49 (0, 0)) (wB_ BK408.out) hb); have n4_ := A0_ (blk_below (g := gb414) (o := .cells #[.int .i64 t412, .int .i64 t413] 49 (0, 0)) (wB_ BK414.out) hb); have n5_ := A0_ (below_step (wb2_ HB.out GE408.out GE414.out) hb); clear HO402; clear HO405; clear HO411; clear BK408; clear BK414; clear HB; have HO402 := n0_; have HO405 := n1_; have HO411 := n2_; have BK408 := n3_; have BK414 := n4_; have HB := n5_; clear n0_ n1_ n2_ n3_ n4_ n5_; (try clear hb); (try clear hb2); (try clear hk); (try clear hi); have hcz29_0 : w28.cell? ⟨gb408, 0, none⟩ = some (.int .i64 t406) := (bc_ BK408.out 0).trans rfl; have hcz29_1 : w28.cell? ⟨gb408, 1, none⟩ = some (.int .i64 t407) := (bc_ BK408.out 1).trans rfl; have hfz29_0 := bf_ BK408.out 0; have hfz29_1 := bf_ BK408.out 1) | (go_at_call 31; (with_reducible refine (tree_Good.calls _ _ t403 t417 _ ?side1 ?side2 ?side3 A13.out).mono ?_); (case side1 => exact A0_ (Tabs.below hT.out (wb2_ HB.out GE408.out GE414.out))); (case side2 => exact wc_ (Kd.V_reads' HO405.out).2.2); (case side3 => exact (Kd.V_reads' HO405.out).2.1); rintro e w30 ⟨rfl, hb⟩; have n0_ := A0_ (Sb_ (wS_ HO402.out) hb); have n1_ := A0_ (Vb_ (wV_ HO405.out) hb); have n2_ := A0_ (Vb_ (wV_ HO411.out) hb); have n3_ := A0_ (blk_below (g := gb408) (o := .cells #[.int .i64 t406, .int .i64 t407] 49 (0, 0)) (wB_ BK408.out) hb); have n4_ := A0_ (blk_below (g := gb414) (o := .cells #[.int .i64 t412, .int .i64 t413] 49 (0, 0)) (wB_ BK414.out) hb); have n5_ := A0_ (below_step (wb2_ HB.out GE408.out GE414.out) hb); clear HO402; clear HO405; clear HO411; clear BK408; clear BK414; clear HB; have HO402 := n0_; have HO405 := n1_; have HO411 := n2_; have BK408 := n3_; have BK414 := n4_; have HB := n5_; clear n0_ n1_ n2_ n3_ n4_ n5_; (try clear hb); (try clear hb2); (try clear hk); (try clear hi)))
 go_ret
 exact ⟨we_, wb2_ HB.out GE408.out GE414.out⟩
end Go.Proofs.YtfljbidecljlcaaDoor.Print

namespace Go.Proofs.YtfljbidecljlcaaDoor
open Go.RowKit Go.Proofs.YtfljbidecljlcaaDoor.Print Go.Proofs.YtfljbidecljlcaaDoorW.PrintWords
set_option linter.unusedVariables false
def LightM (l : List Mem) : Prop := l.length ≤ 60 ∧ ∀ x ∈ l, x.f0.size ≤ 2000 ∧ x.f1.size ≤ 2000 ∧ x.f4.length ≤ 100000
theorem rdM_nat (l : List Mem) (j : Nat) (h : j < l.length) : rd_T45 l (j : Int) = l[j] := by rw [rdM_at l j (by omega) (by omega)]; simp
theorem light_l (l : List Mem) (hlen : l.length ≤ 140737488351232) : ∀ (d i : Nat) (s : Int), i + d = l.length → (∀ (j : Nat) (hj : j < l.length), j < i → l.length ≤ 60 ∧ l[j].f0.size ≤ 2000 ∧ l[j].f1.size ≤ 2000 ∧ l[j].f4.length ≤ 100000) → ∃ b, Ev (fun k => bindlelaw10_light.l0 k l s (i : Int)) b ∧ (b = true → LightM l) := by
 intro d
 induction d with
 | zero =>
  intro i s hi hp
  refine ⟨decide (s ≤ 200000), Ev.step (f := fun _ => some (decide (s ≤ 200000))) (fun k => by rw [bindlelaw10_light.l0, if_neg (by omega)]) (Ev.now _), fun _ => ⟨?_, fun x hx => ?_⟩⟩
  ·rcases Nat.eq_zero_or_pos l.length with h | h
   ·omega
   ·exact (hp 0 h (by omega)).1
  ·obtain ⟨j, hj, rfl⟩ := List.getElem_of_mem hx
   exact (hp j hj (by omega)).2
 | succ d ih =>
  intro i s hi hp
  have hil : i < l.length := by omega
  have hr := rdM_nat l i hil
  by_cases h60 : (l.length : Int) > 60
  ·exact ⟨false, Ev.step (f := fun _ => some false) (fun k => by rw [bindlelaw10_light.l0, if_pos (by omega), if_pos h60]) (Ev.now _), fun h => by cases h⟩
  ·by_cases hA : (l[i].f0.size : Int) > 2000
   ·exact ⟨false, Ev.step (f := fun _ => some false) (fun k => by rw [bindlelaw10_light.l0, if_pos (by omega), if_neg h60, if_pos (by omega), hr, if_pos hA]) (Ev.now _), fun h => by cases h⟩
   ·by_cases hB : (l[i].f1.size : Int) > 2000
    ·exact ⟨false, Ev.step (f := fun _ => some false) (fun k => by rw [bindlelaw10_light.l0, if_pos (by omega), if_neg h60, if_pos (by omega), hr, if_neg hA, if_pos hB]) (Ev.now _), fun h => by cases h⟩
    ·by_cases hC : (l[i].f4.length : Int) > 100000
     ·exact ⟨false, Ev.step (f := fun _ => some false) (fun k => by rw [bindlelaw10_light.l0, if_pos (by omega), if_neg h60, if_pos (by omega), hr, if_neg hA, if_neg hB, if_pos hC]) (Ev.now _), fun h => by cases h⟩
     ·obtain ⟨b, h1, h2⟩ := ih (i + 1) (wrap64 (s + (l[i].f4.length : Int))) (by omega) (fun j hj hji => by
       rcases Nat.lt_or_ge j i with h | h
       ·exact hp j hj h
       ·obtain rfl : j = i := by omega
        exact ⟨by omega, by omega, by omega, by omega⟩)
      refine ⟨b, Ev.step (fun k => ?_) h1, h2⟩
      rw [bindlelaw10_light.l0, if_pos (by omega), if_neg h60, if_pos (by omega), hr, if_neg hA, if_neg hB, if_neg hC]
      rw [show wrap64 ((i : Int) + 1) = ((i + 1 : Nat) : Int) by unfold wrap64; omega]
theorem light_eq (l : List Mem) (hlen : l.length ≤ 140737488351232) : ∃ b, Ev (fun k => bindlelaw10_light.f k l) b ∧ (b = true → LightM l) := light_l l hlen l.length 0 0 (by omega) (fun j hj h => absurd h (Nat.not_lt_zero _))
theorem own_l (l : List Mem) (hl : LightM l) : ∀ (d i : Nat), i + d = l.length → Ev (fun k => bindleref08_Own.l0 k l (l.take i) (i : Int)) l := by
 intro d
 induction d with
 | zero =>
  intro i hi
  have e : l.take i = l := List.take_of_length_le (by omega)
  exact Ev.step (f := fun _ => some l) (fun k => by rw [bindleref08_Own.l0, if_neg (by omega), e]) (Ev.now _)
 | succ d ih =>
  intro i hi
  have hil : i < l.length := by omega
  have hr := rdM_nat l i hil
  have h60 := hl.1
  have hx := hl.2 _ (List.getElem_mem hil)
  refine Ev.step (fun k => ?_) (ih (i + 1) (by omega))
  rw [bindleref08_Own.l0, if_pos (by omega), if_pos (by omega), hr]
  simp only [Option.bind_some, List.length_nil, Nat.zero_add, List.nil_append]
  rw [if_pos (by omega), if_pos (by rw [List.length_take]; omega)]
  rw [show wrap64 ((i : Int) + 1) = ((i + 1 : Nat) : Int) by unfold wrap64; omega, List.take_succ_eq_append_getElem hil]
theorem own_eq (l : List Mem) (hl : LightM l) : Ev (fun k => bindleref08_Own.f k l) l := own_l l hl l.length 0 (by omega)
theorem LightM.z {l : List Mem} (h : LightM l) : MemsZ l := ⟨by have := h.1; omega, fun x hx => by have := h.2 x hx; exact ⟨by omega, by omega, by omega⟩⟩
theorem TreeFolds_true (l : List Mem) (hlen : l.length ≤ 140737488351232) : Ev (fun k => bindlelaw10_TreeFolds.f k l) true := by
 obtain ⟨b, h1, h2⟩ := light_eq l hlen
 unfold bindlelaw10_TreeFolds.f
 refine Ev.bind h1 ?_
 cases b with
 | false => exact Ev.congr (f := fun _ => some true) (fun k => by rw [if_neg (by simp)]; rfl) (Ev.now _)
 | true =>
  have hl := h2 rfl
  have hz := hl.z
  have hzb := (memsZ_iff l).2 hz
  obtain ⟨hle, hgd⟩ := fold_good hz (by have := hl.1; omega)
  have hsm := sameTree_eq (foldF l).1 (foldF l).1 (by have := hl.1; omega)
  rw [sameB_refl] at hsm
  refine Ev.congr (fun k => by rw [if_pos rfl]) ?_
  refine Ev.bind (own_eq l hl) ?_
  unfold tree_Fold.f bindleref08_Fold.f bindlelaw10_answers.f
  refine Ev.congr (f := fun k => (bindleref08_SameTree.f k (foldF l).1 (foldF l).1).bind fun t416 => (if t416 = true then (if (foldF l).2.1 = 0 then ((tree_Good.f (foldF l).1).bind fun t417 => (some t417)) else (some true)) else (some false))) (fun k => ?_) ?_
  ·rw [if_pos hzb]
   simp
  ·refine Ev.bind hsm ?_
   by_cases h0 : (foldF l).2.1 = 0
   ·obtain ⟨hg, hn⟩ := hgd h0
    refine Ev.congr (f := fun _ => some true) (fun k => ?_) (Ev.now _)
    unfold tree_Good.f
    rw [if_pos rfl, if_pos h0, if_pos ((nodesG_iff _).2 hn), hg]
    rfl
   ·exact Ev.congr (f := fun _ => some true) (fun k => by rw [if_pos rfl, if_neg h0]) (Ev.now _)
end Go.Proofs.YtfljbidecljlcaaDoor

namespace Go.Proofs.YtfljbidecljlcaaDoor
open Go.RowKit Go.Lib Go.Proofs.YtfljbidecljlcaaDoorW.PrintWords
theorem laidOut : laidOutB Tryd.prog = true := by kernel_rfl
end Go.Proofs.YtfljbidecljlcaaDoor

namespace Go.Proofs.YtfljbidecljlcaaDoor
open Go.ChangeShapes Go.WideShapes Go.RowKit Go.Proofs.YtfljbidecljlcaaDoorW.PrintWords
structure Opens {α : Type} (P : Program) (d : Kd α) (t : TypeId) (B : α → Prop) : Prop where
 sz : P.cellsOf t = d.sz
 get : ∀ {H : Type} {enc : TypeId × Value → H} {W : World} {fuel : Nat} {cs : List Value} {x : DataW H × List MemPlace},
  DataW.trod enc P W 0 (fun _ => true) true fuel t cs = some x → (∀ n ∈ x.1.weights P t, n ≤ reachBytes) → ∃ a, d.K W a cs ∧ B a
theorem Opens.int {P : Program} {t : TypeId} {k : IntKind} (ht : P.underlying t = some (.int k)) (hc : P.cellsOf t = 1) : Opens P (Kd.int k) t (fun n => (Lit.int k n).wf = true) :=
 ⟨hc, fun h _ => by
  obtain ⟨n, rfl, rfl, hw⟩ := DataW.trod_int ht h
  exact ⟨n, rfl, hw⟩⟩
theorem Opens.bool {P : Program} {t : TypeId} (ht : P.underlying t = some .bool) (hc : P.cellsOf t = 1) : Opens P Kd.bool t (fun _ => True) :=
 ⟨hc, fun h _ => by
  obtain ⟨n, rfl, rfl⟩ := DataW.trod_bool ht h
  exact ⟨n, rfl, trivial⟩⟩
theorem Opens.string {P : Program} {t : TypeId} (ht : P.underlying t = some .string) (hc : P.cellsOf t = 1) : Opens P Kd.string t (fun s => s.size ≤ 140737488351232) :=
 ⟨hc, fun h hw => by
  obtain ⟨s, rfl, rfl, _⟩ := DataW.trod_string ht h
  refine ⟨s, rfl, ?_⟩
  have := hw s.data.toList.length (by simp [DataW.weights])
  have e : s.data.toList.length = s.size := by simp
  rw [e] at this
  exact this⟩
theorem each_list {α : Type} {Q : Nat → α → Prop} : ∀ n : Nat, (∀ i, i < n → ∃ x, Q i x) → ∃ xs : List α, xs.length = n ∧ ∀ i x, xs[i]? = some x → Q i x := by
 intro n
 induction n with
 | zero => exact fun _ => ⟨[], rfl, fun i x h => by simp at h⟩
 | succ n ih =>
  intro h
  obtain ⟨xs, hl, hx⟩ := ih (fun i hi => h i (by omega))
  obtain ⟨y, hy⟩ := h n (by omega)
  refine ⟨xs ++ [y], by simp [hl], fun i x hi => ?_⟩
  rcases Nat.lt_or_ge i n with h1 | h1
  ·rw [List.getElem?_append_left (by omega)] at hi
   exact hx i x hi
  ·rw [List.getElem?_append_right (by omega)] at hi
   have h0 : i - xs.length = 0 := by
    have := (List.getElem?_eq_some_iff.1 hi).1
    simp at this
    omega
   rw [h0] at hi
   simp at hi
   subst hi
   obtain rfl : i = n := by omega
   exact hy
theorem weights_all {H : Type} {P : Program} {e : TypeId} : ∀ {l : List (DataW H)} {y : DataW H}, y ∈ l → ∀ n ∈ y.weights P e, n ∈ DataW.weightsAll P e l
 | z :: r, y, hy, n, hn => by
  simp only [DataW.weightsAll, List.mem_append]
  rcases List.mem_cons.1 hy with rfl | hy
  ·exact .inl hn
  ·exact .inr (weights_all hy n hn)
theorem add_add (a : Addr) (x y : Nat) : (a.add x).add y = a.add (x + y) := by
 unfold Addr.add
 split
 ·rename_i h
  subst h
  simp
 ·rename_i h
  split
  ·rename_i h2
   subst h2
   simp [h]
  ·rw [if_neg (by omega)]
   simp [Nat.add_assoc]
theorem Opens.slice {α : Type} {P : Program} {d : Kd α} {B : α → Prop} {t e : TypeId} (ht : P.underlying t = some (.slice e)) (hc : P.cellsOf t = 1) (h : Opens P d e B) :
  Opens P (Kd.slice e d) t (fun xs => xs.length * P.bytesOf e ≤ 140737488351232 ∧ ∀ x ∈ xs, B x) :=
 ⟨hc, fun {H enc W fuel cs x} hf hw => by
  rcases DataW.trod_slice ht hf with ⟨rfl, rfl⟩ | ⟨a, len, cap, elems, rest, n, _, rfl, rfl, hb, hl, hm, hlen, hel, hsp, hns⟩
  ·exact ⟨[], ⟨none, 0, rfl, Nat.le_refl _, Kd.C_nil d W⟩, by simp, fun x hx => by cases hx⟩
  ·simp only [DataW.weights, ht] at hw
   have each : ∀ i, i < len → ∃ z : α, B z ∧ ∃ c, c.length = d.sz ∧ d.K W z c ∧ ∀ j u, c[j]? = some u → W.cell? (a.add (i * d.sz + j)) = some u := by
    intro i hi
    have h1 := hel i hi
    have hi' : i < elems.length := by omega
    rw [List.getElem?_eq_getElem hi', Option.bind_eq_some_iff] at h1
    obtain ⟨c, hcs, hy⟩ := h1
    obtain ⟨-, h2, h3⟩ := World.cells?_some hcs
    obtain ⟨z, hz, hB⟩ := h.get hy (fun n hn => hw n (by
     simp only [List.mem_cons, List.mem_append]
     exact .inr (.inl (weights_all (List.mem_map.2 ⟨_, List.getElem_mem hi', rfl⟩) n hn))))
    refine ⟨z, hB, c, by rw [h2, h.sz], hz, fun j u hj => ?_⟩
    have hj' : j < P.cellsOf e := by
     have := (List.getElem?_eq_some_iff.1 hj).1
     omega
    have h4 := h3 j hj'
    rw [add_add, h.sz] at h4
    rw [h4, hj]
   obtain ⟨xs, hxl, hxs⟩ := each_list len each
   subst hxl
   have hz := hw _ (List.mem_cons_self ..)
   simp only [List.length_map] at hz
   have h5 : xs.length * P.bytesOf e ≤ (elems.length + rest.length) * P.bytesOf e := Nat.mul_le_mul_right _ (by omega)
   have h6 : reachBytes = 140737488351232 := rfl
   refine ⟨xs, ⟨some a, cap, rfl, hl, rfl, ?_, fun _ => ⟨a, rfl, fun j p hj => (hxs j p hj).2⟩⟩, by omega, fun x hx => ?_⟩
   ·have : maxLen = 9223372036854775807 := rfl
    omega
   ·obtain ⟨i, hi⟩ := List.getElem?_of_mem hx
    exact (hxs i x hi).1⟩
structure OpensF {α : Type} (P : Program) (d : Kd α) (fs : List Field) (o : Nat) (B : α → Prop) : Prop where
 get : ∀ {H : Type} {enc : TypeId × Value → H} {W : World} {n : Nat} {cs : List Value} {xs : List (DataW H × List MemPlace)}, xs.length = fs.length →
  (∀ (i : Nat) (f : Field), fs[i]? = some f → DataW.trod enc P W 0 (fun _ => true) true n f.type ((cs.drop f.offset).take (P.cellsOf f.type)) = xs[i]?) →
  (∀ m ∈ DataW.weightsEach P (fs.map (·.type)) (xs.map (·.1)), m ≤ reachBytes) → ∃ a, d.K W a ((cs.drop o).take d.sz) ∧ B a
theorem OpensF.one {α : Type} {P : Program} {d : Kd α} {B : α → Prop} {f : Field} {o : Nat} (ho : f.offset = o) (h : Opens P d f.type B) : OpensF P d [f] o B := by
 refine ⟨fun {H enc W n cs xs} hl hx hw => ?_⟩
 match xs, hl with
 | [x], _ =>
  have h0 := hx 0 f rfl
  rw [h.sz, ho] at h0
  simp only [List.getElem?_cons_zero] at h0
  exact h.get h0 (fun m hm => hw m (by simp only [List.map_cons, List.map_nil, DataW.weightsEach, List.mem_append]; exact .inl hm))
theorem OpensF.cons {α β : Type} {P : Program} {d : Kd α} {d' : Kd β} {B : α → Prop} {B' : β → Prop} {f : Field} {fs : List Field} {o : Nat} (ho : f.offset = o) (h : Opens P d f.type B) (h' : OpensF P d' fs (o + d.sz) B') :
  OpensF P (Kd.pair d d') (f :: fs) o (fun x => B x.1 ∧ B' x.2) := by
 refine ⟨fun {H enc W n cs xs} hl hx hw => ?_⟩
 match xs, hl with
 | x :: xs, hl =>
  have h0 := hx 0 f rfl
  rw [h.sz, ho] at h0
  simp only [List.getElem?_cons_zero] at h0
  obtain ⟨a, ha, hB⟩ := h.get h0 (fun m hm => hw m (by simp only [List.map_cons, DataW.weightsEach, List.mem_append]; exact .inl hm))
  obtain ⟨b, hb, hB'⟩ := h'.get (enc := enc) (W := W) (n := n) (cs := cs) (xs := xs) (by simpa using hl) (fun i g hg => by have := hx (i + 1) g (by simpa using hg); simpa using this)
   (fun m hm => hw m (by simp only [List.map_cons, DataW.weightsEach, List.mem_append]; exact .inr hm))
  refine ⟨(a, b), ⟨_, _, ?_, ha, hb⟩, hB, hB'⟩
  show (cs.drop o).take (d.sz + d'.sz) = _
  rw [List.take_add, List.drop_drop]
theorem Opens.struct {α β : Type} {P : Program} {d : Kd α} {B : α → Prop} {t : TypeId} {fs : Array Field} (ht : P.underlying t = some (.struct fs)) (hc : P.cellsOf t = d.sz) (h : OpensF P d fs.toList 0 B) (f : β → α) (g : α → β) (hg : ∀ a, f (g a) = a) :
  Opens P (Kd.iso d f) t (fun x => B (f x)) :=
 ⟨hc, fun {H enc W fuel cs x} hf hw => by
  obtain ⟨xs, n, _, rfl, hl, hlen, hx⟩ := DataW.trod_struct ht hf
  simp only [DataW.weights, ht] at hw
  obtain ⟨a, ha, hB⟩ := h.get (enc := enc) (W := W) (n := n) (cs := cs) (xs := xs) (by simpa using hlen) (fun i g hg => hx i g (by simpa using hg)) hw
  refine ⟨g a, ?_, by rw [hg]; exact hB⟩
  show d.K W (f (g a)) cs
  rw [hg]
  rw [List.drop_zero, List.take_of_length_le (by omega)] at ha
  exact ha⟩
theorem Opens.imp {α : Type} {P : Program} {d : Kd α} {t : TypeId} {B B' : α → Prop} (h : Opens P d t B) (hB : ∀ a, B a → B' a) : Opens P d t B' :=
 ⟨h.sz, fun hf hw => by obtain ⟨a, ha, hb⟩ := h.get hf hw; exact ⟨a, ha, hB a hb⟩⟩
theorem Opens.param {α : Type} {P : Program} {d : Kd α} {t : TypeId} {B : α → Prop} (h : Opens P d t B) {H : Type} {enc : TypeId × Value → H} {W : World} {v : Value} {x : DataW H} {p : List MemPlace} {ts : List TypeId} {ds : List (DataW H)} {j : Nat}
  (hsz : (DataW.weightsEach P ts ds).all (· ≤ reachBytes) = true) (hj : ts[j]? = some t) (hd : ds[j]? = some x) (ht : DataW.Trod enc P W 0 (fun _ => true) true t v x p) : ∃ a, d.K W a v.cells.toList ∧ B a := by
 obtain ⟨fuel, hf⟩ := ht
 exact h.get hf (fun n hn => by simpa using List.all_eq_true.1 hsz _ (DataW.weights_mem_each hj hd n hn))
theorem Opens.row {α : Type} {P : Program} {d : Kd α} {t e : TypeId} {B : List α → Prop} (h : Opens P (Kd.slice e d) t B) {H : Type} {enc : TypeId × Value → H} {W : World} {A : Option Addr} {n c : Nat} {x : DataW H} {p : List MemPlace} {ts : List TypeId} {ds : List (DataW H)} {j : Nat}
  (hsz : (DataW.weightsEach P ts ds).all (· ≤ reachBytes) = true) (hj : ts[j]? = some t) (hd : ds[j]? = some x) (ht : DataW.Trod enc P W 0 (fun _ => true) true t (.slice A n c) x p) :
  ∃ xs : List α, xs.length = n ∧ d.C W A n xs ∧ n ≤ c ∧ B xs := by
 obtain ⟨xs, ⟨A', c', he, hl, hC⟩, hB⟩ := h.param hsz hj hd ht
 simp [Value.cells] at he
 obtain ⟨rfl, rfl, rfl⟩ := he
 exact ⟨xs, rfl, hC, hl, hB⟩
end Go.Proofs.YtfljbidecljlcaaDoor

namespace Go.Proofs.YtfljbidecljlcaaDoor
open Go.RowKit Go.Proofs.YtfljbidecljlcaaDoor.Print Go.Proofs.YtfljbidecljlcaaDoorW.PrintWords
theorem o_str : Opens Tryd.prog Kd.string 9 (fun s => s.size ≤ 140737488351232) := Opens.string Tryd.underlying9 (by kernel_rfl)
theorem o_u8 : Opens Tryd.prog (Kd.int .u8) 5 (fun n => (Lit.int .u8 n).wf = true) := Opens.int Tryd.underlying5 (by kernel_rfl)
theorem o_int : Opens Tryd.prog (Kd.int .i64) 3 (fun n => (Lit.int .i64 n).wf = true) := Opens.int Tryd.underlying3 (by kernel_rfl)
theorem o_bytes : Opens Tryd.prog (Kd.slice 5 (Kd.int .u8)) 23 (fun xs => xs.length ≤ 140737488351232) :=
 (Opens.slice Tryd.underlying23 (by kernel_rfl) o_u8).imp (fun xs h => by
  have hb : Tryd.prog.bytesOf 5 = 1 := by kernel_rfl
  have h1 := h.1
  rw [hb] at h1
  omega)
theorem o_meta : Opens Tryd.prog k38 38 (fun _ => True) := by
 have h := Opens.struct Tryd.underlying38 (by kernel_rfl) (OpensF.cons rfl o_int (OpensF.cons rfl o_int (OpensF.cons rfl o_int (OpensF.one rfl o_int)))) (fun x : S38 => (x.f0, x.f1, x.f2, x.f3)) (fun p => ⟨p.1, p.2.1, p.2.2.1, p.2.2.2⟩) (fun _ => rfl)
 exact Opens.imp h (fun _ _ => trivial)
theorem o_mem : Opens Tryd.prog k45 45 MemR := by
 have h := Opens.struct Tryd.underlying45 (by kernel_rfl) (OpensF.cons rfl o_str (OpensF.cons rfl o_str (OpensF.cons rfl o_u8 (OpensF.cons rfl o_meta (OpensF.one rfl o_bytes))))) (fun x : S45 => (x.f0, x.f1, x.f2, x.f3, x.f4)) (fun p => ⟨p.1, p.2.1, p.2.2.1, p.2.2.2.1, p.2.2.2.2⟩) (fun _ => rfl)
 exact Opens.imp h (fun _ hx => ⟨hx.1, hx.2.1, hx.2.2.2.2⟩)
theorem o_mems : Opens Tryd.prog (Kd.slice 45 k45) 28 (fun xs => (∀ x ∈ xs, MemR x) ∧ xs.length ≤ 140737488351232) :=
 (Opens.slice Tryd.underlying28 (by kernel_rfl) o_mem).imp (fun xs h => ⟨h.2, by
  have hb : Tryd.prog.bytesOf 45 = 96 := by kernel_rfl
  have h1 := h.1
  rw [hb] at h1
  omega⟩)
end Go.Proofs.YtfljbidecljlcaaDoor
