/-
  Part of the proof that FlatFlattens answers true: texts put together (wip/bundle.py).
-/
import Derived.Test.YtiijbmaamblidaaGreatDoorCFlatFlattens5
import Derived.Deep.RegionHeld3
import Derived.Deep.QuietTactic
import Derived.BigQuiet
import Derived.IntWalk
import Derived.Laws.MakeOwn
import Derived.SizedLaws
import Derived.ChangeSlices
import Derived.OpenShut
namespace Go.Proofs.YtiijbmaamblidaaGreatDoor.Print
open Go.RowKit Go.Proofs.YtiijbmaamblidaaGreatDoorW.PrintWords Go.Proofs.YtiijbmaamblidaaGreatDoorW.PrintLast Go.Proofs.YtiijbmaamblidaaGreatDoorW.PrintMore
attribute [local go_sem] max2_int min2_int max_two min_two max_three min_three max_four min_four   -- for this text's walks alone
set_option linter.unusedVariables false
set_option linter.unusedSimpArgs false
def bindleref08_at.l0 : Nat → List (S51) → ByteArray → Int → Option (Int)
 | 0, _, _, _ => none
 | k + 1, x0, x1, x5 => if x5 < (x0.length : Int) then (if 0 ≤ x5 then (if ((rd_T51 x0 x5).f0.f0).toList = x1.toList then (some x5) else (bindleref08_at.l0 k x0 x1 (wrap64 (x5 + 1)))) else (none)) else (some (-1))
def bindleref08_at.f (k : Nat) (l0 : List (S51)) (a1 : ByteArray) : Option (Int) := bindleref08_at.l0 k l0 a1 0
set_option maxHeartbeats 8000000 in
set_option maxRecDepth 100000 in
theorem bindleref08_at.calls (k : Nat) (A0 : Option Addr) (c0 : Nat) (l0 : List (S51)) (a1 : ByteArray) (r : Int) (w : World) (hr0 : Kd.C k51 w A0 l0.length l0) (hc0 : l0.length ≤ c0) (h : bindleref08_at.f k l0 a1 = some r) :
  Calls Tryz.prog 19 #[.slice A0 l0.length c0, .string a1] w fun e w' => e = .returned (.int .i64 r) ∧ Drawn0 w w' := by
 have HR0 := A0_ hr0
 have HC0 := A0_ hc0
 clear hr0 hc0
 have H : (bindleref08_at.l0 k l0 a1 0) = some r := h
 clear h
 have H' := A0_ H
 clear H
 go_enter Tryz.func19, Tryz.ntmps19
 go_wp2
 go_loopg [5] k (fun kq v5 w' => ∃ (x5_1 : Int), v5 = .int .i64 x5_1 ∧ Aside0 (bindleref08_at.l0 kq l0 a1 x5_1 = some r) ∧ Aside0 (kq ≤ k) ∧ Drawn0 w w')
 case atStart => exact ⟨(0), wr_, H', ⟨Nat.le_refl _⟩, by repeat (first | exact Drawn0.refl _ | apply Drawn0.step)⟩
 case round =>
  clear H'
  try clear c1
  try clear p2
  obtain ⟨x5_1, rfl, HA, HK1, ⟨m1, rfl⟩⟩ := hrel
  cases gk with
  | zero => exact absurd HA.out (by simp [bindleref08_at.l0])
  | succ k1 =>
   have H := HA.out
   clear HA
   simp only [bindleref08_at.l0] at H
   by_cases c3 : x5_1 < (l0.length : Int)
   rotate_left
   ·rw [if_neg c3] at H
    have c3b0 : decide (x5_1 < (l0.length : Int)) = false := decide_eq_false c3
    clear c3
    obtain rfl := Option.some.inj H
    go_wp2
    go_ret
    exact ⟨by first | rfl | (simp; done) | (simp [*]; done), by repeat (first | exact Drawn0.refl _ | apply Drawn0.step)⟩
   rw [if_pos c3] at H
   have c3b0 : decide (x5_1 < (l0.length : Int)) = true := decide_eq_true c3
   clear c3
   by_cases c4 : 0 ≤ x5_1
   rotate_left
   ·rw [if_neg c4] at H
    exact absurd H (by simp)
   rw [if_pos c4] at H
   have c4b0 : decide (0 ≤ x5_1) = true := decide_eq_true c4
   clear c4
   by_cases c5 : ((rd_T51 l0 x5_1).f0.f0).toList = a1.toList
   ·rw [if_pos c5] at H
    have c5b0 : (((rd_T51 l0 x5_1).f0.f0).toList == a1.toList) = true := beq_iff_eq.mpr c5
    have c5b1 : (((rd_T51 l0 x5_1).f0.f0).toList != a1.toList) = false := bne_eq_false_iff_eq.mpr c5
    clear c5
    obtain rfl := Option.some.inj H
    have p344 : 0 ≤ (x5_1 : Int) := wd_
    have q344 : x5_1 < (l0.length : Int) := wd_
    obtain ⟨ad344, A344_8, c344_8, e344, hx344_0, hx344_1, hx344_2, hx344_3, hx344_4, hx344_5, hx344_6, hx344_7, hx344_8, hx344_9, hl344_8, hi344_8⟩ := at_T51 HR0.out x5_1 p344 q344
    cases e344
    have HR344_8 := A0_ hi344_8
    have HC344_8 := A0_ hl344_8
    clear hi344_8 hl344_8
    replace p344 := eq_true p344
    replace q344 := eq_true q344
    go_wp2
    go_ret
    exact ⟨by first | rfl | (simp; done) | (simp [*]; done), by repeat (first | exact Drawn0.refl _ | apply Drawn0.step)⟩
   rw [if_neg c5] at H
   have c5b0 : (((rd_T51 l0 x5_1).f0.f0).toList == a1.toList) = false := beq_eq_false_iff_ne.mpr c5
   have c5b1 : (((rd_T51 l0 x5_1).f0.f0).toList != a1.toList) = true := bne_iff_ne.mpr c5
   have H' := A0_ H
   clear H
   have p344 : 0 ≤ (x5_1 : Int) := wd_
   have q344 : x5_1 < (l0.length : Int) := wd_
   obtain ⟨ad344, A344_8, c344_8, e344, hx344_0, hx344_1, hx344_2, hx344_3, hx344_4, hx344_5, hx344_6, hx344_7, hx344_8, hx344_9, hl344_8, hi344_8⟩ := at_T51 HR0.out x5_1 p344 q344
   cases e344
   have HR344_8 := A0_ hi344_8
   have HC344_8 := A0_ hl344_8
   clear hi344_8 hl344_8
   replace p344 := eq_true p344
   replace q344 := eq_true q344
   go_wp2
   go_roundg k1
   case measure => have := HK1.out; omega
   case rel => exact ⟨(wrap64 (x5_1 + 1)), wr_, H', ⟨by have := HK1.out; omega⟩, by repeat (first | exact Drawn0.refl _ | apply Drawn0.step)⟩
end Go.Proofs.YtiijbmaamblidaaGreatDoor.Print

namespace Go.Proofs.YtiijbmaamblidaaGreatDoor
open Go.RowKit Go.Proofs.YtiijbmaamblidaaGreatDoor.Print Go.Proofs.YtiijbmaamblidaaGreatDoorW.PrintWords
set_option linter.unusedVariables false
def clsOf (l : List Mem) (q : ByteArray × Nat) : Cls := ⟨⟨q.1, (l.getD q.2 zM).f1, emp, (l.getD q.2 zM).f2, (l.getD q.2 zM).f3, (l.getD q.2 zM).f4⟩, (q.2 : Int)⟩
def idxC (xs : List Cls) (p : ByteArray) : Int := match xs.findIdx? (fun x => decide (x.f0.f0.toList = p.toList)) with
 | some i => (i : Int)
 | none => -1
theorem rdC_nat (xs : List Cls) (j : Nat) (h : j < xs.length) : rd_T51 xs (j : Int) = xs[j] := by
 unfold rd_T51
 rw [Int.toNat_natCast, List.getD_eq_getElem?_getD, List.getElem?_eq_getElem h]
 rfl
theorem idxC_some {xs : List Cls} {p : ByteArray} {i : Nat} (hi : i < xs.length) (h : xs[i].f0.f0.toList = p.toList) (hno : ∀ (j : Nat) (hj : j < xs.length), j < i → xs[j].f0.f0.toList ≠ p.toList) : idxC xs p = (i : Int) := by
 unfold idxC
 rw [List.findIdx?_eq_some_iff_getElem.2 ⟨hi, decide_eq_true h, fun j hj => by simpa using hno j (by omega) hj⟩]
theorem idxC_none {xs : List Cls} {p : ByteArray} (hno : ∀ (j : Nat) (hj : j < xs.length), xs[j].f0.f0.toList ≠ p.toList) : idxC xs p = -1 := by
 unfold idxC
 rw [List.findIdx?_eq_none_iff.2 (fun x hx => by obtain ⟨i, hi, rfl⟩ := List.getElem_of_mem hx; simpa using hno i hi)]
theorem at_l (xs : List Cls) (p : ByteArray) (hlen : xs.length ≤ 4611686018427387904) : ∀ (d i : Nat), i + d = xs.length → (∀ (j : Nat) (hj : j < xs.length), j < i → xs[j].f0.f0.toList ≠ p.toList) → Ev (fun k => bindleref08_at.l0 k xs p (i : Int)) (idxC xs p) := by
 intro d
 induction d with
 | zero =>
  intro i hi hno
  rw [idxC_none (fun j hj => hno j hj (by omega))]
  exact Ev.step (f := fun _ => some (-1)) (fun k => by rw [bindleref08_at.l0, if_neg (by omega)]) (Ev.now _)
 | succ d ih =>
  intro i hi hno
  have hil : i < xs.length := by omega
  by_cases he : xs[i].f0.f0.toList = p.toList
  ·rw [idxC_some hil he hno]
   exact Ev.step (f := fun _ => some (i : Int)) (fun k => by rw [bindleref08_at.l0, if_pos (by omega), if_pos (by omega), rdC_nat xs i hil, if_pos he]) (Ev.now _)
  ·refine Ev.step (fun k => ?_) (ih (i + 1) (by omega) (fun j hj hji => ?_))
   ·rw [bindleref08_at.l0, if_pos (by omega), if_pos (by omega), rdC_nat xs i hil, if_neg he]
    rw [show wrap64 ((i : Int) + 1) = ((i + 1 : Nat) : Int) by unfold wrap64; omega]
   ·rcases Nat.lt_or_ge j i with h | h
    ·exact hno j hj h
    ·obtain rfl : j = i := by omega
     exact he
theorem at_eq (xs : List Cls) (p : ByteArray) (hlen : xs.length ≤ 4611686018427387904) : Ev (fun k => bindleref08_at.f k xs p) (idxC xs p) := at_l xs p hlen xs.length 0 (by omega) (fun j hj h => absurd h (Nat.not_lt_zero _))
theorem idx_at {l : List Mem} {s : PS} (hn : (s.map (fun q => q.1)).Nodup) (p : ByteArray) : (atD s p.data.toList = none ∧ idxC (s.map (clsOf l)) p = -1) ∨ ∃ (i : Nat) (hi : i < s.length), idxC (s.map (clsOf l)) p = (i : Int) ∧ atD s p.data.toList = some s[i].2 := by
 by_cases h : ∃ (i : Nat) (hi : i < s.length), s[i].1 = p
 ·obtain ⟨i, hi, rfl⟩ := h
  refine .inr ⟨i, hi, ?_, atD_of_mem hn (List.getElem_mem hi)⟩
  have hget : ∀ (j : Nat) (hj : j < (s.map (clsOf l)).length), ((s.map (clsOf l))[j]).f0.f0 = (s[j]'(by simpa using hj)).1 := fun j hj => by rw [List.getElem_map]; rfl
  refine idxC_some (by rw [List.length_map]; exact hi) (by rw [hget]) (fun j hj hji e => ?_)
  rw [hget] at e
  have e := ba_ext e
  rw [List.nodup_iff_pairwise_ne, List.pairwise_map, List.pairwise_iff_getElem] at hn
  exact hn j i (by simpa using hj) hi hji e
 ·refine .inl ⟨?_, ?_⟩
  ·cases ha : atD s p.data.toList with
   | none => rfl
   | some c =>
    obtain ⟨q, hq, he, _⟩ := atD_mem ha
    obtain ⟨i, hi, rfl⟩ := List.getElem_of_mem hq
    exact absurd ⟨i, hi, ba_data.1 he⟩ h
  ·refine idxC_none (fun j hj e => h ⟨j, by simpa using hj, ?_⟩)
   rw [List.getElem_map] at e
   exact ba_ext e
theorem without_map (l : List Mem) (s : PS) (p : ByteArray) : (s.map (clsOf l)).filter (fun x => !decide (x.f0.f0.toList = p.toList)) = (without s p).map (clsOf l) := by
 unfold without
 rw [List.filter_map]
 rfl
theorem sortC_map {l : List Mem} {s : PS} (hn : (s.map (fun q => q.1)).Nodup) : sortC (s.map (clsOf l)) = (sortP s).map (clsOf l) := by
 refine List.Perm.eq_of_pairwise (le := fun a b => lt a.f0.f0 b.f0.f0 = true) (fun a b _ _ h1 h2 => by rw [lt_asym h1] at h2; cases h2) ?_ ?_ ?_
 ·refine sortC_rise ?_
  rw [List.map_map]
  exact hn
 ·rw [List.pairwise_map]
  exact sortP_rise hn
 ·exact (sortC_perm _).trans ((sortP_perm s).symm.map _)
theorem lead_map (l : List Mem) (sp : PS) (i : Nat) (hi : i < sp.length) : leadC (sp.map (clsOf l)) i (clsOf l sp[i]) = if (l.getD sp[i].2 zM).f2 = 48 then leadOf sp sp[i].2 else emp := by
 unfold leadC
 by_cases h48 : (l.getD sp[i].2 zM).f2 = 48
 ·rw [if_pos h48, if_pos (show (clsOf l sp[i]).f0.f3 = 48 from h48), ← leadOf_take hi, ← List.map_take, List.find?_map]
  unfold leadOf
  have e : (fun y => decide (y.f0.f3 = 48 ∧ y.f1 = (clsOf l sp[i]).f1)) ∘ clsOf l = fun q => decide (q.2 = sp[i].2) := by
   funext q
   show decide ((l.getD q.2 zM).f2 = 48 ∧ (q.2 : Int) = (sp[i].2 : Int)) = _
   rw [decide_eq_decide]
   constructor
   ·intro h; omega
   ·intro h; exact ⟨by rw [h]; exact h48, by rw [h]⟩
  rw [e]
  cases (sp.take (i + 1)).find? (fun q => decide (q.2 = sp[i].2)) with
  | none => rfl
  | some q => rfl
 ·rw [if_neg h48, if_neg (show ¬ (clsOf l sp[i]).f0.f3 = 48 from h48)]
theorem sorted_map {l : List Mem} {s : PS} (hn : (s.map (fun q => q.1)).Nodup) : sortedF (s.map (clsOf l)) = (sortP s).map (nodeOf l (sortP s)) := by
 unfold sortedF
 rw [sortC_map hn]
 apply List.ext_getElem
 ·simp
 ·intro i h1 h2
  rw [List.getElem_mapIdx, List.getElem_map, List.getElem_map]
  have hi : i < (sortP s).length := by simpa using h2
  unfold outC
  rw [lead_map l _ i hi]
  rfl
end Go.Proofs.YtiijbmaamblidaaGreatDoor

namespace Go.Proofs.YtiijbmaamblidaaGreatDoor
open Go.RowKit Go.Maps Go.Proofs.YtiijbmaamblidaaGreatDoor.Print Go.Proofs.YtiijbmaamblidaaGreatDoorW.PrintWords Go.Proofs.YtiijbmaamblidaaGreatDoorW.PrintLast Go.Proofs.YtiijbmaamblidaaGreatDoorW.PrintMore
set_option linter.unusedVariables false
set_option linter.unusedSimpArgs false
theorem infoCls : (Tryz.prog.info? 51).map (fun i => (i.zero, i.size, i.bytes)) = some (some (.agg #[(.string ⟨#[]⟩), (.string ⟨#[]⟩), (.string ⟨#[]⟩), (.int .u8 0), (.int .i64 0), (.int .i64 0), (.int .i64 0), (.int .i64 0), (.slice none 0 0), (.int .i64 0)]), 10, 120) := by kernel_rfl
def clsCells (x : Cls) (v : Value) : List Value := [.string x.f0.f0, .string x.f0.f1, .string x.f0.f2, .int .u8 x.f0.f3, .int .i64 x.f0.f4.f0, .int .i64 x.f0.f4.f1, .int .i64 x.f0.f4.f2, .int .i64 x.f0.f4.f3, v, .int .i64 x.f1]
theorem cls_elem {W : World} {base g n cap : Nat} {ok : Nat → Prop} {xs : List Cls} (h : Kd.N k51 51 W base ok (.slice (some ⟨g, 0, none⟩) n cap) xs) (i : Nat) (hi : i < xs.length) (hn : n = xs.length) :
  ∃ A c, (∀ j u, (clsCells xs[i] (.slice A xs[i].f0.f5.length c))[j]? = some u → W.cell? ⟨g, i * 10 + j, none⟩ = some u) ∧ (∀ j, W.frozen? ⟨g, i * 10 + j, none⟩ = false) ∧ xs[i].f0.f5.length ≤ c ∧ Kd.F (Kd.int .u8) W (fun k => ok k ∧ k ≠ g) A xs[i].f0.f5.length xs[i].f0.f5 ∧
   Kd.FK k51 W (fun k => ok k ∧ k ≠ g) xs[i] (clsCells xs[i] (.slice A xs[i].f0.f5.length c)) := by
 obtain ⟨c, hcl, hF, hcc, hfr⟩ := Kd.N_elem h z51 (i : Int) (by omega) (by omega)
 have e : xs.getD ((i : Int)).toNat z51 = xs[i] := by rw [Int.toNat_natCast, List.getD_eq_getElem?_getD, List.getElem?_eq_getElem hi]; rfl
 rw [e] at hF
 simp only [Int.toNat_natCast] at hcc hfr
 obtain ⟨A, c', rfl, hl, hf⟩ := k51_openF hF
 exact ⟨A, c', hcc, hfr, hl, hf, hF⟩
theorem made_cls (W : World) (base : Nat) (hb : base ≤ W.heap.size := by exact Nat.le_refl _) : Kd.N k51 51 (W.alloc (.cells #[] 51)) base (fun k => W.heap.size ≤ k) (.slice (some ⟨W.heap.size, 0, none⟩) 0 0) [] :=
 ⟨fun k hk => by simp [Value.ownBlock] at hk; omega, [], rfl, ⟨fun k hk => hk.symm, [], World.ownsRow_made W #[] 0 hb (Nat.zero_le _) rfl, Reps.none _ _⟩, fun j x c h => by simp at h⟩
theorem cls_len (x : Cls) (v : Value) : (clsCells x v).length = 10 := rfl
theorem N_put {W : World} {base g n cap : Nat} {ok : Nat → Prop} {xs : List Cls} (h : Kd.N k51 51 W base ok (.slice (some ⟨g, 0, none⟩) n cap) xs) (i : Nat) (hi : i < xs.length) (hn : n = xs.length) {x : Cls} {v : Value}
  (hx : Kd.FK k51 W (fun k => ok k ∧ k ≠ g) x (clsCells x v)) :
  Kd.N k51 51 (W.setCells g (i * 10) (clsCells x v)) base ok (.slice (some ⟨g, 0, none⟩) n cap) (xs.set i x) ∧ W.grownBy (W.setCells g (i * 10) (clsCells x v)) (some g) := by
 obtain ⟨_, _, hc1, _, _, _, _⟩ := cls_elem h i hi hn
 obtain ⟨h1, g1⟩ := Kd.N_seg h (i : Int) (by omega) (by omega) (cls_len _ _) (by simp only [Int.toNat_natCast]; exact hc1) (seg := clsCells x v) (j := 0) (x' := x) (okp := fun k => ok k ∧ k ≠ g) (Nat.le_refl _) (by exact hx) (fun k hk => hk)
 simp only [Int.toNat_natCast, Nat.add_zero] at h1 g1
 exact ⟨h1, g1⟩
theorem cls_facts {W : World} {g o : Nat} {x : Cls} {v : Value} (h : ∀ j u, (clsCells x v)[j]? = some u → W.cell? ⟨g, o + j, none⟩ = some u) : W.cell? ⟨g, o, none⟩ = some (.string x.f0.f0) ∧ W.cell? ⟨g, o + 1, none⟩ = some (.string x.f0.f1) ∧ W.cell? ⟨g, o + 2, none⟩ = some (.string x.f0.f2) ∧ W.cell? ⟨g, o + 3, none⟩ = some (.int .u8 x.f0.f3) ∧
  W.cell? ⟨g, o + 4, none⟩ = some (.int .i64 x.f0.f4.f0) ∧ W.cell? ⟨g, o + 5, none⟩ = some (.int .i64 x.f0.f4.f1) ∧ W.cell? ⟨g, o + 6, none⟩ = some (.int .i64 x.f0.f4.f2) ∧ W.cell? ⟨g, o + 7, none⟩ = some (.int .i64 x.f0.f4.f3) ∧ W.cell? ⟨g, o + 8, none⟩ = some v ∧ W.cell? ⟨g, o + 9, none⟩ = some (.int .i64 x.f1) :=
 ⟨h 0 _ rfl, h 1 _ rfl, h 2 _ rfl, h 3 _ rfl, h 4 _ rfl, h 5 _ rfl, h 6 _ rfl, h 7 _ rfl, h 8 _ rfl, h 9 _ rfl⟩
def SRow (W wr : World) (M : Nat) (v : Value) (xs : List Cls) : Prop := Kd.N k51 51 wr W.heap.size (fun k => k < M) v xs ∧ Below W.heap.size W wr ∧ M ≤ wr.heap.size
theorem SRow.below {W wr w1 : World} {M : Nat} {v : Value} {xs : List Cls} (h : SRow W wr M v xs) (hb : Below wr.heap.size wr w1) : SRow W w1 M v xs :=
 ⟨Kd.N_below h.1 hb, h.2.1.trans (hb.mono h.2.1.size), Nat.le_trans h.2.2 hb.size⟩
def SRel1 (l : List Cls) (W : World) (M : Nat) (v : Value) (i : Int) (wr : World) : Prop := 1 ≤ i ∧ (i ≤ l.length ∨ i = 1) ∧ SRow W wr M v (sortC (l.take i.toNat) ++ l.drop i.toNat)
def SRel2 (l : List Cls) (W : World) (M : Nat) (v : Value) (i : Nat) (hi : i < l.length) (k : Int) (wr : World) : Prop :=
 0 ≤ k ∧ ∃ a b, sortC (l.take i) = a ++ b ∧ (a.length : Int) = k ∧ (∀ y ∈ b, lt l[i].f0.f0 y.f0.f0 = true) ∧ SRow W wr M v (a ++ l[i] :: (b ++ l.drop (i + 1)))
theorem sortC_take {l : List Cls} {i : Nat} (hi : i < l.length) : sortC (l.take (i + 1)) = insR l[i] (sortC (l.take i)) := by
 unfold sortC
 rw [List.take_succ_eq_append_getElem hi, List.foldl_append]
 rfl
theorem sortC_len (l : List Cls) : (sortC l).length = l.length := (sortC_perm l).length_eq
theorem srel2_exit {l : List Cls} {W : World} {M : Nat} {v : Value} {i : Nat} {hi : i < l.length} {k : Int} {wr : World} (h : SRel2 l W M v i hi k wr) (hex : ∀ a b y, sortC (l.take i) = a ++ b → (a.length : Int) = k → a.getLast? = some y → lt l[i].f0.f0 y.f0.f0 = false) (hi1 : 1 ≤ i) : SRel1 l W M v ((i : Int) + 1) wr := by
 obtain ⟨h0, a, b, h1, h2, h3, h4⟩ := h
 refine ⟨by omega, .inl (by omega), ?_⟩
 have e : ((i : Int) + 1).toNat = i + 1 := by omega
 rw [e, sortC_take hi, h1, insR_at _ _ _ h3 (fun y hy => hex a b y h1 h2 hy), List.append_assoc, List.cons_append]
 exact h4
theorem turn_row {a b : List Cls} {x y : Cls} {r : List Cls} (a' : List Cls) (ha : a = a' ++ [y]) : (((a ++ x :: (b ++ r)).set (a'.length + 1) y).set a'.length x) = a' ++ x :: ((y :: b) ++ r) := by
 subst ha
 have e1 : a' ++ [y] ++ x :: (b ++ r) = a' ++ (y :: x :: (b ++ r)) := by simp
 rw [e1, List.set_append, if_neg (by omega), show a'.length + 1 - a'.length = 1 from by omega]
 simp only [List.set_cons_succ, List.set_cons_zero]
 rw [List.set_append, if_neg (by omega), Nat.sub_self]
 simp
theorem outs_snoc {s : List Cls} {n : Nat} (hn : n < s.length) : (s.mapIdx (fun i x => outC s i x)).take (n + 1) = (s.mapIdx (fun i x => outC s i x)).take n ++ [outC s n s[n]] := by
 rw [List.take_succ_eq_append_getElem (by rw [List.length_mapIdx]; exact hn), List.getElem_mapIdx]
def SRel3 (s : List Cls) (W : World) (M : Nat) (v : Value) (i : Int) (o : Value) (wr : World) : Prop :=
 0 ≤ i ∧ i ≤ s.length ∧ SRow W wr M v s ∧ Kd.N k49 49 wr W.heap.size (fun k => M ≤ k ∧ k < wr.heap.size) o ((s.mapIdx (fun i x => outC s i x)).take i.toNat)
theorem first_here {s : List Cls} {n k : Nat} (hk : k ≤ n) (hn : n < s.length) {x : Cls} (h48 : x.f0.f3 = 48) (hm : (s[k]'(by omega)).f0.f3 = 48 ∧ (s[k]'(by omega)).f1 = x.f1) (hno : ∀ (j : Nat) (hj : j < k), ¬ ((s[j]'(by omega)).f0.f3 = 48 ∧ (s[j]'(by omega)).f1 = x.f1)) : leadC s n x = (s[k]'(by omega)).f0.f0 := by
 unfold leadC
 rw [if_pos h48]
 have hf : (s.take (n + 1)).find? (fun y => decide (y.f0.f3 = 48 ∧ y.f1 = x.f1)) = some (s[k]'(by omega)) := by
  rw [List.find?_eq_some_iff_getElem]
  refine ⟨decide_eq_true hm, k, by rw [List.length_take]; omega, by rw [List.getElem_take], fun j hj => ?_⟩
  rw [List.getElem_take, Bool.not_eq_true', decide_eq_false_iff_not]
  exact hno j hj
 rw [hf]
def SRel4 (s : List Cls) (n : Nat) (x : Cls) (k : Int) : Prop := 0 ≤ k ∧ ∀ (q : Nat), (q : Int) < k → ∀ (hq : q < s.length), ¬ (s[q].f0.f3 = 48 ∧ s[q].f1 = x.f1)
def boxCells (x : Cls) (ldr : ByteArray) (v : Value) : Array Value := #[.string x.f0.f0, .string x.f0.f1, .string ldr, .int .u8 x.f0.f3, .int .i64 x.f0.f4.f0, .int .i64 x.f0.f4.f1, .int .i64 x.f0.f4.f2, .int .i64 x.f0.f4.f3, v]
def SMid (s : List Cls) (W : World) (M : Nat) (v o : Value) (outs : List Node) (x : Cls) (A : Option Addr) (c b : Nat) (ldr : ByteArray) (wz : World) : Prop :=
 SRow W wz M v s ∧ Kd.N k49 49 wz W.heap.size (fun k => M ≤ k ∧ k < b) o outs ∧ wz.heap[b]? = some (.cells (boxCells x ldr (.slice A x.f0.f5.length c)) 49 (0, 0)) ∧ Kd.F (Kd.int .u8) wz (fun k => k < M) A x.f0.f5.length x.f0.f5 ∧ wz.heap.size = b + 1 ∧ M ≤ b
theorem fcell' {w : World} {p : Addr} {v : Value} (h : w.cell? p = some v) (o : Obj) : (w.alloc o).cell? p = some v := ((below_alloc (Below.refl _ _) o).cell (World.block_lt_of_cell? w _ h)).trans h
theorem box_facts {w : World} {b : Nat} {x : Cls} {ldr : ByteArray} {v : Value} (h : w.heap[b]? = some (.cells (boxCells x ldr v) 49 (0, 0))) :
  w.cell? ⟨b, 0, none⟩ = some (.string x.f0.f0) ∧ w.cell? ⟨b, 1, none⟩ = some (.string x.f0.f1) ∧ w.cell? ⟨b, 2, none⟩ = some (.string ldr) ∧ w.cell? ⟨b, 3, none⟩ = some (.int .u8 x.f0.f3) ∧ w.cell? ⟨b, 4, none⟩ = some (.int .i64 x.f0.f4.f0) ∧ w.cell? ⟨b, 5, none⟩ = some (.int .i64 x.f0.f4.f1) ∧
   w.cell? ⟨b, 6, none⟩ = some (.int .i64 x.f0.f4.f2) ∧ w.cell? ⟨b, 7, none⟩ = some (.int .i64 x.f0.f4.f3) ∧ w.cell? ⟨b, 8, none⟩ = some v := by
 refine ⟨?_, ?_, ?_, ?_, ?_, ?_, ?_, ?_, ?_⟩ <;> · unfold World.cell?; dsimp only; rw [h]; rfl
theorem box_soft {w : World} {b : Nat} {x : Cls} {ldr : ByteArray} {v : Value} (h : w.heap[b]? = some (.cells (boxCells x ldr v) 49 (0, 0))) (j : Nat) : w.frozen? ⟨b, j, none⟩ = false := by
 unfold World.frozen?
 dsimp only
 rw [h]
 rfl
theorem made_u8 (W : World) (base : Nat) (hb : base ≤ W.heap.size) : Kd.R (Kd.int .u8) 5 (W.alloc (.cells #[] 5)) base (fun k => W.heap.size ≤ k) (.slice (some ⟨W.heap.size, 0, none⟩) 0 0) [] :=
 ⟨fun k hk => by simp [Value.ownBlock] at hk; omega, [], World.ownsRow_made W #[] 0 hb (Nat.zero_le _) rfl, Reps.none _ _⟩
theorem cell_over (wz w5 : World) (o : Obj) {n c b : Nat} (hg : (wz.alloc o).grownBy w5 (Value.slice (some ⟨wz.heap.size, 0, none⟩) n c).ownBlock) (hb : b < wz.heap.size) (q : Nat) : w5.cell? ⟨b, q, none⟩ = wz.cell? ⟨b, q, none⟩ := by
 have h1 := hg.block b (by rw [World.size_alloc]; omega) (by simp [Value.ownBlock]; omega)
 have h2 : (wz.alloc o).heap[b]? = wz.heap[b]? := (below_alloc (Below.refl _ _) o).block b hb
 unfold World.cell?
 dsimp only
 rw [h1, h2]
theorem froz_over (wz w5 : World) (o : Obj) {n c b : Nat} (hg : (wz.alloc o).grownBy w5 (Value.slice (some ⟨wz.heap.size, 0, none⟩) n c).ownBlock) (hb : b < wz.heap.size) (q : Nat) : w5.frozen? ⟨b, q, none⟩ = wz.frozen? ⟨b, q, none⟩ := by
 have h1 := hg.block b (by rw [World.size_alloc]; omega) (by simp [Value.ownBlock]; omega)
 have h2 : (wz.alloc o).heap[b]? = wz.heap[b]? := (below_alloc (Below.refl _ _) o).block b hb
 unfold World.frozen?
 dsimp only
 rw [h1, h2]
theorem tail_mid {W wz w5 : World} {M b n c : Nat} {v o : Value} {ob : Obj} {s : List Cls} {outs : List Node} {A5 : Option Addr} {c5 : Nat} {body : List Int} (tS : SRow W wz M v s) (tO : Kd.N k49 49 wz W.heap.size (fun k => M ≤ k ∧ k < b) o outs) (hR : Kd.R (Kd.int .u8) 5 w5 W.heap.size (fun k => wz.heap.size ≤ k) (.slice A5 body.length c5) body)
  (hG : (wz.alloc ob).grownBy w5 (Value.slice (some ⟨wz.heap.size, 0, none⟩) n c).ownBlock) (hB : Below W.heap.size W w5) (hb : b < wz.heap.size) (tz : wz.heap.size = b + 1) (tM : M ≤ b) (u : Value) (hW : W.heap.size ≤ M) :
  SRow W (w5.setCell ⟨b, 8, none⟩ u) M v s ∧ Kd.N k49 49 (w5.setCell ⟨b, 8, none⟩ u) W.heap.size (fun k => M ≤ k) o outs ∧ Kd.F (Kd.int .u8) (w5.setCell ⟨b, 8, none⟩ u) (fun k => wz.heap.size ≤ k) A5 body.length body ∧ Below W.heap.size W (w5.setCell ⟨b, 8, none⟩ u) := by
 have hsz := hG.size
 rw [World.size_alloc] at hsz
 have hne : ∀ k, k < wz.heap.size → some k ≠ (Value.slice (some ⟨wz.heap.size, 0, none⟩) n c).ownBlock := fun k hk e => by
  have : k = wz.heap.size := by simpa [Value.ownBlock] using e
  omega
 have hB2 : Below W.heap.size W (w5.setCell ⟨b, 8, none⟩ u) := below_put hB _ _ (by omega) _
 refine ⟨⟨?_, hB2, ?_⟩, ?_, ?_, hB2⟩
 ·exact Kd.N_far (Kd.N_grown (Kd.N_alloc tS.1 ob) hG (fun k hk => hne k (by omega))) (p := ⟨b, 8, none⟩) (fun k hk e => by have e' : k = b := e; omega) u
 ·rw [World.size_setCell]; have := tS.2.2; omega
 ·exact Kd.N_mono (Kd.N_far (Kd.N_grown (Kd.N_alloc tO ob) hG (fun k hk => hne k (by omega))) (p := ⟨b, 8, none⟩) (fun k hk e => by have e' : k = b := e; omega) u) (fun k hk => hk.1)
 ·exact Kd.F_far (Kd.R_F hR) (p := ⟨b, 8, none⟩) (fun k hk e => by have e' : k = b := e; omega) u
theorem tail_row {W w1 w6 wz : World} {M b : Nat} {v o : Value} {s : List Cls} {outs : List Node} (mS : SRow W w1 M v s) (hg : w1.grownBy w6 o.ownBlock) (tO : Kd.N k49 49 wz W.heap.size (fun k => M ≤ k ∧ k < b) o outs) : SRow W w6 M v s :=
 ⟨Kd.N_grown mS.1 hg (fun k hk e => by have := (tO.1 k e.symm).1; omega), mS.2.1.grown hg mS.2.1.size (fun j hj => Kd.N_base tO j hj), by have := hg.size; have := mS.2.2; omega⟩
set_option maxRecDepth 100000 in
set_option maxHeartbeats 8000000 in
theorem Sorted_calls (A0 : Option Addr) (c0 : Nat) (l : List Cls) (W : World) (hC : Kd.C k51 W A0 l.length l) (hlen : l.length ≤ 1000000000000) (hz : ∀ x ∈ l, x.f0.f5.length ≤ 140737488351232) :
  Calls Tryz.prog 20 #[.slice A0 l.length c0] W fun e W' => ∃ v, e = .returned v ∧ Kd.N k49 49 W' W.heap.size (fun k => W.heap.size ≤ k) v (sortedF l) ∧ Below W.heap.size W W' := by
 have hF := Kd.C_F k51_heap hC
 have HF := Aside0.mk hF
 have HZ := Aside0.mk hz
 have hlI : (l.length : Int) ≤ 1000000000000 := by omega
 clear hC hz hF
 generalize hpost : (fun (e : Ending) (W' : World) => ∃ v, e = .returned v ∧ Kd.N k49 49 W' W.heap.size (fun k => W.heap.size ≤ k) v (sortedF l) ∧ Below W.heap.size W W') = Q
 have hQ := Aside0.mk hpost
 clear hpost
 go_enter Tryz.func20, Tryz.ntmps20
 go_wp2_with (at_builtin; refine Kd.N_append_rows k51 (w0 := W) W.heap.size rfl (.tmp 9) (.tmp 10) 47 51 _ 120 rfl Tryz.underlying47 infoCls rfl (by decide) (by decide) (.slice (some ⟨W.heap.size, 0, none⟩) 0 0) [] l A0 l.length c0 (fun _ => True) (fun k => k < W.heap.size) rfl rfl ?hO (Kd.F_alloc HF.out _) (fun k hk => ⟨trivial, fun e => by have e' : k = W.heap.size := (by simpa [Value.ownBlock] using e); omega⟩) (fun _ _ => trivial) (below_alloc (Below.refl _ _) _) (by simp) (by simp; omega) ?_; (case hO => exact Kd.N_mono (made_cls W W.heap.size) (fun _ _ => trivial)); intro v1 w1 hN1 hB1 hg1 hat1; rw [List.nil_append] at hN1; obtain ⟨A1, c1, rfl⟩ := Kd.N_slice hN1; have HN1 := Aside0.mk hN1; have HB1 := Aside0.mk hB1; clear hN1 hB1 hg1 hat1)
 have hrow : SRow W w1 w1.heap.size (.slice A1 l.length c1) l := ⟨Kd.N_mono (Kd.N_bound HN1.out) (fun k hk => hk.2), HB1.out, Nat.le_refl _⟩
 have hMW : W.heap.size ≤ w1.heap.size := HB1.out.size
 generalize hMe : w1.heap.size = M at hrow hMW
 have HROW := Aside0.mk hrow
 clear hrow HN1 HB1 hMe
 go_loopw [3] (fun i wr => ∃ n : Int, i = .int .i64 n ∧ Aside0 (SRel1 l W M (.slice A1 l.length c1) n wr)) (fun i _ => (l.length - (intOf i)).toNat)
 case atStart =>
  refine ⟨1, rfl, ⟨⟨by omega, .inr rfl, ?_⟩⟩⟩
  have e : sortC (l.take (1 : Int).toNat) ++ l.drop (1 : Int).toNat = l := by
   cases l with
   | nil => rfl
   | cons x l => rfl
  rw [e]
  exact HROW.out
 case round =>
  obtain ⟨n, rfl, HR⟩ := hrel
  have h0 := HR.out.1
  by_cases hlt : n < (l.length : Int)
  ·have c1b : decide (n < (l.length : Int)) = true := decide_eq_true hlt
   have hil : n.toNat < l.length := by omega
   have hstart : SRel2 l W M (.slice A1 l.length c1) n.toNat hil n wr := by
    refine ⟨by omega, sortC (l.take n.toNat), [], by rw [List.append_nil], ?_, fun y hy => (by cases hy), ?_⟩
    ·rw [sortC_len, List.length_take]; omega
    ·have := HR.out.2.2
     rw [List.drop_eq_getElem_cons hil] at this
     simpa using this
   have HST := Aside0.mk hstart
   have hnN : ((n.toNat : Nat) : Int) = n := by omega
   have HNN := Aside0.mk hnN
   clear hstart hnN
   go_wp2
   go_loopw [4] (fun i wr => ∃ k : Int, i = .int .i64 k ∧ Aside0 (SRel2 l W M (.slice A1 l.length c1) n.toNat hil k wr)) (fun i _ => (intOf i).toNat)
   case atStart => exact ⟨n, rfl, HST⟩
   case round =>
    obtain ⟨k, rfl, HR2⟩ := hrel
    have hk0 := HR2.out.1
    have HEX := Aside0.mk (fun (w2 : World) (hb : Below wr.heap.size wr w2) => (⟨hk0, by obtain ⟨a, b, h1, h2, h3, h4⟩ := HR2.out.2; exact ⟨a, b, h1, h2, h3, h4.below hb⟩⟩ : SRel2 l W M (.slice A1 l.length c1) n.toNat hil k w2))
    by_cases hkz : k = 0
    ·have g1 : decide (0 < k) = false := decide_eq_false (by omega)
     have g2 : decide (k > 0) = false := decide_eq_false (by omega)
     have HKZ := Aside0.mk hkz
     clear hkz
     go_upto_region 6 with (fail)
     go_quiet (fail)
     have hfin : SRel1 l W M (.slice A1 l.length c1) (n + 1) (wr.drewN nq) := by
      have h := srel2_exit (HEX.out _ (pw_below_drewN (Below.refl _ _) nq)) (fun a b y h1 h2 h3 => by
       have h4 := HKZ.out
       have : a = [] := List.eq_nil_of_length_eq_zero (by omega)
       rw [this] at h3
       cases h3) (by omega)
      rw [HNN.out] at h
      exact h
     have HF := Aside0.mk hfin
     clear hfin
     go_wp2
     go_roundw
     case rel => exact ⟨n + 1, by go_num, HF⟩
     case measure => simp [intOf]; omega
    ·have g1 : decide (0 < k) = true := decide_eq_true (by omega)
     have g2 : decide (k > 0) = true := decide_eq_true (by omega)
     obtain ⟨a, b, ha, hal, hbl, hS⟩ := HR2.out.2
     obtain ⟨a', y, haa⟩ : ∃ a' y, a = a' ++ [y] := by
      refine ⟨a.dropLast, a.getLast (fun e => by rw [e] at hal; simp at hal; omega), ?_⟩
      exact (List.dropLast_concat_getLast _).symm
     obtain ⟨j, hj⟩ : ∃ j, j = k - 1 := ⟨_, rfl⟩
     have hal' : a'.length = j.toNat := by rw [haa, List.length_append, List.length_singleton] at hal; omega
     have hxl := (Kd.N_reads' hS.1).1
     obtain ⟨g, cap, hv, hg0, hg1, _⟩ := Kd.N_form hS.1 (by omega)
     rw [← hxl] at hv
     cases hv
     have hkl : k < (l.length : Int) := by
      rw [List.length_append, List.length_cons, List.length_append, List.length_drop] at hxl
      omega
     have hjn : j.toNat + 1 = k.toNat := by omega
     have hjl : j < (l.length : Int) := by omega
     have hj0 : 0 ≤ j := by omega
     have hi1 : k.toNat < (a ++ l[n.toNat] :: (b ++ l.drop (n.toNat + 1))).length := by omega
     have hi2 : j.toNat < (a ++ l[n.toNat] :: (b ++ l.drop (n.toNat + 1))).length := by omega
     have hxe : (a ++ l[n.toNat] :: (b ++ l.drop (n.toNat + 1)))[k.toNat] = l[n.toNat] := by
      have hka : a.length = k.toNat := by omega
      simp [List.getElem_append, hka]
     have hye : (a ++ l[n.toNat] :: (b ++ l.drop (n.toNat + 1)))[j.toNat] = y := by
      subst haa
      simp [List.getElem_append, hal']
     obtain ⟨Ax, cx, fx, rx, lx, _, kx⟩ := cls_elem hS.1 k.toNat hi1 hxl
     obtain ⟨Ay, cy, fy, ry, ly, _, ky⟩ := cls_elem hS.1 j.toNat hi2 hxl
     rw [hxe] at fx lx kx
     rw [hye] at fy ly ky
     generalize hxs : a ++ l[n.toNat] :: (b ++ l.drop (n.toNat + 1)) = xs at hS hxl hi1 hi2 hxe hye
     generalize hx : l[n.toNat] = x at fx lx kx hbl hxe
     obtain ⟨x0, x1, x2, x3, x4, x5, x6, x7, x8, x9⟩ := cls_facts fx
     obtain ⟨y0, y1, y2, y3, y4, y5, y6, y7, y8, y9⟩ := cls_facts fy
     have rx0 := rx 0
     have ry0 := ry 0
     rw [Nat.add_zero] at rx0 ry0
     have HS := Aside0.mk hS
     have HXS := Aside0.mk hxs
     have HX := Aside0.mk hx
     have HHX := Aside0.mk hxe
     have HHY := Aside0.mk hye
     have HXL := Aside0.mk hxl
     have KX := Aside0.mk kx
     have KY := Aside0.mk ky
     have HA := Aside0.mk ha
     have HAA := Aside0.mk haa
     have HAL := Aside0.mk hal'
     have HBL := Aside0.mk hbl
     have HJN := Aside0.mk hjn
     have HJ := Aside0.mk hj
     have hw64 : wrap64 (k - 1) = j := by unfold wrap64; omega
     have hwi : IntKind.i64.wrap (k - 1) = j := by rw [IntKind.wrap_i64]; omega
     clear hS hxs hx hxe hye hxl kx ky ha haa hal hal' hbl hjn fx fy hkz
     cases hls : Op.bytesLess x.f0.f0.toList y.f0.f0.toList with
     | false =>
      clear hj
      go_upto_region 6 with (fail)
      go_quiet (fail)
      have hfin : SRel1 l W M (.slice (some ⟨g, 0, none⟩) l.length c1) (n + 1) (wr.drewN nq) := by
       have h := srel2_exit (HEX.out _ (pw_below_drewN (Below.refl _ _) nq)) (fun a2 b2 y2 h1 h2 h3 => by
        have e1 : a2 = a := by
         have h4 := HA.out
         rw [h1] at h4
         have hl2 : a2.length = a.length := by
          have := HAL.out; have := HJ.out
          rw [HAA.out, List.length_append, List.length_singleton]
          omega
         exact (List.append_inj h4 hl2).1
        rw [e1, HAA.out, List.getLast?_append] at h3
        simp at h3
        subst h3
        rw [HX.out]
        exact hls) (by omega)
       rw [HNN.out] at h
       exact h
      have HF := Aside0.mk hfin
      clear hfin hw64 hwi
      go_wp2
      go_roundw
      case rel => exact ⟨n + 1, by go_num, HF⟩
      case measure => simp [intOf]; omega
     | true =>
      clear hj
      go_upto_region 6 with (fail)
      go_quiet (fail)
      go_upto_region 8 with (fail)
      refine start_ (n := 18) (S := fun w' => w'.cell? ⟨g, j.toNat * 10, none⟩ = some (.string y.f0.f0) ∧ w'.cell? ⟨g, j.toNat * 10 + 1, none⟩ = some (.string y.f0.f1) ∧ w'.cell? ⟨g, j.toNat * 10 + 2, none⟩ = some (.string y.f0.f2) ∧ w'.cell? ⟨g, j.toNat * 10 + 3, none⟩ = some (.int .u8 y.f0.f3) ∧ w'.cell? ⟨g, j.toNat * 10 + 4, none⟩ = some (.int .i64 y.f0.f4.f0) ∧ w'.cell? ⟨g, j.toNat * 10 + 5, none⟩ = some (.int .i64 y.f0.f4.f1) ∧ w'.cell? ⟨g, j.toNat * 10 + 6, none⟩ = some (.int .i64 y.f0.f4.f2) ∧ w'.cell? ⟨g, j.toNat * 10 + 7, none⟩ = some (.int .i64 y.f0.f4.f3) ∧ w'.cell? ⟨g, j.toNat * 10 + 8, none⟩ = some (.slice Ay y.f0.f5.length cy) ∧ w'.cell? ⟨g, j.toNat * 10 + 9, none⟩ = some (.int .i64 y.f1) ∧ w'.cell? ⟨g, k.toNat * 10, none⟩ = some (.string x.f0.f0) ∧ w'.cell? ⟨g, k.toNat * 10 + 1, none⟩ = some (.string x.f0.f1) ∧ w'.cell? ⟨g, k.toNat * 10 + 2, none⟩ = some (.string x.f0.f2) ∧ w'.cell? ⟨g, k.toNat * 10 + 3, none⟩ = some (.int .u8 x.f0.f3) ∧ w'.cell? ⟨g, k.toNat * 10 + 4, none⟩ = some (.int .i64 x.f0.f4.f0) ∧ w'.cell? ⟨g, k.toNat * 10 + 5, none⟩ = some (.int .i64 x.f0.f4.f1) ∧ w'.cell? ⟨g, k.toNat * 10 + 6, none⟩ = some (.int .i64 x.f0.f4.f2) ∧ w'.cell? ⟨g, k.toNat * 10 + 7, none⟩ = some (.int .i64 x.f0.f4.f3) ∧ w'.cell? ⟨g, k.toNat * 10 + 8, none⟩ = some (.slice Ax x.f0.f5.length cx) ∧ w'.cell? ⟨g, k.toNat * 10 + 9, none⟩ = some (.int .i64 x.f1)) (ds := [15, 17]) #[false, false, false, false, false, false, false, false, false, false, false, false, false, false, false, false, false, false] (by kernel_rfl) rfl rfl ⟨by exact y0, by exact y1, by exact y2, by exact y3, by exact y4, by exact y5, by exact y6, by exact y7, by exact y8, by exact y9, by exact x0, by exact x1, by exact x2, by exact x3, by exact x4, by exact x5, by exact x6, by exact x7, by exact x8, by exact x9⟩ (fun hHeld => ?_)
      generalize hwq : World.drew _ = wq at hHeld ⊢
      have hq0 : Below wr.heap.size wr wq := by rw [← hwq]; exact below_drew (pw_below_drewN (Below.refl _ _) _)
      have hNq := HS.out.below hq0
      have put1 := N_put hNq.1 k.toNat (by omega) HXL.out (x := y) (v := .slice Ay y.f0.f5.length cy) (Kd.FK_below KY.out hq0)
      have rqx : ∀ q, wq.frozen? ⟨g, k.toNat * 10 + q, none⟩ = false := fun q => by rw [← hwq]; exact rx q
      have rqx0 : wq.frozen? ⟨g, k.toNat * 10, none⟩ = false := by rw [← hwq]; exact rx0
      have HNQ := Aside0.mk hNq
      have HQ0 := Aside0.mk hq0
      clear hNq hq0
      refine pure_ (i := 0) (N := some 39) (v := ?_) (a' := ?_) #[true, false, false, false, false, false, false, false, false, false, false, false, false, false, false, false, false, false] rfl rfl (by kernel_rfl) (fun _ _ _ h => h) (Or.inl ⟨by rfl, ?_⟩) ?_ ?_
      rotate_left
      ·intro w'
       go_simp
       with_reducible rfl
      rotate_left
      ·simp only [Act.put, List.setIfInBounds_toArray, List.set_cons_zero, List.set_cons_succ, i64_w, i32_w]
       rfl
      refine pure_ (i := 1) (N := some 40) (v := ?_) (a' := ?_) #[true, true, false, false, false, false, false, false, false, false, false, false, false, false, false, false, false, false] rfl rfl (by kernel_rfl) (fun _ _ _ h => h) (Or.inl ⟨by rfl, ?_⟩) ?_ ?_
      rotate_left
      ·intro w'
       go_simp
       with_reducible rfl
      rotate_left
      ·simp only [Act.put, List.setIfInBounds_toArray, List.set_cons_zero, List.set_cons_succ, i64_w, i32_w]
       rfl
      refine pure_ (i := 2) (N := some 41) (v := ?_) (a' := ?_) #[true, true, true, false, false, false, false, false, false, false, false, false, false, false, false, false, false, false] rfl rfl (by kernel_rfl) (fun _ _ _ h => h) (Or.inl ⟨by rfl, ?_⟩) ?_ ?_
      rotate_left
      ·intro w'
       go_simp
       with_reducible rfl
      rotate_left
      ·simp only [Act.put, List.setIfInBounds_toArray, List.set_cons_zero, List.set_cons_succ, i64_w, i32_w]
       rfl
      refine pure_ (i := 3) (N := some 42) (v := ?_) (a' := ?_) #[true, true, true, true, false, false, false, false, false, false, false, false, false, false, false, false, false, false] rfl rfl (by kernel_rfl) (fun _ _ _ h => h) (Or.inl ⟨by rfl, ?_⟩) ?_ ?_
      rotate_left
      ·intro w'
       go_simp
       with_reducible rfl
      rotate_left
      ·simp only [Act.put, List.setIfInBounds_toArray, List.set_cons_zero, List.set_cons_succ, i64_w, i32_w]
       rfl
      refine pure_ (i := 4) (N := some 43) (v := ?_) (a' := ?_) #[true, true, true, true, true, false, false, false, false, false, false, false, false, false, false, false, false, false] rfl rfl (by kernel_rfl) (fun _ _ _ h => h) (Or.inl ⟨by rfl, ?_⟩) ?_ ?_
      rotate_left
      ·intro w'
       go_simp
       with_reducible rfl
      rotate_left
      ·simp only [Act.put, List.setIfInBounds_toArray, List.set_cons_zero, List.set_cons_succ, i64_w, i32_w]
       rfl
      refine pure_ (i := 5) (N := some 44) (v := ?_) (a' := ?_) #[true, true, true, true, true, true, false, false, false, false, false, false, false, false, false, false, false, false] rfl rfl (by kernel_rfl) (fun _ _ _ h => h) (Or.inl ⟨by rfl, ?_⟩) ?_ ?_
      rotate_left
      ·intro w'
       go_simp
       with_reducible rfl
      rotate_left
      ·simp only [Act.put, List.setIfInBounds_toArray, List.set_cons_zero, List.set_cons_succ, i64_w, i32_w]
       rfl
      refine pure_ (i := 6) (N := some 45) (v := ?_) (a' := ?_) #[true, true, true, true, true, true, true, false, false, false, false, false, false, false, false, false, false, false] rfl rfl (by kernel_rfl) (fun _ _ _ h => h) (Or.inl ⟨by rfl, ?_⟩) ?_ ?_
      rotate_left
      ·intro w'
       go_simp
       with_reducible rfl
      rotate_left
      ·simp only [Act.put, List.setIfInBounds_toArray, List.set_cons_zero, List.set_cons_succ, i64_w, i32_w]
       rfl
      refine pure_ (i := 7) (N := some 46) (v := ?_) (a' := ?_) #[true, true, true, true, true, true, true, true, false, false, false, false, false, false, false, false, false, false] rfl rfl (by kernel_rfl) (fun _ _ _ h => h) (Or.inl ⟨by rfl, ?_⟩) ?_ ?_
      rotate_left
      ·intro w'
       go_simp
       with_reducible rfl
      rotate_left
      ·simp only [Act.put, List.setIfInBounds_toArray, List.set_cons_zero, List.set_cons_succ, i64_w, i32_w]
       rfl
      refine pure_ (i := 8) (N := some 47) (v := ?_) (a' := ?_) #[true, true, true, true, true, true, true, true, true, false, false, false, false, false, false, false, false, false] rfl rfl (by kernel_rfl) (fun _ _ _ h => h) (Or.inl ⟨by rfl, ?_⟩) ?_ ?_
      rotate_left
      ·intro w'
       go_simp
       with_reducible rfl
      rotate_left
      ·simp only [Act.put, List.setIfInBounds_toArray, List.set_cons_zero, List.set_cons_succ, i64_w, i32_w]
       rfl
      refine take_ (i := 9) (N := some 48) (v := ?_) (a' := ?_) #[true, true, true, true, true, true, true, true, true, true, false, false, false, false, false, false, false, false] rfl rfl (by kernel_rfl) (fun _ _ _ h => h) (Or.inl ⟨by rfl, ?_⟩) hHeld ?_ ?_
      rotate_left
      ·rintro w' ⟨s0, s1, s2, s3, s4, s5, s6, s7, s8, s9, s10, s11, s12, s13, s14, s15, s16, s17, s18, s19⟩
       go_simp
       with_reducible rfl
      rotate_left
      ·simp only [Act.put, List.setIfInBounds_toArray, List.set_cons_zero, List.set_cons_succ, i64_w, i32_w]
       rfl
      refine pure_ (i := 10) (N := some 49) (v := ?_) (a' := ?_) #[true, true, true, true, true, true, true, true, true, true, true, false, false, false, false, false, false, false] rfl rfl (by kernel_rfl) (fun _ _ _ h => h) (Or.inl ⟨by rfl, ?_⟩) ?_ ?_
      rotate_left
      ·intro w'
       go_simp
       with_reducible rfl
      rotate_left
      ·simp only [Act.put, List.setIfInBounds_toArray, List.set_cons_zero, List.set_cons_succ, i64_w, i32_w]
       rfl
      refine pure_ (i := 11) (N := some 50) (v := ?_) (a' := ?_) #[true, true, true, true, true, true, true, true, true, true, true, true, false, false, false, false, false, false] rfl rfl (by kernel_rfl) (fun _ _ _ h => h) (Or.inl ⟨by rfl, ?_⟩) ?_ ?_
      rotate_left
      ·intro w'
       go_simp
       with_reducible rfl
      rotate_left
      ·simp only [Act.put, List.setIfInBounds_toArray, List.set_cons_zero, List.set_cons_succ, i64_w, i32_w]
       rfl
      refine pure_ (i := 12) (N := some 51) (v := ?_) (a' := ?_) #[true, true, true, true, true, true, true, true, true, true, true, true, true, false, false, false, false, false] rfl rfl (by kernel_rfl) (fun _ _ _ h => h) (Or.inl ⟨by rfl, ?_⟩) ?_ ?_
      rotate_left
      ·intro w'
       go_simp
       with_reducible rfl
      rotate_left
      ·simp only [Act.put, List.setIfInBounds_toArray, List.set_cons_zero, List.set_cons_succ, i64_w, i32_w]
       rfl
      refine take_ (i := 13) (N := some 52) (v := ?_) (a' := ?_) #[true, true, true, true, true, true, true, true, true, true, true, true, true, true, false, false, false, false] rfl rfl (by kernel_rfl) (fun _ _ _ h => h) (Or.inl ⟨by rfl, ?_⟩) hHeld ?_ ?_
      rotate_left
      ·rintro w' ⟨s0, s1, s2, s3, s4, s5, s6, s7, s8, s9, s10, s11, s12, s13, s14, s15, s16, s17, s18, s19⟩
       go_simp
       with_reducible rfl
      rotate_left
      ·simp only [Act.put, List.setIfInBounds_toArray, List.set_cons_zero, List.set_cons_succ, i64_w, i32_w]
       rfl
      refine pure_ (i := 14) (N := some 53) (v := ?_) (a' := ?_) #[true, true, true, true, true, true, true, true, true, true, true, true, true, true, true, false, false, false] rfl rfl (by kernel_rfl) (fun _ _ _ h => h) (Or.inl ⟨by rfl, ?_⟩) ?_ ?_
      rotate_left
      ·intro w'
       go_simp
       with_reducible rfl
      rotate_left
      ·simp only [Act.put, List.setIfInBounds_toArray, List.set_cons_zero, List.set_cons_succ, i64_w, i32_w]
       rfl
      refine last_ (i := 15) (N := none) #[true, true, true, true, true, true, true, true, true, true, true, true, true, true, true, true, false, false] rfl rfl (by kernel_rfl) (by decide) (fun K hK => ?_)
      refine skip_ (w1 := wq.setCells g (k.toNat * 10) (clsCells y (.slice Ay y.f0.f5.length cy))) (by rfl) rfl ?_ ?_
      rotate_left
      ·refine hK.out _ _ ?_
       clear hK K
       obtain ⟨HP1, HG1⟩ := put1
       have hr2 := cls_elem HP1 j.toNat (by rw [List.length_set]; omega) (by rw [List.length_set]; exact HXL.out)
       obtain ⟨_, _, f2, r2, _, _, _⟩ := hr2
       generalize hw2 : wq.setCells g (k.toNat * 10) (clsCells y (.slice Ay y.f0.f5.length cy)) = w2 at HP1 HG1 r2 f2 ⊢
       obtain ⟨z0, z1, z2, z3, z4, z5, z6, z7, z8, z9⟩ := cls_facts f2
       have r20 := r2 0
       rw [Nat.add_zero] at r20
       have HP1 := Aside0.mk HP1
       have HG1 := Aside0.mk HG1
       clear hw2
       refine pure_ (i := 16) (N := some 54) (v := ?_) (a' := ?_) #[true, true, true, true, true, true, true, true, true, true, true, true, true, true, true, true, true, false] rfl rfl (by kernel_rfl) (fun _ _ _ h => h) (Or.inl ⟨by rfl, ?_⟩) ?_ ?_
       rotate_left
       ·intro w'
        go_simp
        with_reducible rfl
       rotate_left
       ·simp only [Act.put, List.setIfInBounds_toArray, List.set_cons_zero, List.set_cons_succ, i64_w, i32_w]
        rfl
       refine last_ (i := 17) (N := none) #[true, true, true, true, true, true, true, true, true, true, true, true, true, true, true, true, true, true] rfl rfl (by kernel_rfl) (by decide) (fun K hK => ?_)
       refine skip_ (w1 := w2.setCells g (j.toNat * 10) (clsCells x (.slice Ax x.f0.f5.length cx))) (by rfl) rfl ?_ ?_
       rotate_left
       ·refine hK.out _ _ ?_
        clear hK K
        refine done_ (by kernel_rfl) ?_
        have hput2 := N_put HP1.out j.toNat (by rw [List.length_set]; omega) (by rw [List.length_set]; exact HXL.out) (x := x) (v := .slice Ax x.f0.f5.length cx) (Kd.FK_grown (Kd.FK_below KX.out HQ0.out) HG1.out (fun q hq e => by cases e; exact hq.2 rfl))
        have hgs := HG1.out.size
        have hgs2 := hput2.2.size
        have hfin : SRel2 l W M (.slice (some ⟨g, 0, none⟩) l.length c1) n.toNat hil j (w2.setCells g (j.toNat * 10) (clsCells x (.slice Ax x.f0.f5.length cx))) := by
         refine ⟨hj0, a', y :: b, ?_, ?_, ?_, ?_, ?_, ?_⟩
         ·rw [HA.out, HAA.out]; simp
         ·have := HAL.out; omega
         ·intro z hz
          rw [HX.out]
          rcases List.mem_cons.1 hz with rfl | hz
          ·exact hls
          ·exact HBL.out z hz
         ·have e := turn_row (b := b) (x := x) (y := y) (r := l.drop (n.toNat + 1)) a' HAA.out
          have e2 := HXS.out
          rw [HX.out] at e2 ⊢
          rw [e2, HAL.out, HJN.out] at e
          rw [← e]
          exact hput2.1
         ·exact HNQ.out.2.1.grown (HG1.out.trans hput2.2) HNQ.out.2.1.size (fun q hq => by cases hq; exact hg0)
         ·have := HNQ.out.2.2
          omega
        have HF := Aside0.mk hfin
        clear hfin hput2 hwi hHeld
        generalize w2.setCells g (j.toNat * 10) (clsCells x (.slice Ax x.f0.f5.length cx)) = w3 at HF ⊢
        go_wp2
        go_roundw
        case rel => exact ⟨j, by rw [HJ.out], HF⟩
        case measure => simp [intOf]; have := HJN.out; omega
       ·go_simp
        rfl
      ·go_simp
       rfl
  ·have c1b : decide (n < (l.length : Int)) = false := decide_eq_false hlt
   have hdone : SRow W wr M (.slice A1 l.length c1) (sortC l) := by
    have h := HR.out.2.2
    rw [List.take_of_length_le (by have := HR.out.2.1; omega), List.drop_eq_nil_of_le (by have := HR.out.2.1; omega), List.append_nil] at h
    exact h
   have hsl := sortC_len l
   have hzs : ∀ x ∈ sortC l, x.f0.f5.length ≤ 140737488351232 := fun x hx => HZ.out x ((sortC_perm l).mem_iff.1 hx)
   have HZS := Aside0.mk hzs
   have HSO : Aside0 (sortedF l = (sortC l).mapIdx (fun i x => outC (sortC l) i x)) := ⟨rfl⟩
   generalize hse : sortC l = s at hdone hsl HZS HSO
   have HSL := Aside0.mk hsl
   have hstart : SRel3 s W M (.slice A1 l.length c1) 0 (.slice none 0 0) wr := ⟨by omega, by omega, hdone, Kd.N_nil _ _ _ _ _⟩
   have HST := Aside0.mk hstart
   clear hstart hdone hse hzs hsl
   go_wp2
   go_loopw [6, 5] (fun i o wr => ∃ n : Int, i = .int .i64 n ∧ Aside0 (SRel3 s W M (.slice A1 l.length c1) n o wr)) (fun i _ _ => (l.length - (intOf i)).toNat)
   case atStart => exact ⟨0, rfl, HST⟩
   case round =>
    obtain ⟨n, rfl, HR⟩ := hrel
    have h0 := HR.out.1
    have h1 := HR.out.2.1
    have hS := HR.out.2.2.1
    have hO := HR.out.2.2.2
    generalize houts : (s.mapIdx (fun i x => outC s i x)).take n.toNat = outs at hO
    obtain ⟨Ao, co, rfl⟩ := Kd.N_slice hO
    have hol : outs.length ≤ 1000000000000 := by rw [← houts, List.length_take, List.length_mapIdx]; have := HSL.out; omega
    have HOL := Aside0.mk hol
    have HOUTS := Aside0.mk houts
    have HO := Aside0.mk hO
    have HS := Aside0.mk hS
    clear hol houts hO hS
    by_cases hlt : n < (l.length : Int)
    ·have c1b : decide (n < (l.length : Int)) = true := decide_eq_true hlt
     have hnl : n.toNat < s.length := by have := HSL.out; omega
     obtain ⟨g, cap, hv, hg0, hg1, _⟩ := Kd.N_form HS.out.1 (by omega)
     rw [HSL.out] at hv
     cases hv
     have hgM : g < M := HS.out.1.1 g rfl
     obtain ⟨Ax, cx, fx, rx, lx, fF, _⟩ := cls_elem HS.out.1 n.toNat hnl HSL.out.symm
     have hxb : (s[n.toNat]).f0.f5.length ≤ 140737488351232 := HZS.out _ (List.getElem_mem _)
     have HXE : Aside0 (∀ (q : Nat) (hq : q < s.length), q = n.toNat → s[q] = s[n.toNat]) := ⟨fun q hq e => by subst e; rfl⟩
     generalize hx : s[n.toNat] = x at fx lx fF hxb HXE
     obtain ⟨x0, x1, x2, x3, x4, x5, x6, x7, x8, x9⟩ := cls_facts fx
     have HX := Aside0.mk hx
     have HF := Aside0.mk (Kd.F_mono fF (ok' := fun k => k < M) (fun k hk => hk.1))
     have HLX := Aside0.mk lx
     have hMw := HS.out.2.2
     have HXC := Aside0.mk fx
     clear fx rx lx fF hx
     have hmid : ∀ (q : Nat) (ldr : ByteArray) (wz : World), (wz = (wr.alloc (.cells (boxCells x emp (.slice Ax x.f0.f5.length cx)) 49)).drewN q ∧ ldr = emp ∨ wz = ((wr.alloc (.cells (boxCells x emp (.slice Ax x.f0.f5.length cx)) 49)).drewN q).setCell ⟨wr.heap.size, 2, none⟩ (.string ldr)) → SMid s W M (.slice (some ⟨g, 0, none⟩) l.length c1) (.slice Ao outs.length co) outs x Ax cx wr.heap.size ldr wz := by
      rintro q ldr wz (⟨rfl, rfl⟩ | rfl)
      ·have hb : Below wr.heap.size wr ((wr.alloc (.cells (boxCells x emp (.slice Ax x.f0.f5.length cx)) 49)).drewN q) := pw_below_drewN (below_alloc (Below.refl _ _) _) _
       exact ⟨HS.out.below hb, Kd.N_below HO.out hb, blk_new wr _, Kd.F_below HF.out hb, by show (wr.alloc _).heap.size = _; rw [World.size_alloc], hMw⟩
      ·have hb : Below wr.heap.size wr ((wr.alloc (.cells (boxCells x emp (.slice Ax x.f0.f5.length cx)) 49)).drewN q) := pw_below_drewN (below_alloc (Below.refl _ _) _) _
       have hb2 : Below wr.heap.size wr (((wr.alloc (.cells (boxCells x emp (.slice Ax x.f0.f5.length cx)) 49)).drewN q).setCell ⟨wr.heap.size, 2, none⟩ (.string ldr)) := below_put hb _ _ (Nat.le_refl _) _
       refine ⟨HS.out.below hb2, Kd.N_below HO.out hb2, blk_put (w := (wr.alloc (.cells (boxCells x emp (.slice Ax x.f0.f5.length cx)) 49)).drewN q) (blk_new wr _) 2 _ rfl, Kd.F_below HF.out hb2, ?_, hMw⟩
       rw [World.size_setCell]
       show (wr.alloc _).heap.size = _
       rw [World.size_alloc]
     have HMID := Aside0.mk hmid
     have hnn : (0 : Int) ≤ n := h0
     clear hmid
     by_cases h48 : x.f0.f3 = 48
     ·have e48 : (x.f0.f3 == 48) = true := beq_iff_eq.2 h48
      have H48 := Aside0.mk h48
      clear h48
      go_wp2
      go_loopw [8] (fun i w' => ∃ k : Int, i = .int .i64 k ∧ Aside0 (SRel4 s n.toNat x k ∧ k ≤ n ∧ ∃ q, w' = (wr.alloc (.cells (boxCells x emp (.slice Ax x.f0.f5.length cx)) 49)).drewN q)) (fun i _ => (n + 1 - (intOf i)).toNat)
      case atStart => exact ⟨0, rfl, ⟨⟨by omega, fun q hq hq2 => absurd hq (by omega)⟩, by omega, 0, rfl⟩⟩
      case round =>
       obtain ⟨k, rfl, HR4⟩ := hrel
       obtain ⟨hk0, hno⟩ := HR4.out.1
       have hkn := HR4.out.2.1
       obtain ⟨q4, hw4⟩ := HR4.out.2.2
       have HNO := Aside0.mk hno
       have ckn : decide (k ≤ n) = true := decide_eq_true hkn
       have hkl : k < (l.length : Int) := by omega
       have hks : k.toNat < s.length := by omega
       obtain ⟨Ak, ck, fk, _, _, _, _⟩ := cls_elem HS.out.1 k.toNat hks HSL.out.symm
       have hke : k.toNat = n.toNat → s[k.toNat] = x := fun e => HXE.out _ hks e
       generalize hyk : s[k.toNat] = y at fk hke
       obtain ⟨y0, _, _, y3, _, _, _, _, _, y9⟩ := cls_facts fk
       have HY := Aside0.mk hyk
       have HKE := Aside0.mk hke
       subst hw4
       have z0 : ((wr.alloc (.cells (boxCells x emp (.slice Ax x.f0.f5.length cx)) 49)).drewN q4).cell? ⟨g, k.toNat * 10, none⟩ = some (.string y.f0.f0) := fcell' y0 _
       have z3 : ((wr.alloc (.cells (boxCells x emp (.slice Ax x.f0.f5.length cx)) 49)).drewN q4).cell? ⟨g, k.toNat * 10 + 3, none⟩ = some (.int .u8 y.f0.f3) := fcell' y3 _
       have z9 : ((wr.alloc (.cells (boxCells x emp (.slice Ax x.f0.f5.length cx)) 49)).drewN q4).cell? ⟨g, k.toNat * 10 + 9, none⟩ = some (.int .i64 y.f1) := fcell' y9 _
       have z9n : ((wr.alloc (.cells (boxCells x emp (.slice Ax x.f0.f5.length cx)) 49)).drewN q4).cell? ⟨g, n.toNat * 10 + 9, none⟩ = some (.int .i64 x.f1) := fcell' x9 _
       obtain ⟨b0, b1, b2, b3, b4, b5, b6, b7, b8⟩ := box_facts (w := (wr.alloc (.cells (boxCells x emp (.slice Ax x.f0.f5.length cx)) 49)).drewN q4) (b := wr.heap.size) (blk_new wr (.cells (boxCells x emp (.slice Ax x.f0.f5.length cx)) 49))
       have bz : ((wr.alloc (.cells (boxCells x emp (.slice Ax x.f0.f5.length cx)) 49)).drewN q4).frozen? ⟨wr.heap.size, 2, none⟩ = false := box_soft (w := (wr.alloc (.cells (boxCells x emp (.slice Ax x.f0.f5.length cx)) 49)).drewN q4) (b := wr.heap.size) (blk_new wr (.cells (boxCells x emp (.slice Ax x.f0.f5.length cx)) 49)) 2
       clear fk hyk hke hno
       generalize hwv : (wr.alloc (.cells (boxCells x emp (.slice Ax x.f0.f5.length cx)) 49)).drewN q4 = wv at z0 z3 z9 z9n b0 b1 b2 b3 b4 b5 b6 b7 b8 bz ⊢
       have HWV := Aside0.mk hwv
       clear hwv
       by_cases hm : y.f0.f3 = 48 ∧ y.f1 = x.f1
       ·have m1 : (y.f0.f3 == 48) = true := beq_iff_eq.2 hm.1
        have m2 : (y.f1 == x.f1) = true := beq_iff_eq.2 hm.2
        have hlead : leadC s n.toNat x = y.f0.f0 := by
         rw [← HY.out]
         exact first_here (by omega) hnl H48.out (by rw [HY.out]; exact hm) (fun q hq h => HNO.out q (by omega) (by omega) h)
        have HLEAD := Aside0.mk hlead
        clear hm hlead
        go_upto_region 18 with (fail)
        go_quiet (fail)
        go_upto_region 20 with (fail)
        have hsm := HMID.out (q4 + nq) y.f0.f0 _ (.inr rfl)
        rw [show (wr.alloc (.cells (boxCells x emp (.slice Ax x.f0.f5.length cx)) 49)).drewN (q4 + nq) = (wv.drewN nq) from by rw [← HWV.out, World.drewN_drewN]] at hsm
        have HSM := Aside0.mk hsm
        have HLD : Aside0 (leadC s n.toNat x = y.f0.f0) := HLEAD
        generalize hwz : (wv.drewN nq).setCell ⟨wr.heap.size, 2, none⟩ (.string y.f0.f0) = wz at HSM ⊢
        generalize hld : y.f0.f0 = ldr at HSM HLD
        clear hsm hwz hld b0 b1 b2 b3 b4 b5 b6 b7 b8 bz z0 z3 z9 z9n y0 y3 y9
        obtain ⟨tS, tO, tB, tF, tz, tM⟩ := HSM.out
        obtain ⟨b0, b1, b2, b3, b4, b5, b6, b7, b8⟩ := box_facts tB
        have bz := box_soft tB 8
        have tC := Kd.F_now tF
        have tbne : ∀ k : Nat, wr.heap.size ≠ wz.heap.size + k := fun k => by omega
        have TS := Aside0.mk tS
        have TO := Aside0.mk tO
        have TB := Aside0.mk tB
        have TC := Aside0.mk tC
        have TF := Aside0.mk tF
        have hwb : wr.heap.size < wz.heap.size := by omega
        have hwW : W.heap.size ≤ wz.heap.size := tS.2.1.size
        have TZ := Aside0.mk tz
        clear tS tO tB tC tF tz tbne
        go_wp2_with (first
         | (at_builtin; refine Kd.R_append_rows (Kd.int .u8) (w0 := W) W.heap.size rfl (.tmp 104) (.tmp 106) 41 5 (.int .u8 0) 1 rfl Tryz.underlying41 infoU8 rfl (by decide) (by decide) (.slice (some ⟨wz.heap.size, 0, none⟩) 0 0) [] x.f0.f5 Ax x.f0.f5.length cx (fun k => wz.heap.size ≤ k) (fun _ => False) rfl rfl (made_u8 wz _ hwW) (Kd.C_alloc TC.out _) (fun _ _ h => h) (fun _ h => h.elim) (fun k hk => by rw [World.size_alloc] at hk; omega) (below_alloc TS.out.2.1 _) (by rw [World.size_alloc]; omega) (by simp; omega) ?_; intro v5 w5 hR5 hB5 hg5 hat5; rw [List.nil_append] at hR5; obtain ⟨A5, c5, rfl, hl5, _⟩ := Kd.R_reads hR5; have hc5 : ∀ q, w5.cell? ⟨wr.heap.size, q, none⟩ = wz.cell? ⟨wr.heap.size, q, none⟩ := (fun q => cell_over wz w5 _ hg5 hwb q); have hf5 : ∀ q, w5.frozen? ⟨wr.heap.size, q, none⟩ = wz.frozen? ⟨wr.heap.size, q, none⟩ := (fun q => froz_over wz w5 _ hg5 hwb q); have hz5 := hg5.size; rw [World.size_alloc] at hz5; have HR5 := Aside0.mk hR5; have HB5 := Aside0.mk hB5; have HG5 := Aside0.mk hg5; have HL5 := Aside0.mk hl5; clear hR5 hB5 hg5 hat5 hl5)
         | (at_builtin; obtain ⟨mS, mO, mF, mB⟩ := tail_mid TS.out TO.out HR5.out HG5.out HB5.out hwb TZ.out tM (.slice A5 x.f0.f5.length c5) hMW; refine Kd.N_append k49 (w0 := W) W.heap.size rfl (.tmp 109) (.tmp 111) 30 49 (.agg #[(.string ⟨#[]⟩), (.string ⟨#[]⟩), (.string ⟨#[]⟩), (.int .u8 0), (.int .i64 0), (.int .i64 0), (.int .i64 0), (.int .i64 0), (.slice none 0 0)]) 112 rfl Tryz.underlying30 infoNode rfl (by decide) (by decide) (.slice Ao outs.length co) outs (⟨x.f0.f0, x.f0.f1, ldr, x.f0.f3, x.f0.f4, x.f0.f5⟩ : Node) [.string x.f0.f0, .string x.f0.f1, .string ldr, .int .u8 x.f0.f3, .int .i64 x.f0.f4.f0, .int .i64 x.f0.f4.f1, .int .i64 x.f0.f4.f2, .int .i64 x.f0.f4.f3, .slice A5 x.f0.f5.length c5] (fun k => M ≤ k) (fun k => wz.heap.size ≤ k) rfl (by rw [World.size_setCell]; rfl) (k49_mkF _ _ _ HL5.out mF) (fun k hk => ⟨by omega, fun e => by have := TO.out.1 k e.symm; omega⟩) (fun k hk => by rw [World.size_setCell] at hk; omega) mO mB (by rw [World.size_setCell]; omega) (by have := HOL.out; omega) ?_; intro v6 w6 hN6 hB6 hg6 hat6; have hz6 := hg6.size; rw [World.size_setCell] at hz6; have hS6 := tail_row mS hg6 TO.out; have HN6 := Aside0.mk hN6; have HB6 := Aside0.mk hB6; have HS6 := Aside0.mk hS6; clear hN6 hB6 hg6 hat6 mS mO mF mB hS6))
        have hfin : SRel3 s W M (.slice (some ⟨g, 0, none⟩) l.length c1) (n + 1) v6 w6 := by
         refine ⟨by omega, by have := HSL.out; omega, HS6.out, ?_⟩
         have e1 : (n + 1).toNat = n.toNat + 1 := by omega
         have e2 : outC s n.toNat (s[n.toNat]'hnl) = (⟨x.f0.f0, x.f0.f1, ldr, x.f0.f3, x.f0.f4, x.f0.f5⟩ : Node) := by
          rw [HX.out]
          unfold outC
          rw [HLD.out]
         rw [e1, outs_snoc hnl, HOUTS.out, e2]
         exact Kd.N_bound HN6.out
        have HFIN := Aside0.mk hfin
        clear hfin HN6 HB6 HS6
        go_roundw
        case rel => exact ⟨n + 1, by go_num, HFIN⟩
        case measure => simp [intOf]; omega
       ·have HNM := Aside0.mk hm
        have hlt2 : k < n := by
         rcases Int.lt_or_eq_of_le hkn with h | h
         ·exact h
         ·exfalso
          have e := HKE.out (by omega)
          apply hm
          rw [e]
          exact ⟨H48.out, rfl⟩
        have hfin : SRel4 s n.toNat x (k + 1) := by
         refine ⟨by omega, fun q hq hq2 => ?_⟩
         rcases Nat.lt_or_ge q k.toNat with h | h
         ·exact HNO.out q (by omega) hq2
         ·obtain rfl : q = k.toNat := by omega
          rw [HY.out]
          exact HNM.out
        have HF4 := Aside0.mk hfin
        have hpick : (y.f0.f3 == 48) = true ∧ (y.f1 == x.f1) = false ∨ (y.f0.f3 == 48) = false := by
         by_cases h1 : y.f0.f3 = 48
         ·exact .inl ⟨beq_iff_eq.2 h1, beq_eq_false_iff_ne.2 (fun h2 => hm ⟨h1, h2⟩)⟩
         ·exact .inr (beq_eq_false_iff_ne.2 h1)
        clear hm hfin
        rcases hpick with ⟨m1, m2⟩ | m1
        all_goals
         go_upto_region 18 with (fail)
         go_quiet (fail)
         go_wp2
         go_roundw
         case rel => exact ⟨k + 1, by go_num, ⟨HF4.out, by omega, q4 + nq, by rw [← HWV.out, World.drewN_drewN]⟩⟩
         case measure => simp [intOf]; omega
     ·have e48 : (x.f0.f3 == 48) = false := beq_eq_false_iff_ne.2 h48
      have H48 := Aside0.mk h48
      clear h48
      go_wp2
      go_loopw [8] (fun i w' => i = .int .i64 0 ∧ Aside0 (w' = wr.alloc (.cells (boxCells x emp (.slice Ax x.f0.f5.length cx)) 49))) (fun _ _ => 0)
      case atStart => exact ⟨rfl, ⟨rfl⟩⟩
      case round =>
       obtain ⟨rfl, HW4⟩ := hrel
       have hw4 := HW4.out
       subst hw4
       have ckn : decide (0 ≤ n) = true := decide_eq_true h0
       obtain ⟨d0, d1, d2, d3, d4, d5, d6, d7, d8⟩ := box_facts (w := wr.alloc (.cells (boxCells x emp (.slice Ax x.f0.f5.length cx)) 49)) (b := wr.heap.size) (blk_new wr (.cells (boxCells x emp (.slice Ax x.f0.f5.length cx)) 49))
       go_upto_region 20 with (fail)
       clear d0 d1 d2 d3 d4 d5 d6 d7 d8
       have hsm := HMID.out 0 emp (wr.alloc (.cells (boxCells x emp (.slice Ax x.f0.f5.length cx)) 49)) (.inl ⟨rfl, rfl⟩)
       have HSM := Aside0.mk hsm
       have HLD : Aside0 (leadC s n.toNat x = emp) := ⟨by unfold leadC; rw [if_neg H48.out]⟩
       generalize hwz : wr.alloc (.cells (boxCells x emp (.slice Ax x.f0.f5.length cx)) 49) = wz at HSM ⊢
       generalize hld : emp = ldr at HSM HLD
       clear hsm hwz hld
       obtain ⟨tS, tO, tB, tF, tz, tM⟩ := HSM.out
       obtain ⟨b0, b1, b2, b3, b4, b5, b6, b7, b8⟩ := box_facts tB
       have bz := box_soft tB 8
       have tC := Kd.F_now tF
       have tbne : ∀ k : Nat, wr.heap.size ≠ wz.heap.size + k := fun k => by omega
       have TS := Aside0.mk tS
       have TO := Aside0.mk tO
       have TB := Aside0.mk tB
       have TC := Aside0.mk tC
       have TF := Aside0.mk tF
       have hwb : wr.heap.size < wz.heap.size := by omega
       have hwW : W.heap.size ≤ wz.heap.size := tS.2.1.size
       have TZ := Aside0.mk tz
       clear tS tO tB tC tF tz tbne
       go_wp2_with (first
        | (at_builtin; refine Kd.R_append_rows (Kd.int .u8) (w0 := W) W.heap.size rfl (.tmp 104) (.tmp 106) 41 5 (.int .u8 0) 1 rfl Tryz.underlying41 infoU8 rfl (by decide) (by decide) (.slice (some ⟨wz.heap.size, 0, none⟩) 0 0) [] x.f0.f5 Ax x.f0.f5.length cx (fun k => wz.heap.size ≤ k) (fun _ => False) rfl rfl (made_u8 wz _ hwW) (Kd.C_alloc TC.out _) (fun _ _ h => h) (fun _ h => h.elim) (fun k hk => by rw [World.size_alloc] at hk; omega) (below_alloc TS.out.2.1 _) (by rw [World.size_alloc]; omega) (by simp; omega) ?_; intro v5 w5 hR5 hB5 hg5 hat5; rw [List.nil_append] at hR5; obtain ⟨A5, c5, rfl, hl5, _⟩ := Kd.R_reads hR5; have hc5 : ∀ q, w5.cell? ⟨wr.heap.size, q, none⟩ = wz.cell? ⟨wr.heap.size, q, none⟩ := (fun q => cell_over wz w5 _ hg5 hwb q); have hf5 : ∀ q, w5.frozen? ⟨wr.heap.size, q, none⟩ = wz.frozen? ⟨wr.heap.size, q, none⟩ := (fun q => froz_over wz w5 _ hg5 hwb q); have hz5 := hg5.size; rw [World.size_alloc] at hz5; have HR5 := Aside0.mk hR5; have HB5 := Aside0.mk hB5; have HG5 := Aside0.mk hg5; have HL5 := Aside0.mk hl5; clear hR5 hB5 hg5 hat5 hl5)
        | (at_builtin; obtain ⟨mS, mO, mF, mB⟩ := tail_mid TS.out TO.out HR5.out HG5.out HB5.out hwb TZ.out tM (.slice A5 x.f0.f5.length c5) hMW; refine Kd.N_append k49 (w0 := W) W.heap.size rfl (.tmp 109) (.tmp 111) 30 49 (.agg #[(.string ⟨#[]⟩), (.string ⟨#[]⟩), (.string ⟨#[]⟩), (.int .u8 0), (.int .i64 0), (.int .i64 0), (.int .i64 0), (.int .i64 0), (.slice none 0 0)]) 112 rfl Tryz.underlying30 infoNode rfl (by decide) (by decide) (.slice Ao outs.length co) outs (⟨x.f0.f0, x.f0.f1, ldr, x.f0.f3, x.f0.f4, x.f0.f5⟩ : Node) [.string x.f0.f0, .string x.f0.f1, .string ldr, .int .u8 x.f0.f3, .int .i64 x.f0.f4.f0, .int .i64 x.f0.f4.f1, .int .i64 x.f0.f4.f2, .int .i64 x.f0.f4.f3, .slice A5 x.f0.f5.length c5] (fun k => M ≤ k) (fun k => wz.heap.size ≤ k) rfl (by rw [World.size_setCell]; rfl) (k49_mkF _ _ _ HL5.out mF) (fun k hk => ⟨by omega, fun e => by have := TO.out.1 k e.symm; omega⟩) (fun k hk => by rw [World.size_setCell] at hk; omega) mO mB (by rw [World.size_setCell]; omega) (by have := HOL.out; omega) ?_; intro v6 w6 hN6 hB6 hg6 hat6; have hz6 := hg6.size; rw [World.size_setCell] at hz6; have hS6 := tail_row mS hg6 TO.out; have HN6 := Aside0.mk hN6; have HB6 := Aside0.mk hB6; have HS6 := Aside0.mk hS6; clear hN6 hB6 hg6 hat6 mS mO mF mB hS6))
       have hfin : SRel3 s W M (.slice (some ⟨g, 0, none⟩) l.length c1) (n + 1) v6 w6 := by
        refine ⟨by omega, by have := HSL.out; omega, HS6.out, ?_⟩
        have e1 : (n + 1).toNat = n.toNat + 1 := by omega
        have e2 : outC s n.toNat (s[n.toNat]'hnl) = (⟨x.f0.f0, x.f0.f1, ldr, x.f0.f3, x.f0.f4, x.f0.f5⟩ : Node) := by
         rw [HX.out]
         unfold outC
         rw [HLD.out]
        rw [e1, outs_snoc hnl, HOUTS.out, e2]
        exact Kd.N_bound HN6.out
       have HFIN := Aside0.mk hfin
       clear hfin HN6 HB6 HS6
       go_roundw
       case rel => exact ⟨n + 1, by go_num, HFIN⟩
       case measure => simp [intOf]; omega
    ·have c1b : decide (n < (l.length : Int)) = false := decide_eq_false hlt
     go_wp2
     rw [← hQ.out]
     refine ⟨_, rfl, ?_, HS.out.2.1⟩
     have e : outs = sortedF l := by rw [HSO.out, ← HOUTS.out, List.take_of_length_le (by rw [List.length_mapIdx]; have := HSL.out; omega)]
     rw [← e]
     exact Kd.N_mono HO.out (fun k hk => by have := hk.1; have := HS.out.2.2; omega)
end Go.Proofs.YtiijbmaamblidaaGreatDoor

namespace Go.Proofs.YtiijbmaamblidaaGreatDoor
open Go.RowKit Go.Maps Go.Proofs.YtiijbmaamblidaaGreatDoor.Print Go.Proofs.YtiijbmaamblidaaGreatDoorW.PrintWords Go.Proofs.YtiijbmaamblidaaGreatDoorW.PrintLast Go.Proofs.YtiijbmaamblidaaGreatDoorW.PrintMore
set_option linter.unusedVariables false
set_option linter.unusedSimpArgs false
theorem gkeep {w w1 : World} {p : Addr} {v : Value} (hb : Below w.heap.size w w1) (h : w.cell? p = some v) : w1.cell? p = some v := (hb.cell (World.block_lt_of_cell? w _ h)).trans h
theorem blk_lt2 {w : World} {b : Nat} {o : Obj} (h : w.heap[b]? = some o) : b < w.heap.size := (Array.getElem?_eq_some_iff.1 h).1
def FltB (W wr : World) : Prop := wr.heap[W.heap.size]? = some (.cells #[.int .i64 0, .int .i64 0] 27 (0, 0))
theorem FltB.facts {W wr : World} (h : FltB W wr) : wr.cell? ⟨W.heap.size, 0, none⟩ = some (.int .i64 0) ∧ wr.cell? ⟨W.heap.size, 1, none⟩ = some (.int .i64 0) ∧ wr.frozen? ⟨W.heap.size, 0, none⟩ = false ∧ wr.frozen? ⟨W.heap.size, 1, none⟩ = false ∧ W.heap.size < wr.heap.size := by
 unfold FltB at h
 refine ⟨?_, ?_, ?_, ?_, blk_lt2 h⟩
 ·unfold World.cell?; dsimp only; rw [h]; rfl
 ·unfold World.cell?; dsimp only; rw [h]; rfl
 ·unfold World.frozen?; dsimp only; rw [h]; rfl
 ·unfold World.frozen?; dsimp only; rw [h]; rfl
theorem FltB.below {W wr w1 : World} (h : FltB W wr) (hb : Below wr.heap.size wr w1) : FltB W w1 := (hb.block _ (blk_lt2 h)).trans h
def FR1 (l : List Mem) (W : World) (i : Int) (wr : World) : Prop := 0 ≤ i ∧ i ≤ l.length ∧ (∀ (j : Nat) (hj : j < l.length), (j : Int) < i → goodM l[j] = true) ∧ Below W.heap.size W wr ∧ FltB W wr
def FR2 (l : List Mem) (W : World) (i : Int) (v : Value) (wr : World) : Prop :=
 0 ≤ i ∧ i ≤ l.length ∧ (∃ s, stepsF l i.toNat = some s ∧ FInv l i.toNat s ∧ Kd.N k51 51 wr W.heap.size (fun _ => True) v (s.map (clsOf l))) ∧ Below W.heap.size W wr ∧ FltB W wr
def FR3 (xs : List Cls) (p : ByteArray) (wz : World) (k : Int) (v : Value) (wr : World) : Prop :=
 0 ≤ k ∧ k ≤ xs.length ∧ Below wz.heap.size wz wr ∧ Kd.N k51 51 wr wz.heap.size (fun _ => True) v ((xs.take k.toNat).filter (fun x => !decide (x.f0.f0.toList = p.toList)))
def RPost (l : List Mem) (W : World) (e : Ending) (W' : World) : Prop := ∃ v, e = .returned (.tuple #[v, .agg #[.int .i64 (foldF l).2.1, .int .i64 (foldF l).2.2]]) ∧ Kd.V k49 49 W' W.heap.size (fun k => W.heap.size ≤ k) v (foldF l).1 ∧ Below W.heap.size W W'
theorem find_bad {l : List Mem} {j : Nat} (hj : j < l.length) (h : ∀ (k : Nat) (hk : k < l.length), k < j → goodM l[k] = true) (hb : goodM l[j] = false) : l.findIdx? (fun m => !goodM m) = some j :=
 List.findIdx?_eq_some_iff_getElem.2 ⟨hj, by rw [hb]; rfl, fun k hk => by rw [h k (by omega) hk]; simp⟩
theorem find_ok {l : List Mem} (h : ∀ (k : Nat) (hk : k < l.length), goodM l[k] = true) : l.findIdx? (fun m => !goodM m) = none :=
 List.findIdx?_eq_none_iff.2 (fun x hx => by obtain ⟨i, hi, rfl⟩ := List.getElem_of_mem hx; rw [h i hi]; rfl)
theorem good_path {m : Mem} (h : goodM m = true) : m.f0.toList ≠ [] := by
 intro e
 have h1 := (goodM_clean h).1
 unfold cleanOk at h1
 simp only [Bool.and_eq_true, decide_eq_true_iff] at h1
 obtain ⟨h2, h3⟩ := h1
 rw [e] at h3
 unfold cleanF at h2 h3
 split at h2
 ·cases h2
 ·rename_i c1
  rw [if_neg c1] at h3
  split at h2
  ·cases h2
  ·rename_i c2
   rw [if_neg c2] at h3
   split at h2
   ·cases h2
   ·rename_i c3
    rw [if_neg c3] at h3
    split at h2
    ·cases h2
    ·rename_i c4
     rw [if_neg c4] at h3
     apply c4
     rw [← h3]
     rfl
def memArr (x : Mem) (A : Option Addr) (c : Nat) : Array Value := #[.string x.f0, .string x.f1, .int .u8 x.f2, .int .i64 x.f3.f0, .int .i64 x.f3.f1, .int .i64 x.f3.f2, .int .i64 x.f3.f3, .slice A x.f4.length c]
def RMid (x : Mem) (A : Option Addr) (c : Nat) (wr wz : World) (y : Cls) (Ay : Option Addr) (cy : Nat) : Prop :=
 Below (wr.heap.size + 1) (wr.alloc (.cells (memArr x A c) 43)) wz ∧ wz.heap[wr.heap.size + 1]? = some (.cells (clsCells y (.slice Ay y.f0.f5.length cy)).toArray 51 (0, 0)) ∧ wz.heap.size = wr.heap.size + 2 ∧ y.f0.f5.length ≤ cy ∧ Kd.F (Kd.int .u8) wr (fun k => k < wr.heap.size) Ay y.f0.f5.length y.f0.f5
theorem RMid.below {x : Mem} {A : Option Addr} {c : Nat} {wr wz : World} {y : Cls} {Ay : Option Addr} {cy : Nat} (h : RMid x A c wr wz y Ay cy) : Below wr.heap.size wr wz := (below_alloc (Below.refl _ _) _).trans (h.1.mono (by omega))
theorem RMid.facts {x : Mem} {A : Option Addr} {c : Nat} {wr wz : World} {y : Cls} {Ay : Option Addr} {cy : Nat} (h : RMid x A c wr wz y Ay cy) : wz.cell? ⟨wr.heap.size, 0, none⟩ = some (.string x.f0) ∧ (∀ j u, (clsCells y (.slice Ay y.f0.f5.length cy))[j]? = some u → wz.cell? ⟨wr.heap.size + 1, j, none⟩ = some u) := by
 constructor
 ·have h1 := (h.1.block wr.heap.size (Nat.lt_succ_self _)).trans (blk_new wr _)
  unfold World.cell?
  dsimp only
  rw [h1]
  rfl
 ·intro j u hu
  unfold World.cell?
  dsimp only
  rw [h.2.1]
  simpa using hu
theorem names_next {l : List Mem} {s : PS} {p : ByteArray} {c : Nat} : ((s.map (clsOf l)).filter (fun x => !decide (x.f0.f0.toList = p.toList))) ++ [clsOf l (p, c)] = (putP s p c).map (clsOf l) := by
 rw [without_map]
 unfold putP
 rw [List.map_append]
 rfl
theorem drawn2 {w w1 : World} {o1 o2 : Obj} (hd : Drawn0 ((w.alloc o1).alloc o2) w1) : Below w.heap.size w w1 := by
 obtain ⟨n, rfl⟩ := hd.out
 exact pw_below_drewN (below_alloc (below_alloc (Below.refl _ _) _) _) _
def MidC (x : Mem) (A : Option Addr) (c : Nat) (wr w1 : World) (y : Cls) (v : Value) : Prop := Below (wr.heap.size + 1) (wr.alloc (.cells (memArr x A c) 43)) w1 ∧ w1.heap[wr.heap.size + 1]? = some (.cells (clsCells y v).toArray 51 (0, 0)) ∧ w1.heap.size = wr.heap.size + 2
theorem mid_call {x : Mem} {A : Option Addr} {c : Nat} {wr w1 : World} {y : Cls} {v : Value} (hd : Drawn0 ((wr.alloc (.cells (memArr x A c) 43)).alloc (.cells (clsCells y v).toArray 51)) w1) : MidC x A c wr w1 y v := by
 obtain ⟨n, rfl⟩ := hd.out
 have h0 := World.size_alloc wr (.cells (memArr x A c) 43)
 have h1 := World.size_alloc (wr.alloc (.cells (memArr x A c) 43)) (.cells (clsCells y v).toArray 51)
 have hb := pw_below_drewN (B := wr.heap.size + 2) (Below.refl _ ((wr.alloc (.cells (memArr x A c) 43)).alloc (.cells (clsCells y v).toArray 51))) n
 refine ⟨pw_below_drewN ((show Below (wr.heap.size + 1) (wr.alloc (.cells (memArr x A c) 43)) (wr.alloc (.cells (memArr x A c) 43)) from Below.refl _ _).alloc (by omega) _) _, ?_, ?_⟩
 ·refine (hb.block _ (by omega)).trans ?_
  have h2 := blk_new (wr.alloc (.cells (memArr x A c) 43)) (.cells (clsCells y v).toArray 51)
  rw [h0] at h2
  exact h2
 ·simp
theorem cls_box {w : World} {b : Nat} {y : Cls} {v : Value} (h : w.heap[b]? = some (.cells (clsCells y v).toArray 51 (0, 0))) : ∀ j u, (clsCells y v)[j]? = some u → w.cell? ⟨b, 0 + j, none⟩ = some u := by
 intro j u hu
 unfold World.cell?
 dsimp only
 rw [h, Nat.zero_add]
 simpa using hu
theorem mid_facts {x : Mem} {A : Option Addr} {c : Nat} {wr w1 : World} {y : Cls} {v : Value} (h : MidC x A c wr w1 y v) : w1.cell? ⟨wr.heap.size, 0, none⟩ = some (.string x.f0) ∧ w1.cell? ⟨wr.heap.size + 1, 0, none⟩ = some (.string y.f0.f0) ∧ w1.cell? ⟨wr.heap.size + 1, 1, none⟩ = some (.string y.f0.f1) ∧ w1.cell? ⟨wr.heap.size + 1, 2, none⟩ = some (.string y.f0.f2) ∧ w1.cell? ⟨wr.heap.size + 1, 3, none⟩ = some (.int .u8 y.f0.f3) ∧
  w1.cell? ⟨wr.heap.size + 1, 4, none⟩ = some (.int .i64 y.f0.f4.f0) ∧ w1.cell? ⟨wr.heap.size + 1, 5, none⟩ = some (.int .i64 y.f0.f4.f1) ∧ w1.cell? ⟨wr.heap.size + 1, 6, none⟩ = some (.int .i64 y.f0.f4.f2) ∧ w1.cell? ⟨wr.heap.size + 1, 7, none⟩ = some (.int .i64 y.f0.f4.f3) ∧ w1.cell? ⟨wr.heap.size + 1, 8, none⟩ = some v ∧ w1.cell? ⟨wr.heap.size + 1, 9, none⟩ = some (.int .i64 y.f1) ∧
  (∀ j, w1.frozen? ⟨wr.heap.size + 1, j, none⟩ = false) ∧ w1.frozen? ⟨wr.heap.size + 1, 0, none⟩ = false := by
 obtain ⟨z0, z1, z2, z3, z4, z5, z6, z7, z8, z9⟩ := cls_facts (cls_box h.2.1)
 have hs : ∀ j, w1.frozen? ⟨wr.heap.size + 1, j, none⟩ = false := by
  intro j
  unfold World.frozen?
  dsimp only
  rw [h.2.1]
  rfl
 refine ⟨?_, z0, z1, z2, z3, z4, z5, z6, z7, z8, z9, hs, hs 0⟩
 have h1 := (h.1.block wr.heap.size (Nat.lt_succ_self _)).trans (blk_new wr _)
 unfold World.cell?
 dsimp only
 rw [h1]
 rfl
theorem cls_chain {w : World} {b : Nat} {y q : Cls} {v u : Value} (p : ByteArray) (h : w.heap[b]? = some (.cells (clsCells y v).toArray 51 (0, 0))) :
  (((((((((((w.setCell ⟨b, 0, none⟩ (.string q.f0.f0)).setCell ⟨b, 1, none⟩ (.string q.f0.f1)).setCell ⟨b, 2, none⟩ (.string q.f0.f2)).setCell ⟨b, 3, none⟩ (.int .u8 q.f0.f3)).setCell ⟨b, 4, none⟩ (.int .i64 q.f0.f4.f0)).setCell ⟨b, 5, none⟩ (.int .i64 q.f0.f4.f1)).setCell ⟨b, 6, none⟩ (.int .i64 q.f0.f4.f2)).setCell ⟨b, 7, none⟩ (.int .i64 q.f0.f4.f3)).setCell ⟨b, 8, none⟩ (u)).setCell ⟨b, 9, none⟩ (.int .i64 q.f1)).setCell ⟨b, 0, none⟩ (.string p)).heap[b]? = some (.cells #[.string p, .string q.f0.f1, .string q.f0.f2, .int .u8 q.f0.f3, .int .i64 q.f0.f4.f0, .int .i64 q.f0.f4.f1, .int .i64 q.f0.f4.f2, .int .i64 q.f0.f4.f3, u, .int .i64 q.f1] 51 (0, 0)) := by
 have h : w.heap[b]? = some (.cells #[.string y.f0.f0, .string y.f0.f1, .string y.f0.f2, .int .u8 y.f0.f3, .int .i64 y.f0.f4.f0, .int .i64 y.f0.f4.f1, .int .i64 y.f0.f4.f2, .int .i64 y.f0.f4.f3, v, .int .i64 y.f1] 51 (0, 0)) := h
 have h := blk_put (cs' := #[.string q.f0.f0, .string y.f0.f1, .string y.f0.f2, .int .u8 y.f0.f3, .int .i64 y.f0.f4.f0, .int .i64 y.f0.f4.f1, .int .i64 y.f0.f4.f2, .int .i64 y.f0.f4.f3, v, .int .i64 y.f1]) h 0 (.string q.f0.f0) rfl
 have h := blk_put (cs' := #[.string q.f0.f0, .string q.f0.f1, .string y.f0.f2, .int .u8 y.f0.f3, .int .i64 y.f0.f4.f0, .int .i64 y.f0.f4.f1, .int .i64 y.f0.f4.f2, .int .i64 y.f0.f4.f3, v, .int .i64 y.f1]) h 1 (.string q.f0.f1) rfl
 have h := blk_put (cs' := #[.string q.f0.f0, .string q.f0.f1, .string q.f0.f2, .int .u8 y.f0.f3, .int .i64 y.f0.f4.f0, .int .i64 y.f0.f4.f1, .int .i64 y.f0.f4.f2, .int .i64 y.f0.f4.f3, v, .int .i64 y.f1]) h 2 (.string q.f0.f2) rfl
 have h := blk_put (cs' := #[.string q.f0.f0, .string q.f0.f1, .string q.f0.f2, .int .u8 q.f0.f3, .int .i64 y.f0.f4.f0, .int .i64 y.f0.f4.f1, .int .i64 y.f0.f4.f2, .int .i64 y.f0.f4.f3, v, .int .i64 y.f1]) h 3 (.int .u8 q.f0.f3) rfl
 have h := blk_put (cs' := #[.string q.f0.f0, .string q.f0.f1, .string q.f0.f2, .int .u8 q.f0.f3, .int .i64 q.f0.f4.f0, .int .i64 y.f0.f4.f1, .int .i64 y.f0.f4.f2, .int .i64 y.f0.f4.f3, v, .int .i64 y.f1]) h 4 (.int .i64 q.f0.f4.f0) rfl
 have h := blk_put (cs' := #[.string q.f0.f0, .string q.f0.f1, .string q.f0.f2, .int .u8 q.f0.f3, .int .i64 q.f0.f4.f0, .int .i64 q.f0.f4.f1, .int .i64 y.f0.f4.f2, .int .i64 y.f0.f4.f3, v, .int .i64 y.f1]) h 5 (.int .i64 q.f0.f4.f1) rfl
 have h := blk_put (cs' := #[.string q.f0.f0, .string q.f0.f1, .string q.f0.f2, .int .u8 q.f0.f3, .int .i64 q.f0.f4.f0, .int .i64 q.f0.f4.f1, .int .i64 q.f0.f4.f2, .int .i64 y.f0.f4.f3, v, .int .i64 y.f1]) h 6 (.int .i64 q.f0.f4.f2) rfl
 have h := blk_put (cs' := #[.string q.f0.f0, .string q.f0.f1, .string q.f0.f2, .int .u8 q.f0.f3, .int .i64 q.f0.f4.f0, .int .i64 q.f0.f4.f1, .int .i64 q.f0.f4.f2, .int .i64 q.f0.f4.f3, v, .int .i64 y.f1]) h 7 (.int .i64 q.f0.f4.f3) rfl
 have h := blk_put (cs' := #[.string q.f0.f0, .string q.f0.f1, .string q.f0.f2, .int .u8 q.f0.f3, .int .i64 q.f0.f4.f0, .int .i64 q.f0.f4.f1, .int .i64 q.f0.f4.f2, .int .i64 q.f0.f4.f3, u, .int .i64 y.f1]) h 8 (u) rfl
 have h := blk_put (cs' := #[.string q.f0.f0, .string q.f0.f1, .string q.f0.f2, .int .u8 q.f0.f3, .int .i64 q.f0.f4.f0, .int .i64 q.f0.f4.f1, .int .i64 q.f0.f4.f2, .int .i64 q.f0.f4.f3, u, .int .i64 q.f1]) h 9 (.int .i64 q.f1) rfl
 exact blk_put (cs' := #[.string p, .string q.f0.f1, .string q.f0.f2, .int .u8 q.f0.f3, .int .i64 q.f0.f4.f0, .int .i64 q.f0.f4.f1, .int .i64 q.f0.f4.f2, .int .i64 q.f0.f4.f3, u, .int .i64 q.f1]) h 0 (.string p) rfl
theorem take_filter {xs : List Cls} (f : Cls → Bool) {k : Nat} (h : k < xs.length) : (xs.take (k + 1)).filter f = (xs.take k).filter f ++ (if f xs[k] then [xs[k]] else []) := by
 rw [List.take_succ_eq_append_getElem h, List.filter_append, List.filter_cons, List.filter_nil]
theorem flt_grown {W w1 w2 : World} {row : Option Nat} (h : FltB W w1) (hg : w1.grownBy w2 row) (hne : some W.heap.size ≠ row) : FltB W w2 := (hg.block _ (blk_lt2 h) hne).trans h
set_option maxRecDepth 100000 in
set_option maxHeartbeats 8000000 in
theorem RFold_calls (A0 : Option Addr) (c0 : Nat) (l : List Mem) (W : World) (hC : Kd.C k43 W A0 l.length l) (hz : MemsZ l) :
  Calls Tryz.prog 9 #[.slice A0 l.length c0] W (RPost l W) := by
 have HC := Aside0.mk hC
 have HZ := Aside0.mk hz
 have hlen : (l.length : Int) ≤ 1000000000000 := by have := hz.1; omega
 clear hC hz
 generalize hpost : RPost l W = Q
 have hQ := Aside0.mk hpost
 clear hpost
 go_enter Tryz.func9, Tryz.ntmps9
 go_wp2
 go_loopw [4] (fun i wr => ∃ n : Int, i = .int .i64 n ∧ Aside0 (FR1 l W n wr)) (fun i _ => (l.length - (intOf i)).toNat)
 case atStart => exact ⟨0, rfl, ⟨⟨by omega, by omega, fun j hj h => absurd h (by omega), below_alloc (Below.refl _ _) _, blk_new W _⟩⟩⟩
 case round =>
  obtain ⟨n, rfl, HR⟩ := hrel
  have h0 := HR.out.1
  have h1 := HR.out.2.1
  have HB := Aside0.mk HR.out.2.2.2.1
  have HFB := Aside0.mk HR.out.2.2.2.2
  obtain ⟨f0, f1, f2, f3, f4⟩ := HR.out.2.2.2.2.facts
  by_cases hlt : n < (l.length : Int)
  ·have c1b : decide (n < (l.length : Int)) = true := decide_eq_true hlt
   have hnl : n.toNat < l.length := by omega
   obtain ⟨ad, A7, c7, rfl, x0, x1, x2, x3, x4, x5, x6, x7, hl7, hC7⟩ := at_T43 (Kd.C_below HC.out HB.out) n h0 hlt
   have hx := rdM_at l n h0 hlt
   have hxz : MemZ (rd_T43 l n) := by rw [hx]; exact HZ.out.2 _ (List.getElem_mem _)
   generalize rd_T43 l n = x at hx hxz x0 x1 x2 x3 x4 x5 x6 x7 hl7 hC7
   obtain ⟨kg, hkg⟩ := Ev.rounds (refGood_eq x hxz.r)
   cases hgd : goodM x with
   | true =>
    rw [hgd] at hkg
    have HX := Aside0.mk hx
    have HGD := Aside0.mk hgd
    have HKG := Aside0.mk hkg
    have HC7 := Aside0.mk hC7
    have HNL := Aside0.mk hnl
    clear hx hxz hC7 hkg hgd hnl
    go_wp2_with (go_at_call 18; refine (bindleref08_Good.calls kg x.f0 x.f1 x.f2 x.f3.f0 x.f3.f1 x.f3.f2 x.f3.f3 A7 c7 x.f4 true wr HC7.out hl7 HKG.out).mono ?_; rintro e w1 ⟨rfl, hb1⟩)
    have hfin : FR1 l W (n + 1) w1 := by
     refine ⟨by omega, by omega, fun j hj hjn => ?_, HB.out.trans (hb1.mono HB.out.size), HFB.out.below hb1⟩
     rcases Nat.lt_or_ge j n.toNat with h | h
     ·exact HR.out.2.2.1 j hj (by omega)
     ·obtain rfl : j = n.toNat := by omega
      rw [← HX.out]; exact HGD.out
    have HF := Aside0.mk hfin
    clear hfin hb1
    go_roundw
    case rel => exact ⟨n + 1, by go_num, HF⟩
    case measure => simp [intOf]; omega
   | false =>
    rw [hgd] at hkg
    have HX := Aside0.mk hx
    have HGD := Aside0.mk hgd
    have HKG := Aside0.mk hkg
    have HC7 := Aside0.mk hC7
    have HNL := Aside0.mk hnl
    clear hx hxz hC7 hkg hgd hnl
    go_wp2_with (go_at_call 18; refine (bindleref08_Good.calls kg x.f0 x.f1 x.f2 x.f3.f0 x.f3.f1 x.f3.f2 x.f3.f3 A7 c7 x.f4 false wr HC7.out hl7 HKG.out).mono ?_; rintro e w1 ⟨rfl, hb1⟩; obtain ⟨hc1, hf1⟩ := bcell hb1; have HB1 := Aside0.mk hb1; clear hb1)
    have hst := foldF_bad (find_bad HNL.out (fun k hk hkn => HR.out.2.2.1 k hk (by omega)) (by rw [← HX.out]; exact HGD.out))
    rw [Int.toNat_of_nonneg h0] at hst
    refine bodyPost_ret (v := .tuple #[.slice none 0 0, .agg #[.int .i64 1, .int .i64 n]]) (by simp [results, Tryz.results9, go_sem, hc1, hf1, f0, f1, f4]) rfl ?_
    rw [← hQ.out]
    refine ⟨.slice none 0 0, by rw [hst], by rw [hst]; exact Kd.V_nil _ _ _ _ _, ?_⟩
    repeat (with_reducible refine below_put ?_ _ _ (Nat.le_refl _) _)
    exact HB.out.trans (HB1.out.mono HB.out.size)
  ·have c1b : decide (n < (l.length : Int)) = false := decide_eq_false hlt
   have hok := find_ok (l := l) (fun k hk => HR.out.2.2.1 k hk (by omega))
   have HOK := Aside0.mk hok
   have hstart : FR2 l W 0 (.slice none 0 0) wr := ⟨by omega, by omega, ⟨[], rfl, FInv.start l, Kd.N_nil _ _ _ _ _⟩, HB.out, HFB.out⟩
   have HST := Aside0.mk hstart
   clear hstart hok f0 f1 f2 f3 f4
   go_wp2
   clear hlt c1b
   go_loopw [6, 5] (fun i o wr => ∃ n : Int, i = .int .i64 n ∧ Aside0 (FR2 l W n o wr)) (fun i _ _ => (l.length - (intOf i)).toNat)
   case atStart => exact ⟨0, rfl, HST⟩
   case round =>
    obtain ⟨n, rfl, HR⟩ := hrel
    have h0 := HR.out.1
    have h1 := HR.out.2.1
    obtain ⟨s, hs, hI, hN⟩ := HR.out.2.2.1
    have HB := Aside0.mk HR.out.2.2.2.1
    have HFB := Aside0.mk HR.out.2.2.2.2
    obtain ⟨f0, f1, f2, f3, f4⟩ := HR.out.2.2.2.2.facts
    have hsl : s.length ≤ 1000000000000 := by have := hI.len; omega
    generalize hxs : s.map (clsOf l) = xs at hN
    have hxl : xs.length = s.length := by rw [← hxs, List.length_map]
    obtain ⟨Al, cl, rfl⟩ := Kd.N_slice hN
    have hxI : (xs.length : Int) ≤ 1000000000000 := by omega
    have HS := Aside0.mk hs
    have HI := Aside0.mk hI
    have HXS := Aside0.mk hxs
    have HXL := Aside0.mk hxl
    have HNN := Aside0.mk (Kd.N_mono (Kd.N_bound hN) (ok' := fun k => k < wr.heap.size) (fun k hk => hk.2))
    clear hs hI hxs hxl hN hsl
    by_cases hlt : n < (l.length : Int)
    ·have c1b : decide (n < (l.length : Int)) = true := decide_eq_true hlt
     have hnl : n.toNat < l.length := by omega
     obtain ⟨ad, A7, c7, rfl, x0, x1, x2, x3, x4, x5, x6, x7, hl7, hC7⟩ := at_T43 (Kd.C_below HC.out HB.out) n h0 hlt
     have hx := rdM_at l n h0 hlt
     have hxz : MemZ (rd_T43 l n) := by rw [hx]; exact HZ.out.2 _ (List.getElem_mem _)
     have hxg : goodM (rd_T43 l n) = true := by rw [hx]; exact all_good HOK.out (List.getElem_mem _)
     have hst := stepF_eq l s n.toNat hnl
     have hgd : l.getD n.toNat zM = l[n.toNat] := by rw [List.getD_eq_getElem?_getD, List.getElem?_eq_getElem hnl]; rfl
     rw [← hx] at hst hgd
     have HLX : Aside0 (l[n.toNat]? = some (rd_T43 l n)) := ⟨by rw [hx]; exact List.getElem?_eq_getElem hnl⟩
     generalize rd_T43 l n = x at hx hxz hxg x0 x1 x2 x3 x4 x5 x6 x7 hl7 hC7 hst hgd HLX
     have HXZ := Aside0.mk hxz
     have HXG := Aside0.mk hxg
     have HSTEP := Aside0.mk hst
     have HGD := Aside0.mk hgd
     have HC7 := Aside0.mk hC7
     have HNL := Aside0.mk hnl
     have HL7 : Aside0 (x.f4.length ≤ c7) := ⟨hl7⟩
     clear hx hxz hxg hst hgd hC7 hnl hl7
     by_cases h49 : x.f2 = 49
     ·have e49 : (x.f2 == 49) = true := beq_iff_eq.2 h49
      have H49 := Aside0.mk h49
      clear h49
      have hat : (atD s x.f1.data.toList = none ∧ idxC xs x.f1 = -1) ∨ ∃ (i : Nat) (hi : i < s.length), idxC xs x.f1 = (i : Int) ∧ atD s x.f1.data.toList = some (s[i]'hi).2 := by
       rw [← HXS.out]
       exact idx_at HI.out.nodup x.f1
      obtain ⟨kg, hkg⟩ := Ev.rounds (at_eq xs x.f1 (by omega))
      generalize idxC xs x.f1 = j at hkg hat
      have HKG := Aside0.mk hkg
      have hCX := Kd.N_reads' HNN.out
      have HCX : Aside0 (∀ o1 o2, Kd.C k51 ((wr.alloc o1).alloc o2) Al xs.length xs) := ⟨fun o1 o2 => Kd.C_alloc (Kd.C_alloc hCX.2.2 o1) o2⟩
      have HCL := Aside0.mk hCX.2.1
      clear hkg hCX
      rcases hat with ⟨hno, rfl⟩ | ⟨i, hi, rfl, hso⟩
      ·have hst := HSTEP.out
       rw [if_pos H49.out, hno] at hst
       have hst2 := foldF_stop HOK.out HNL.out HS.out hst
       rw [Int.toNat_of_nonneg h0] at hst2
       have HST2 := Aside0.mk hst2
       clear hno hst hst2
       go_wp2_with (go_at_call 19; refine (bindleref08_at.calls kg Al cl xs x.f1 (-1) _ (HCX.out _ _) HCL.out HKG.out).mono ?_; rintro e w1 ⟨rfl, hd⟩; have hb1 : Below wr.heap.size wr w1 := drawn2 hd; have HB1 := Aside0.mk hb1; obtain ⟨g0, g1, g2, g3, g4⟩ := (HFB.out.below hb1).facts; clear hb1 hd)
       refine bodyPost_ret (v := .tuple #[.slice none 0 0, .agg #[.int .i64 7, .int .i64 n]]) (by simp [results, Tryz.results9, go_sem, g0, g1, g4]) rfl ?_
       rw [← hQ.out]
       refine ⟨.slice none 0 0, by rw [HST2.out], by rw [HST2.out]; exact Kd.V_nil _ _ _ _ _, ?_⟩
       repeat (with_reducible refine below_put ?_ _ _ (Nat.le_refl _) _)
       exact HB.out.trans (HB1.out.mono HB.out.size)
      ·obtain ⟨m, hlm, _⟩ := (HI.out.cls _ (List.getElem_mem hi)).2
       have hxl2 := HXL.out
       have hix : i < xs.length := by omega
       have hgc : xs[i] = clsOf l s[i] := by
        have h := HXS.out
        subst h
        rw [List.getElem_map]
       have hf3 : xs[i].f0.f3 = m.f2 := by
        rw [hgc]
        unfold clsOf
        dsimp only
        rw [List.getD_eq_getElem?_getD, hlm]
        rfl
       have hst := HSTEP.out
       rw [if_pos H49.out, hso] at hst
       dsimp only at hst
       rw [hlm] at hst
       dsimp only at hst
       obtain ⟨g, cap, he, _, _, _⟩ := Kd.N_form HNN.out (by omega)
       cases he
       have hbig : (i : Int) ≤ 1000000000000 := by omega
       have hi0 : (0 : Int) ≤ (i : Int) := Int.natCast_nonneg i
       have hiL : (i : Int) < (xs.length : Int) := by omega
       have hin : decide ((i : Int) < 0) = false := decide_eq_false (by omega)
       have hCE := cls_elem HNN.out i hix rfl
       generalize xs[i] = q at hCE hgc hf3
       have HGC := Aside0.mk hgc
       obtain ⟨Aq, cq, hq2, _, hqc, hqF, _⟩ := hCE
       have HQ2 := Aside0.mk hq2
       have HQC := Aside0.mk hqc
       have HQF := Aside0.mk (Kd.F_mono hqF (fun k hk => hk.1))
       clear hq2 hqc hqF
       clear hso hgc hlm hix hxl2
       by_cases h48 : m.f2 = 48
       ·have e48 : (q.f0.f3 == 48) = true := by rw [hf3]; exact beq_iff_eq.2 h48
        have e48b : (q.f0.f3 != 48) = false := by rw [bne, e48]; rfl
        rw [if_pos h48] at hst
        have HS2 := Aside0.mk hst
        clear hst hf3 h48
        go_wp2_with (go_at_call 19; refine (bindleref08_at.calls kg (some ⟨g, 0, none⟩) cl xs x.f1 (i : Int) _ (HCX.out _ _) HCL.out HKG.out).mono ?_; rintro e w1 ⟨rfl, hd⟩; have hb1 : Below wr.heap.size wr w1 := drawn2 hd; have hmc := mid_call (x := x) (A := A7) (c := c7) (y := ⟨⟨x.f0, x.f1, emp, x.f2, x.f3, x.f4⟩, n⟩) hd; obtain ⟨q0, q1, q2, q3, q4, q5, q6, q7, q8, q9⟩ := cls_facts (fun j u h => gkeep hb1 (HQ2.out j u h)); obtain ⟨m0, n0, n1, n2, n3, n4, n5, n6, n7, n8, n9, soft, soft0⟩ := mid_facts hmc; have HMC := Aside0.mk hmc; clear hb1 hd hmc)
        generalize hwz : World.setCell _ ⟨wr.heap.size + 1, 0, none⟩ (.string x.f0) = wz
        obtain ⟨cc, hcc⟩ : ∃ cc, cc = (s[i]'hi).2 := ⟨_, rfl⟩
        obtain ⟨y, hy⟩ : ∃ y, y = clsOf l (x.f0, cc) := ⟨_, rfl⟩
        have hmid : RMid x A7 c7 wr wz y Aq cq := by
         have hq := HGC.out
         have h5 : y.f0.f5 = q.f0.f5 := by rw [hq, hy, hcc]; rfl
         refine ⟨?_, ?_, ?_, by rw [h5]; exact HQC.out, by rw [h5]; exact HQF.out⟩
         ·rw [← hwz]
          repeat (with_reducible refine below_put ?_ _ _ (Nat.le_refl _) _)
          exact HMC.out.1
         ·rw [← hwz]
          refine (cls_chain x.f0 HMC.out.2.1).trans ?_
          have h5' := h5
          rw [hq, hy, hcc]
          rfl
         ·rw [← hwz]
          simp only [World.size_setCell]
          exact HMC.out.2.2
        have hs2 : stepF l s n.toNat = some (putP s x.f0 cc) := by rw [hcc]; exact HS2.out
        clear HS2
        have HS2 := Aside0.mk hs2
        have HYE := Aside0.mk hy
        obtain ⟨Ay, cy, HMID⟩ : ∃ Ay cy, Aside0 (RMid x A7 c7 wr wz y Ay cy) := ⟨_, _, ⟨hmid⟩⟩
        clear hmid hwz hy hcc hs2 q0 q1 q2 q3 q4 q5 q6 q7 q8 q9 m0 n0 n1 n2 n3 n4 n5 n6 n7 n8 n9 soft soft0 HQ2 HQC HQF HGC e48 e48b HMC
        try go_wp2
        obtain ⟨w0, rfl⟩ : ∃ w0, w0 = wr := ⟨_, rfl⟩
        have HMZ : Aside0 (wz.heap.size = w0.heap.size + 2) := ⟨HMID.out.2.2.1⟩
        go_loopw [11, 10] (fun i o wr => ∃ k : Int, i = .int .i64 k ∧ Aside0 (FR3 xs x.f0 wz k o wr)) (fun i _ _ => (xs.length - (intOf i)).toNat)
        case atStart => exact ⟨0, rfl, ⟨⟨by omega, by omega, Below.refl _ _, Kd.N_nil _ _ _ _ _⟩⟩⟩
        case round =>
         obtain ⟨k, rfl, HR3⟩ := hrel
         have k0 := HR3.out.1
         have k1 := HR3.out.2.1
         have HB3 := Aside0.mk HR3.out.2.2.1
         have hN3 := HR3.out.2.2.2
         generalize hys : List.filter _ (List.take k.toNat xs) = ys at hN3
         have hyl : ys.length ≤ xs.length := by
          rw [← hys]
          exact Nat.le_trans (List.length_filter_le _ _) (by rw [List.length_take]; omega)
         obtain ⟨Ao, co, rfl⟩ := Kd.N_slice hN3
         have HOB := Aside0.mk (Kd.N_base hN3)
         have HO := Aside0.mk hN3
         have HYS := Aside0.mk hys
         have HYL := Aside0.mk hyl
         have HWW : Aside0 (Below w0.heap.size w0 wr) := ⟨HMID.out.below.trans (HB3.out.mono HMID.out.below.size)⟩
         clear hN3 hys hyl
         by_cases hlt3 : k < (xs.length : Int)
         ·have c2b : decide (k < (xs.length : Int)) = true := decide_eq_true hlt3
          have hkl : k.toNat < xs.length := by omega
          obtain ⟨g, cap, he, _, _, _⟩ := Kd.N_form HNN.out (by omega)
          cases he
          obtain ⟨Ak, ck, hk2, _, hkc, hkF, hkK⟩ := cls_elem (Kd.N_below HNN.out HWW.out) k.toNat hkl rfl
          have htf := take_filter (fun y' => !decide (y'.f0.f0.toList = x.f0.toList)) hkl
          generalize xs[k.toNat] = q at hk2 hkc hkF hkK htf
          obtain ⟨q0, q1, q2, q3, q4, q5, q6, q7, q8, q9⟩ := cls_facts hk2
          have m0 := gkeep HB3.out HMID.out.facts.1
          have HTF := Aside0.mk htf
          have HKC := Aside0.mk hkc
          have HKK := Aside0.mk hkK
          clear htf hkc hkK hkF hk2
          by_cases hpe : q.f0.f0.toList = x.f0.toList
          ·have e1 : (q.f0.f0.toList == x.f0.toList) = true := beq_iff_eq.2 hpe
           have HPE := Aside0.mk hpe
           clear hpe
           go_upto_region 22 with (fail)
           go_quiet (fail)
           have hfin : FR3 xs x.f0 wz (k + 1) (.slice Ao ys.length co) (wr.drewN nq) := by
            refine ⟨by omega, by omega, HB3.out.trans (pw_below_drewN (Below.refl _ _) _), ?_⟩
            have e2 := HTF.out
            rw [HYS.out] at e2
            rw [show (k + 1).toNat = k.toNat + 1 from by omega, e2]
            simp only [HPE.out, decide_true, Bool.not_true, Bool.false_eq_true, if_false, List.append_nil]
            exact Kd.N_drewN HO.out _
           have HF := Aside0.mk hfin
           clear hfin
           go_wp2
           go_roundw
           case rel => exact ⟨k + 1, by go_num, HF⟩
           case measure => simp [intOf]; omega
          ·have e1 : (q.f0.f0.toList == x.f0.toList) = false := beq_eq_false_iff_ne.2 hpe
           have HPE := Aside0.mk hpe
           clear hpe
           go_upto_region 22 with (fail)
           go_quiet (fail)
           generalize hw5 : World.drewN wr nq = w5
           have hb5 : Below wr.heap.size wr w5 := by rw [← hw5]; exact pw_below_drewN (Below.refl _ _) _
           have HB5 := Aside0.mk hb5
           have HK5 := Aside0.mk (Kd.FK_below HKK.out hb5)
           have p0 := gkeep hb5 q0
           have p1 := gkeep hb5 q1
           have p2 := gkeep hb5 q2
           have p3 := gkeep hb5 q3
           have p4 := gkeep hb5 q4
           have p5 := gkeep hb5 q5
           have p6 := gkeep hb5 q6
           have p7 := gkeep hb5 q7
           have p8 := gkeep hb5 q8
           have p9 := gkeep hb5 q9
           have HW5 := Aside0.mk hw5
           clear hb5 hw5 q0 q1 q2 q3 q4 q5 q6 q7 q8 q9
           go_wp2_with (at_builtin; refine Kd.N_append k51 (w0 := wz) wz.heap.size rfl (.tmp 92) (.tmp 97) 47 51 (.agg #[.string ⟨#[]⟩, .string ⟨#[]⟩, .string ⟨#[]⟩, .int .u8 0, .int .i64 0, .int .i64 0, .int .i64 0, .int .i64 0, .slice none 0 0, .int .i64 0]) 120 rfl Tryz.underlying47 infoCls rfl (by decide) (by decide) (.slice Ao ys.length co) ys q [.string q.f0.f0, .string q.f0.f1, .string q.f0.f2, .int .u8 q.f0.f3, .int .i64 q.f0.f4.f0, .int .i64 q.f0.f4.f1, .int .i64 q.f0.f4.f2, .int .i64 q.f0.f4.f3, .slice Ak q.f0.f5.length ck, .int .i64 q.f1] (fun _ => True) (fun k' => k' < w0.heap.size ∧ k' ≠ g) rfl rfl HK5.out (fun k' hk => ⟨trivial, fun e => by have h1 := HOB.out k' e.symm; have h2 := HMZ.out; omega⟩) (fun _ _ => trivial) (Kd.N_below HO.out HB5.out) (HB3.out.trans (HB5.out.mono HB3.out.size)) (Nat.le_trans HB3.out.size HB5.out.size) (by have := HYL.out; omega) ?_; intro v6 w6 hN6 hB6 hg6 hat6; have HN6 := Aside0.mk hN6; have HB6 := Aside0.mk hB6; clear hN6 hB6 hg6 hat6)
           have hfin : FR3 xs x.f0 wz (k + 1) v6 w6 := by
            refine ⟨by omega, by omega, HB6.out, ?_⟩
            have e2 := HTF.out
            rw [HYS.out] at e2
            rw [show (k + 1).toNat = k.toNat + 1 from by omega, e2]
            simp only [HPE.out, decide_false, Bool.not_false, if_true]
            exact HN6.out
           have HF := Aside0.mk hfin
           clear hfin HN6 HB6
           go_roundw
           case rel => exact ⟨k + 1, by go_num, HF⟩
           case measure => simp [intOf]; omega
         ·have c2b : decide (k < (xs.length : Int)) = false := decide_eq_false hlt3
          have hfull : ys = xs.filter (fun y' => !decide (y'.f0.f0.toList = x.f0.toList)) := by rw [← HYS.out, List.take_of_length_le (by omega)]
          have hbx := HMID.out.facts.2
          have b0 := gkeep HB3.out (hbx 0 _ rfl)
          have b1 := gkeep HB3.out (hbx 1 _ rfl)
          have b2 := gkeep HB3.out (hbx 2 _ rfl)
          have b3 := gkeep HB3.out (hbx 3 _ rfl)
          have b4 := gkeep HB3.out (hbx 4 _ rfl)
          have b5 := gkeep HB3.out (hbx 5 _ rfl)
          have b6 := gkeep HB3.out (hbx 6 _ rfl)
          have b7 := gkeep HB3.out (hbx 7 _ rfl)
          have b8 := gkeep HB3.out (hbx 8 _ rfl)
          have b9 := gkeep HB3.out (hbx 9 _ rfl)
          have HFULL := Aside0.mk hfull
          have HFK := Aside0.mk (k51_mkF wr _ y HMID.out.2.2.2.1 (Kd.F_below HMID.out.2.2.2.2 HWW.out))
          clear hfull hbx
          go_wp2_with (at_builtin; refine Kd.N_append k51 (w0 := W) W.heap.size rfl (.tmp 99) (.tmp 101) 47 51 (.agg #[.string ⟨#[]⟩, .string ⟨#[]⟩, .string ⟨#[]⟩, .int .u8 0, .int .i64 0, .int .i64 0, .int .i64 0, .int .i64 0, .slice none 0 0, .int .i64 0]) 120 rfl Tryz.underlying47 infoCls rfl (by decide) (by decide) (.slice Ao ys.length co) ys y [.string y.f0.f0, .string y.f0.f1, .string y.f0.f2, .int .u8 y.f0.f3, .int .i64 y.f0.f4.f0, .int .i64 y.f0.f4.f1, .int .i64 y.f0.f4.f2, .int .i64 y.f0.f4.f3, .slice Ay y.f0.f5.length cy, .int .i64 y.f1] (fun _ => True) (fun k' => k' < w0.heap.size) rfl rfl HFK.out (fun k' hk => ⟨trivial, fun e => by have h1 := HOB.out k' e.symm; have h2 := HMZ.out; omega⟩) (fun _ _ => trivial) (Kd.N_lower HO.out (Nat.le_trans HB.out.size HMID.out.below.size)) (HB.out.trans (HWW.out.mono HB.out.size)) (Nat.le_trans HB.out.size HWW.out.size) (by have := HYL.out; omega) ?_; intro v6 w6 hN6 hB6 hg6 hat6; have HN6 := Aside0.mk hN6; have HB6 := Aside0.mk hB6; have HG6 := Aside0.mk hg6; clear hN6 hB6 hg6 hat6)
          have hfin : FR2 l W (n + 1) v6 w6 := by
           refine ⟨by omega, by omega, ⟨putP s x.f0 cc, ?_, ?_, ?_⟩, HB6.out, ?_⟩
           ·rw [show (n + 1).toNat = n.toNat + 1 from by omega, stepsF_succ HS.out]; exact HS2.out
           ·rw [show (n + 1).toNat = n.toNat + 1 from by omega]
            have hlx := (List.getElem?_eq_some_iff.1 HLX.out).2
            exact HI.out.step HNL.out (by rw [hlx]; exact good_path HXG.out) (by rw [hlx]; exact HXZ.out.1) HS2.out
           ·have e3 := HN6.out
            rw [HFULL.out, ← HXS.out, HYE.out, names_next] at e3
            exact e3
           ·refine flt_grown (HFB.out.below HWW.out) HG6.out (fun e => ?_)
            have h1 := HOB.out _ e.symm
            have h2 := HMZ.out
            have h3 := HFB.out.facts.2.2.2.2
            omega
          have HF := Aside0.mk hfin
          clear hfin HN6 HB6 HG6
          go_roundw
          case rel => exact ⟨n + 1, by go_num, HF⟩
          case measure => simp [intOf]; omega
       ·have e48 : (q.f0.f3 == 48) = false := by rw [hf3]; exact beq_eq_false_iff_ne.2 h48
        have e48b : (q.f0.f3 != 48) = true := by rw [bne, e48]; rfl
        rw [if_neg h48] at hst
        have hst2 := foldF_stop HOK.out HNL.out HS.out hst
        rw [Int.toNat_of_nonneg h0] at hst2
        have HST2 := Aside0.mk hst2
        clear hst hst2 h48 hf3
        go_wp2_with (go_at_call 19; refine (bindleref08_at.calls kg (some ⟨g, 0, none⟩) cl xs x.f1 (i : Int) _ (HCX.out _ _) HCL.out HKG.out).mono ?_; rintro e w1 ⟨rfl, hd⟩; have hb1 : Below wr.heap.size wr w1 := drawn2 hd; have HB1 := Aside0.mk hb1; obtain ⟨g0, g1, g2, g3, g4⟩ := (HFB.out.below hb1).facts; obtain ⟨q0, q1, q2, q3, q4, q5, q6, q7, q8, q9⟩ := cls_facts (fun j u h => gkeep hb1 (HQ2.out j u h)); clear hb1 hd)
        refine bodyPost_ret (v := .tuple #[.slice none 0 0, .agg #[.int .i64 7, .int .i64 n]]) (by simp [results, Tryz.results9, go_sem, g0, g1, g4]) rfl ?_
        rw [← hQ.out]
        refine ⟨.slice none 0 0, by rw [HST2.out], by rw [HST2.out]; exact Kd.V_nil _ _ _ _ _, ?_⟩
        repeat (with_reducible refine below_put ?_ _ _ (Nat.le_refl _) _)
        exact HB.out.trans (HB1.out.mono HB.out.size)
     ·have e49 : (x.f2 == 49) = false := beq_eq_false_iff_ne.2 h49
      have hst2 := HSTEP.out
      rw [if_neg h49] at hst2
      have HS2 := Aside0.mk hst2
      clear h49 hst2
      go_upto_region 18 with (fail)
      generalize hy : (⟨⟨x.f0, x.f1, emp, x.f2, x.f3, x.f4⟩, n⟩ : Cls) = y
      have hye : y = clsOf l (x.f0, n.toNat) := by
       rw [← hy]
       unfold clsOf
       rw [HGD.out, Int.toNat_of_nonneg h0]
      generalize hwz : World.alloc (World.alloc _ _) _ = wz
      have hmid : RMid x A7 c7 wr wz y A7 c7 := by
       rw [← hwz, ← hy]
       refine ⟨?_, ?_, ?_, HL7.out, Kd.C_F (Kd.heap_int _) HC7.out⟩
       ·exact (show Below (wr.heap.size + 1) (wr.alloc (.cells (memArr x A7 c7) 43)) (wr.alloc (.cells (memArr x A7 c7) 43)) from Below.refl _ _).alloc (by rw [World.size_alloc]; exact Nat.le_refl _) _
       ·have := blk_new (wr.alloc (.cells (memArr x A7 c7) 43)) (.cells (clsCells ⟨⟨x.f0, x.f1, emp, x.f2, x.f3, x.f4⟩, n⟩ (.slice A7 x.f4.length c7)).toArray 51)
        rw [World.size_alloc] at this
        exact this
       ·rw [World.size_alloc, World.size_alloc]
      have HMID := Aside0.mk hmid
      obtain ⟨cc, HS2, HYE, Ay, cy, HMID⟩ : ∃ cc, Aside0 (stepF l s n.toNat = some (putP s x.f0 cc)) ∧ Aside0 (y = clsOf l (x.f0, cc)) ∧ ∃ Ay cy, Aside0 (RMid x A7 c7 wr wz y Ay cy) := ⟨_, HS2, ⟨hye⟩, _, _, ⟨hmid⟩⟩
      clear hmid hye hy hwz
      try go_wp2
      obtain ⟨w0, rfl⟩ : ∃ w0, w0 = wr := ⟨_, rfl⟩
      have HMZ : Aside0 (wz.heap.size = w0.heap.size + 2) := ⟨HMID.out.2.2.1⟩
      go_loopw [11, 10] (fun i o wr => ∃ k : Int, i = .int .i64 k ∧ Aside0 (FR3 xs x.f0 wz k o wr)) (fun i _ _ => (xs.length - (intOf i)).toNat)
      case atStart => exact ⟨0, rfl, ⟨⟨by omega, by omega, Below.refl _ _, Kd.N_nil _ _ _ _ _⟩⟩⟩
      case round =>
       obtain ⟨k, rfl, HR3⟩ := hrel
       have k0 := HR3.out.1
       have k1 := HR3.out.2.1
       have HB3 := Aside0.mk HR3.out.2.2.1
       have hN3 := HR3.out.2.2.2
       generalize hys : List.filter _ (List.take k.toNat xs) = ys at hN3
       have hyl : ys.length ≤ xs.length := by
        rw [← hys]
        exact Nat.le_trans (List.length_filter_le _ _) (by rw [List.length_take]; omega)
       obtain ⟨Ao, co, rfl⟩ := Kd.N_slice hN3
       have HOB := Aside0.mk (Kd.N_base hN3)
       have HO := Aside0.mk hN3
       have HYS := Aside0.mk hys
       have HYL := Aside0.mk hyl
       have HWW : Aside0 (Below w0.heap.size w0 wr) := ⟨HMID.out.below.trans (HB3.out.mono HMID.out.below.size)⟩
       clear hN3 hys hyl
       by_cases hlt3 : k < (xs.length : Int)
       ·have c2b : decide (k < (xs.length : Int)) = true := decide_eq_true hlt3
        have hkl : k.toNat < xs.length := by omega
        obtain ⟨g, cap, he, _, _, _⟩ := Kd.N_form HNN.out (by omega)
        cases he
        obtain ⟨Ak, ck, hk2, _, hkc, hkF, hkK⟩ := cls_elem (Kd.N_below HNN.out HWW.out) k.toNat hkl rfl
        have htf := take_filter (fun y' => !decide (y'.f0.f0.toList = x.f0.toList)) hkl
        generalize xs[k.toNat] = q at hk2 hkc hkF hkK htf
        obtain ⟨q0, q1, q2, q3, q4, q5, q6, q7, q8, q9⟩ := cls_facts hk2
        have m0 := gkeep HB3.out HMID.out.facts.1
        have HTF := Aside0.mk htf
        have HKC := Aside0.mk hkc
        have HKK := Aside0.mk hkK
        clear htf hkc hkK hkF hk2
        by_cases hpe : q.f0.f0.toList = x.f0.toList
        ·have e1 : (q.f0.f0.toList == x.f0.toList) = true := beq_iff_eq.2 hpe
         have HPE := Aside0.mk hpe
         clear hpe
         go_upto_region 22 with (fail)
         go_quiet (fail)
         have hfin : FR3 xs x.f0 wz (k + 1) (.slice Ao ys.length co) (wr.drewN nq) := by
          refine ⟨by omega, by omega, HB3.out.trans (pw_below_drewN (Below.refl _ _) _), ?_⟩
          have e2 := HTF.out
          rw [HYS.out] at e2
          rw [show (k + 1).toNat = k.toNat + 1 from by omega, e2]
          simp only [HPE.out, decide_true, Bool.not_true, Bool.false_eq_true, if_false, List.append_nil]
          exact Kd.N_drewN HO.out _
         have HF := Aside0.mk hfin
         clear hfin
         go_wp2
         go_roundw
         case rel => exact ⟨k + 1, by go_num, HF⟩
         case measure => simp [intOf]; omega
        ·have e1 : (q.f0.f0.toList == x.f0.toList) = false := beq_eq_false_iff_ne.2 hpe
         have HPE := Aside0.mk hpe
         clear hpe
         go_upto_region 22 with (fail)
         go_quiet (fail)
         generalize hw5 : World.drewN wr nq = w5
         have hb5 : Below wr.heap.size wr w5 := by rw [← hw5]; exact pw_below_drewN (Below.refl _ _) _
         have HB5 := Aside0.mk hb5
         have HK5 := Aside0.mk (Kd.FK_below HKK.out hb5)
         have p0 := gkeep hb5 q0
         have p1 := gkeep hb5 q1
         have p2 := gkeep hb5 q2
         have p3 := gkeep hb5 q3
         have p4 := gkeep hb5 q4
         have p5 := gkeep hb5 q5
         have p6 := gkeep hb5 q6
         have p7 := gkeep hb5 q7
         have p8 := gkeep hb5 q8
         have p9 := gkeep hb5 q9
         have HW5 := Aside0.mk hw5
         clear hb5 hw5 q0 q1 q2 q3 q4 q5 q6 q7 q8 q9
         go_wp2_with (at_builtin; refine Kd.N_append k51 (w0 := wz) wz.heap.size rfl (.tmp 92) (.tmp 97) 47 51 (.agg #[.string ⟨#[]⟩, .string ⟨#[]⟩, .string ⟨#[]⟩, .int .u8 0, .int .i64 0, .int .i64 0, .int .i64 0, .int .i64 0, .slice none 0 0, .int .i64 0]) 120 rfl Tryz.underlying47 infoCls rfl (by decide) (by decide) (.slice Ao ys.length co) ys q [.string q.f0.f0, .string q.f0.f1, .string q.f0.f2, .int .u8 q.f0.f3, .int .i64 q.f0.f4.f0, .int .i64 q.f0.f4.f1, .int .i64 q.f0.f4.f2, .int .i64 q.f0.f4.f3, .slice Ak q.f0.f5.length ck, .int .i64 q.f1] (fun _ => True) (fun k' => k' < w0.heap.size ∧ k' ≠ g) rfl rfl HK5.out (fun k' hk => ⟨trivial, fun e => by have h1 := HOB.out k' e.symm; have h2 := HMZ.out; omega⟩) (fun _ _ => trivial) (Kd.N_below HO.out HB5.out) (HB3.out.trans (HB5.out.mono HB3.out.size)) (Nat.le_trans HB3.out.size HB5.out.size) (by have := HYL.out; omega) ?_; intro v6 w6 hN6 hB6 hg6 hat6; have HN6 := Aside0.mk hN6; have HB6 := Aside0.mk hB6; clear hN6 hB6 hg6 hat6)
         have hfin : FR3 xs x.f0 wz (k + 1) v6 w6 := by
          refine ⟨by omega, by omega, HB6.out, ?_⟩
          have e2 := HTF.out
          rw [HYS.out] at e2
          rw [show (k + 1).toNat = k.toNat + 1 from by omega, e2]
          simp only [HPE.out, decide_false, Bool.not_false, if_true]
          exact HN6.out
         have HF := Aside0.mk hfin
         clear hfin HN6 HB6
         go_roundw
         case rel => exact ⟨k + 1, by go_num, HF⟩
         case measure => simp [intOf]; omega
       ·have c2b : decide (k < (xs.length : Int)) = false := decide_eq_false hlt3
        have hfull : ys = xs.filter (fun y' => !decide (y'.f0.f0.toList = x.f0.toList)) := by rw [← HYS.out, List.take_of_length_le (by omega)]
        have hbx := HMID.out.facts.2
        have b0 := gkeep HB3.out (hbx 0 _ rfl)
        have b1 := gkeep HB3.out (hbx 1 _ rfl)
        have b2 := gkeep HB3.out (hbx 2 _ rfl)
        have b3 := gkeep HB3.out (hbx 3 _ rfl)
        have b4 := gkeep HB3.out (hbx 4 _ rfl)
        have b5 := gkeep HB3.out (hbx 5 _ rfl)
        have b6 := gkeep HB3.out (hbx 6 _ rfl)
        have b7 := gkeep HB3.out (hbx 7 _ rfl)
        have b8 := gkeep HB3.out (hbx 8 _ rfl)
        have b9 := gkeep HB3.out (hbx 9 _ rfl)
        have HFULL := Aside0.mk hfull
        have HFK := Aside0.mk (k51_mkF wr _ y HMID.out.2.2.2.1 (Kd.F_below HMID.out.2.2.2.2 HWW.out))
        clear hfull hbx
        go_wp2_with (at_builtin; refine Kd.N_append k51 (w0 := W) W.heap.size rfl (.tmp 99) (.tmp 101) 47 51 (.agg #[.string ⟨#[]⟩, .string ⟨#[]⟩, .string ⟨#[]⟩, .int .u8 0, .int .i64 0, .int .i64 0, .int .i64 0, .int .i64 0, .slice none 0 0, .int .i64 0]) 120 rfl Tryz.underlying47 infoCls rfl (by decide) (by decide) (.slice Ao ys.length co) ys y [.string y.f0.f0, .string y.f0.f1, .string y.f0.f2, .int .u8 y.f0.f3, .int .i64 y.f0.f4.f0, .int .i64 y.f0.f4.f1, .int .i64 y.f0.f4.f2, .int .i64 y.f0.f4.f3, .slice Ay y.f0.f5.length cy, .int .i64 y.f1] (fun _ => True) (fun k' => k' < w0.heap.size) rfl rfl HFK.out (fun k' hk => ⟨trivial, fun e => by have h1 := HOB.out k' e.symm; have h2 := HMZ.out; omega⟩) (fun _ _ => trivial) (Kd.N_lower HO.out (Nat.le_trans HB.out.size HMID.out.below.size)) (HB.out.trans (HWW.out.mono HB.out.size)) (Nat.le_trans HB.out.size HWW.out.size) (by have := HYL.out; omega) ?_; intro v6 w6 hN6 hB6 hg6 hat6; have HN6 := Aside0.mk hN6; have HB6 := Aside0.mk hB6; have HG6 := Aside0.mk hg6; clear hN6 hB6 hg6 hat6)
        have hfin : FR2 l W (n + 1) v6 w6 := by
         refine ⟨by omega, by omega, ⟨putP s x.f0 cc, ?_, ?_, ?_⟩, HB6.out, ?_⟩
         ·rw [show (n + 1).toNat = n.toNat + 1 from by omega, stepsF_succ HS.out]; exact HS2.out
         ·rw [show (n + 1).toNat = n.toNat + 1 from by omega]
          have hlx := (List.getElem?_eq_some_iff.1 HLX.out).2
          exact HI.out.step HNL.out (by rw [hlx]; exact good_path HXG.out) (by rw [hlx]; exact HXZ.out.1) HS2.out
         ·have e3 := HN6.out
          rw [HFULL.out, ← HXS.out, HYE.out, names_next] at e3
          exact e3
         ·refine flt_grown (HFB.out.below HWW.out) HG6.out (fun e => ?_)
          have h1 := HOB.out _ e.symm
          have h2 := HMZ.out
          have h3 := HFB.out.facts.2.2.2.2
          omega
        have HF := Aside0.mk hfin
        clear hfin HN6 HB6 HG6
        go_roundw
        case rel => exact ⟨n + 1, by go_num, HF⟩
        case measure => simp [intOf]; omega
    ·have c1b : decide (n < (l.length : Int)) = false := decide_eq_false hlt
     have hnl : n.toNat = l.length := by omega
     have hs := HS.out
     have hI := HI.out
     rw [hnl] at hs hI
     have hst := foldF_end HOK.out hs
     have hsm := sorted_map (l := l) hI.nodup
     rw [HXS.out] at hsm
     have hz5 : ∀ y ∈ xs, y.f0.f5.length ≤ 140737488351232 := by
      intro y hy
      rw [← HXS.out] at hy
      obtain ⟨q, hq, rfl⟩ := List.mem_map.1 hy
      obtain ⟨m, hlm, _⟩ := (hI.cls q hq).2
      unfold clsOf
      dsimp only
      rw [List.getD_eq_getElem?_getD, hlm]
      exact (HZ.out.2 m (List.mem_of_getElem? hlm)).2.2
     have hSC := Sorted_calls Al cl xs wr (Kd.N_reads' HNN.out).2.2 (by omega) hz5
     have HSC := Aside0.mk hSC
     have HST := Aside0.mk hst
     have HSM := Aside0.mk hsm
     clear hs hI hst hsm hz5 hSC hnl
     go_wp2_with (go_at_call 20; refine HSC.out.mono ?_; rintro e w3 ⟨v, rfl, hN, hb3⟩; obtain ⟨Av, cv, rfl⟩ := Kd.N_slice hN; obtain ⟨g0, g1, g2, g3, g4⟩ := (HFB.out.below hb3).facts; have HN3 := Aside0.mk hN; have HB3 := Aside0.mk hb3; clear hN hb3)
     refine bodyPost_ret (v := .tuple #[.slice Av (sortedF xs).length cv, .agg #[.int .i64 0, .int .i64 0]]) (by simp [results, Tryz.results9, go_sem, g0, g1, g4]) rfl ?_
     rw [← hQ.out]
     refine ⟨_, by rw [HST.out], ?_, ?_⟩
     ·rw [HST.out, ← HSM.out]
      refine Kd.V_mono (ok := fun k => wr.heap.size ≤ k) ?_ (fun k hk => by have := HB.out.size; omega)
      repeat (with_reducible refine Kd.V_far ?_ (fun k hk e => by have e' : k = W.heap.size := e; omega) _)
      exact Kd.N_V HN3.out
     ·repeat (with_reducible refine below_put ?_ _ _ (Nat.le_refl _) _)
      exact HB.out.trans (HB3.out.mono HB.out.size)
end Go.Proofs.YtiijbmaamblidaaGreatDoor

namespace Go.Proofs.YtiijbmaamblidaaGreatDoor.Print
open Go.RowKit Go.Proofs.YtiijbmaamblidaaGreatDoor Go.Proofs.YtiijbmaamblidaaGreatDoorW.PrintWords Go.Proofs.YtiijbmaamblidaaGreatDoorW.PrintLast Go.Proofs.YtiijbmaamblidaaGreatDoorW.PrintMore
set_option linter.unusedVariables false
def bindleref08_Fold.f (l : List S43) : Option (List S49 × Int × Int) := if memsZ l = true then some (foldF l) else none
theorem bindleref08_Fold.calls (A0 : Option Addr) (c0 : Nat) (l0 : List S43) (r1 : List S49) (r2 r3 : Int) (w : World) (hr0 : Kd.C k43 w A0 l0.length l0) (hc0 : l0.length ≤ c0) (h : bindleref08_Fold.f l0 = some (r1, r2, r3)) :
  Calls Tryz.prog 9 #[.slice A0 l0.length c0] w fun e w' => ∃ v0_ : Value, e = .returned (.tuple #[v0_, .agg #[.int .i64 r2, .int .i64 r3]]) ∧ Kd.V k49 49 w' w.heap.size (fun k_ => w.heap.size ≤ k_) v0_ r1 ∧ Below w.heap.size w w' := by
 unfold bindleref08_Fold.f at h
 split at h
 ·rename_i hc
  simp only [Option.some.injEq] at h
  refine (RFold_calls A0 c0 l0 w hr0 ((memsZ_iff l0).1 hc)).mono ?_
  rintro e w' ⟨v, rfl, hV, hB⟩
  rw [h] at hV ⊢
  exact ⟨v, rfl, hV, hB⟩
 ·cases h
end Go.Proofs.YtiijbmaamblidaaGreatDoor.Print

namespace Go.Proofs.YtiijbmaamblidaaGreatDoor.Print
open Go.RowKit Go.Proofs.YtiijbmaamblidaaGreatDoorW.PrintWords Go.Proofs.YtiijbmaamblidaaGreatDoorW.PrintLast Go.Proofs.YtiijbmaamblidaaGreatDoorW.PrintMore
attribute [local go_sem] max2_int min2_int max_two min_two max_three min_three max_four min_four   -- for this text's walks alone
set_option linter.unusedVariables false
set_option linter.unusedSimpArgs false
def bindlelaw18_answers.f  : Option (Bool) := (some (([(⟨(⟨#[97]⟩ : ByteArray), (⟨#[]⟩ : ByteArray), 48, (⟨0, 0, 0, 0⟩ : S40), ([] : List Int)⟩ : S43), (⟨(⟨#[98]⟩ : ByteArray), (⟨#[]⟩ : ByteArray), 48, (⟨0, 0, 0, 0⟩ : S40), ([] : List Int)⟩ : S43), (⟨(⟨#[97]⟩ : ByteArray), (⟨#[]⟩ : ByteArray), 48, (⟨0, 0, 0, 0⟩ : S40), ([] : List Int)⟩ : S43)] : List (S43)) : List (S43))).bind fun y118 => ((flat_Flatten.f y118).bind fun bt121 => ((flat_Flatten.f (([(⟨(⟨#[]⟩ : ByteArray), (⟨#[]⟩ : ByteArray), 0, (⟨0, 0, 0, 0⟩ : S40), ([] : List Int)⟩ : S43)] : List (S43)))).bind fun bt130 => ((flat_Order.f y118).bind fun t136 => (if bt121.2.1 = 0 then (if (bt121.1.length : Int) = 2 then (if 0 < (bt121.1.length : Int) then (if ((rd_T43 bt121.1 0).f0).toList = ([98] : List UInt8) then (if 1 < (bt121.1.length : Int) then (if ((rd_T43 bt121.1 1).f0).toList = ([97] : List UInt8) then (if bt130.2.1 = 1 then (if (t136.length : Int) = 2 then (if 1 < (t136.length : Int) then (some ((rdOf ByteArray.empty t136 1).toList == ([97] : List UInt8))) else (none)) else (some false)) else (some false)) else (some false)) else (none)) else (some false)) else (none)) else (some false)) else (some false)))))
theorem bindlelaw18_answers.val : bindlelaw18_answers.f = some true := by kernel_rfl
set_option maxHeartbeats 8000000 in
set_option maxRecDepth 100000 in
theorem bindlelaw18_answers.calls  (r : Bool) (w : World) (hT : Aside0 (Tabs w)) (h : bindlelaw18_answers.f  = some r) :
  Calls Tryz.prog 7 #[] w fun e w' => e = .returned (.bool r) ∧ Below w.heap.size w w' := by
 have hr_ : r = true := Option.some.inj (h.symm.trans bindlelaw18_answers.val)
 have hu43 := Tryz.underlying43
 have hu27 := Tryz.underlying27
 have HB := A0_ (Below.refl w.heap.size w)
 have H : ((some (([(⟨(⟨#[97]⟩ : ByteArray), (⟨#[]⟩ : ByteArray), 48, (⟨0, 0, 0, 0⟩ : S40), ([] : List Int)⟩ : S43), (⟨(⟨#[98]⟩ : ByteArray), (⟨#[]⟩ : ByteArray), 48, (⟨0, 0, 0, 0⟩ : S40), ([] : List Int)⟩ : S43), (⟨(⟨#[97]⟩ : ByteArray), (⟨#[]⟩ : ByteArray), 48, (⟨0, 0, 0, 0⟩ : S40), ([] : List Int)⟩ : S43)] : List (S43)) : List (S43))).bind fun y118 => ((flat_Flatten.f y118).bind fun bt121 => ((flat_Flatten.f (([(⟨(⟨#[]⟩ : ByteArray), (⟨#[]⟩ : ByteArray), 0, (⟨0, 0, 0, 0⟩ : S40), ([] : List Int)⟩ : S43)] : List (S43)))).bind fun bt130 => ((flat_Order.f y118).bind fun t136 => (if bt121.2.1 = 0 then (if (bt121.1.length : Int) = 2 then (if 0 < (bt121.1.length : Int) then (if ((rd_T43 bt121.1 0).f0).toList = ([98] : List UInt8) then (if 1 < (bt121.1.length : Int) then (if ((rd_T43 bt121.1 1).f0).toList = ([97] : List UInt8) then (if bt130.2.1 = 1 then (if (t136.length : Int) = 2 then (if 1 < (t136.length : Int) then (some ((rdOf ByteArray.empty t136 1).toList == ([97] : List UInt8))) else (none)) else (some false)) else (some false)) else (some false)) else (none)) else (some false)) else (none)) else (some false)) else (some false)))))) = some r := h
 clear h
 obtain ⟨y118, hy118⟩ : ∃ y_ : List (S43), y_ = (([(⟨(⟨#[97]⟩ : ByteArray), (⟨#[]⟩ : ByteArray), 48, (⟨0, 0, 0, 0⟩ : S40), ([] : List Int)⟩ : S43), (⟨(⟨#[98]⟩ : ByteArray), (⟨#[]⟩ : ByteArray), 48, (⟨0, 0, 0, 0⟩ : S40), ([] : List Int)⟩ : S43), (⟨(⟨#[97]⟩ : ByteArray), (⟨#[]⟩ : ByteArray), 48, (⟨0, 0, 0, 0⟩ : S40), ([] : List Int)⟩ : S43)] : List (S43))) := ⟨_, rfl⟩
 replace H : ((flat_Flatten.f y118).bind fun bt121 => ((flat_Flatten.f (([(⟨(⟨#[]⟩ : ByteArray), (⟨#[]⟩ : ByteArray), 0, (⟨0, 0, 0, 0⟩ : S40), ([] : List Int)⟩ : S43)] : List (S43)))).bind fun bt130 => ((flat_Order.f y118).bind fun t136 => (if bt121.2.1 = 0 then (if (bt121.1.length : Int) = 2 then (if 0 < (bt121.1.length : Int) then (if ((rd_T43 bt121.1 0).f0).toList = ([98] : List UInt8) then (if 1 < (bt121.1.length : Int) then (if ((rd_T43 bt121.1 1).f0).toList = ([97] : List UInt8) then (if bt130.2.1 = 1 then (if (t136.length : Int) = 2 then (if 1 < (t136.length : Int) then (some ((rdOf ByteArray.empty t136 1).toList == ([97] : List UInt8))) else (none)) else (some false)) else (some false)) else (some false)) else (none)) else (some false)) else (none)) else (some false)) else (some false))))) = some r := by first | (rw [hy118]; with_reducible exact H) | (have H2_ := (Option.bind_some _ _).symm.trans H; rw [hy118]; with_reducible exact H2_) | (have H2_ := (Option.bind_some _ _).symm.trans H; with_reducible exact H2_) | with_reducible exact H | (rw [hy118]; exact H) | exact H
 have Ny118 := A0_ hy118
 clear hy118
 replace H := Option.bind_eq_some_iff.mp H
 obtain ⟨⟨t121, t124, t125⟩, A10, H⟩ := H
 replace H : ((flat_Flatten.f (([(⟨(⟨#[]⟩ : ByteArray), (⟨#[]⟩ : ByteArray), 0, (⟨0, 0, 0, 0⟩ : S40), ([] : List Int)⟩ : S43)] : List (S43)))).bind fun bt130 => ((flat_Order.f y118).bind fun t136 => (if t124 = 0 then (if (t121.length : Int) = 2 then (if 0 < (t121.length : Int) then (if ((rd_T43 t121 0).f0).toList = ([98] : List UInt8) then (if 1 < (t121.length : Int) then (if ((rd_T43 t121 1).f0).toList = ([97] : List UInt8) then (if bt130.2.1 = 1 then (if (t136.length : Int) = 2 then (if 1 < (t136.length : Int) then (some ((rdOf ByteArray.empty t136 1).toList == ([97] : List UInt8))) else (none)) else (some false)) else (some false)) else (some false)) else (none)) else (some false)) else (none)) else (some false)) else (some false)))) = some r := H
 have A1 := A0_ A10
 clear A10
 obtain ⟨y127, hy127⟩ : ∃ y_ : List (S43), y_ = (([(⟨(⟨#[]⟩ : ByteArray), (⟨#[]⟩ : ByteArray), 0, (⟨0, 0, 0, 0⟩ : S40), ([] : List Int)⟩ : S43)] : List (S43))) := ⟨_, rfl⟩
 replace H : ((flat_Flatten.f y127).bind fun bt130 => ((flat_Order.f y118).bind fun t136 => (if t124 = 0 then (if (t121.length : Int) = 2 then (if 0 < (t121.length : Int) then (if ((rd_T43 t121 0).f0).toList = ([98] : List UInt8) then (if 1 < (t121.length : Int) then (if ((rd_T43 t121 1).f0).toList = ([97] : List UInt8) then (if bt130.2.1 = 1 then (if (t136.length : Int) = 2 then (if 1 < (t136.length : Int) then (some ((rdOf ByteArray.empty t136 1).toList == ([97] : List UInt8))) else (none)) else (some false)) else (some false)) else (some false)) else (none)) else (some false)) else (none)) else (some false)) else (some false)))) = some r := by first | (rw [hy127]; with_reducible exact H) | (have H2_ := (Option.bind_some _ _).symm.trans H; rw [hy127]; with_reducible exact H2_) | (have H2_ := (Option.bind_some _ _).symm.trans H; with_reducible exact H2_) | with_reducible exact H | (rw [hy127]; exact H) | exact H
 have Ny127 := A0_ hy127
 clear hy127
 replace H := Option.bind_eq_some_iff.mp H
 obtain ⟨⟨t130, t133, t134⟩, A20, H⟩ := H
 replace H : ((flat_Order.f y118).bind fun t136 => (if t124 = 0 then (if (t121.length : Int) = 2 then (if 0 < (t121.length : Int) then (if ((rd_T43 t121 0).f0).toList = ([98] : List UInt8) then (if 1 < (t121.length : Int) then (if ((rd_T43 t121 1).f0).toList = ([97] : List UInt8) then (if t133 = 1 then (if (t136.length : Int) = 2 then (if 1 < (t136.length : Int) then (some ((rdOf ByteArray.empty t136 1).toList == ([97] : List UInt8))) else (none)) else (some false)) else (some false)) else (some false)) else (none)) else (some false)) else (none)) else (some false)) else (some false))) = some r := H
 have A2 := A0_ A20
 clear A20
 replace H := Option.bind_eq_some_iff.mp H
 obtain ⟨t136, A30, H⟩ := H
 replace H : (if t124 = 0 then (if (t121.length : Int) = 2 then (if 0 < (t121.length : Int) then (if ((rd_T43 t121 0).f0).toList = ([98] : List UInt8) then (if 1 < (t121.length : Int) then (if ((rd_T43 t121 1).f0).toList = ([97] : List UInt8) then (if t133 = 1 then (if (t136.length : Int) = 2 then (if 1 < (t136.length : Int) then (some ((rdOf ByteArray.empty t136 1).toList == ([97] : List UInt8))) else (none)) else (some false)) else (some false)) else (some false)) else (none)) else (some false)) else (none)) else (some false)) else (some false)) = some r := H
 have A3 := A0_ A30
 clear A30
 by_cases c4 : t124 = 0
 rotate_left
 ·rw [if_neg c4] at H
  have c4b0 : (t124 == 0) = false := beq_eq_false_iff_ne.mpr c4
  have c4b1 : (t124 != 0) = true := bne_iff_ne.mpr c4
  exact absurd ((Option.some.inj H).trans hr_) (by decide)
 rw [if_pos c4] at H
 have c4b0 : (t124 == 0) = true := beq_iff_eq.mpr c4
 have c4b1 : (t124 != 0) = false := bne_eq_false_iff_eq.mpr c4
 clear c4
 by_cases c5 : (t121.length : Int) = 2
 rotate_left
 ·rw [if_neg c5] at H
  have c5b0 : ((t121.length : Int) == 2) = false := beq_eq_false_iff_ne.mpr c5
  have c5b1 : ((t121.length : Int) != 2) = true := bne_iff_ne.mpr c5
  exact absurd ((Option.some.inj H).trans hr_) (by decide)
 rw [if_pos c5] at H
 have c5b0 : ((t121.length : Int) == 2) = true := beq_iff_eq.mpr c5
 have c5b1 : ((t121.length : Int) != 2) = false := bne_eq_false_iff_eq.mpr c5
 clear c5
 by_cases c6 : 0 < (t121.length : Int)
 rotate_left
 ·rw [if_neg c6] at H
  exact absurd H (by simp)
 rw [if_pos c6] at H
 have c6b0 : decide (0 < (t121.length : Int)) = true := decide_eq_true c6
 have c6b1 : decide (0 < t121.length) = true := decide_eq_true (by omega)
 clear c6
 by_cases c7 : ((rd_T43 t121 0).f0).toList = ([98] : List UInt8)
 rotate_left
 ·rw [if_neg c7] at H
  have c7b0 : (((rd_T43 t121 0).f0).toList == ([98] : List UInt8)) = false := beq_eq_false_iff_ne.mpr c7
  have c7b1 : (((rd_T43 t121 0).f0).toList != ([98] : List UInt8)) = true := bne_iff_ne.mpr c7
  exact absurd ((Option.some.inj H).trans hr_) (by decide)
 rw [if_pos c7] at H
 have c7b0 : (((rd_T43 t121 0).f0).toList == ([98] : List UInt8)) = true := beq_iff_eq.mpr c7
 have c7b1 : (((rd_T43 t121 0).f0).toList != ([98] : List UInt8)) = false := bne_eq_false_iff_eq.mpr c7
 clear c7
 by_cases c8 : 1 < (t121.length : Int)
 rotate_left
 ·rw [if_neg c8] at H
  exact absurd H (by simp)
 rw [if_pos c8] at H
 have c8b0 : decide (1 < (t121.length : Int)) = true := decide_eq_true c8
 have c8b1 : decide (1 < t121.length) = true := decide_eq_true (by omega)
 clear c8
 by_cases c9 : ((rd_T43 t121 1).f0).toList = ([97] : List UInt8)
 rotate_left
 ·rw [if_neg c9] at H
  have c9b0 : (((rd_T43 t121 1).f0).toList == ([97] : List UInt8)) = false := beq_eq_false_iff_ne.mpr c9
  have c9b1 : (((rd_T43 t121 1).f0).toList != ([97] : List UInt8)) = true := bne_iff_ne.mpr c9
  exact absurd ((Option.some.inj H).trans hr_) (by decide)
 rw [if_pos c9] at H
 have c9b0 : (((rd_T43 t121 1).f0).toList == ([97] : List UInt8)) = true := beq_iff_eq.mpr c9
 have c9b1 : (((rd_T43 t121 1).f0).toList != ([97] : List UInt8)) = false := bne_eq_false_iff_eq.mpr c9
 clear c9
 by_cases c10 : t133 = 1
 rotate_left
 ·rw [if_neg c10] at H
  have c10b0 : (t133 == 1) = false := beq_eq_false_iff_ne.mpr c10
  have c10b1 : (t133 != 1) = true := bne_iff_ne.mpr c10
  exact absurd ((Option.some.inj H).trans hr_) (by decide)
 rw [if_pos c10] at H
 have c10b0 : (t133 == 1) = true := beq_iff_eq.mpr c10
 have c10b1 : (t133 != 1) = false := bne_eq_false_iff_eq.mpr c10
 clear c10
 by_cases c11 : (t136.length : Int) = 2
 rotate_left
 ·rw [if_neg c11] at H
  have c11b0 : ((t136.length : Int) == 2) = false := beq_eq_false_iff_ne.mpr c11
  have c11b1 : ((t136.length : Int) != 2) = true := bne_iff_ne.mpr c11
  exact absurd ((Option.some.inj H).trans hr_) (by decide)
 rw [if_pos c11] at H
 have c11b0 : ((t136.length : Int) == 2) = true := beq_iff_eq.mpr c11
 have c11b1 : ((t136.length : Int) != 2) = false := bne_eq_false_iff_eq.mpr c11
 clear c11
 by_cases c12 : 1 < (t136.length : Int)
 rotate_left
 ·rw [if_neg c12] at H
  exact absurd H (by simp)
 rw [if_pos c12] at H
 have c12b0 : decide (1 < (t136.length : Int)) = true := decide_eq_true c12
 have c12b1 : decide (1 < t136.length) = true := decide_eq_true (by omega)
 clear c12
 clear hr_
 obtain rfl := Option.some.inj H
 go_enter Tryz.func7, Tryz.ntmps7
 go_wp2_with (first | ((with_reducible refine gate_dst (N := 10) rfl ?_); (try (refine gate_guard (by rfl) ?_; dsimp only)); refine Kd.S_lit k43 _ 43 ?hg (N := 10) ?hd (xs := ([(⟨(⟨#[97]⟩ : ByteArray), (⟨#[]⟩ : ByteArray), 48, (⟨0, 0, 0, 0⟩ : S40), ([] : List Int)⟩ : S43), (⟨(⟨#[98]⟩ : ByteArray), (⟨#[]⟩ : ByteArray), 48, (⟨0, 0, 0, 0⟩ : S40), ([] : List Int)⟩ : S43), (⟨(⟨#[97]⟩ : ByteArray), (⟨#[]⟩ : ByteArray), 48, (⟨0, 0, 0, 0⟩ : S40), ([] : List Int)⟩ : S43)] : List (S43))) (inner := [.string (⟨#[97]⟩ : ByteArray), .string (⟨#[]⟩ : ByteArray), .int .u8 48, .int .i64 0, .int .i64 0, .int .i64 0, .int .i64 0, .slice none 0 0, .string (⟨#[98]⟩ : ByteArray), .string (⟨#[]⟩ : ByteArray), .int .u8 48, .int .i64 0, .int .i64 0, .int .i64 0, .int .i64 0, .slice none 0 0, .string (⟨#[97]⟩ : ByteArray), .string (⟨#[]⟩ : ByteArray), .int .u8 48, .int .i64 0, .int .i64 0, .int .i64 0, .int .i64 0, .slice none 0 0]) (ok := fun _ => True) (okp := fun _ => True) ?hr ?hp (fun _ hk => hk) trivial (Below.refl _ _) (Nat.le_refl _) (by simp) ?_; (case hd => rfl); (case hg => rfl); (case hr => first | (go_simp; done) | (go_simp; rfl)); (case hp => exact (Reps.c8 (show Kd.M k43 _ _ _ (⟨(⟨#[97]⟩ : ByteArray), (⟨#[]⟩ : ByteArray), 48, (⟨0, 0, 0, 0⟩ : S40), ([] : List Int)⟩ : S43) [.string (⟨#[97]⟩ : ByteArray), .string (⟨#[]⟩ : ByteArray), .int .u8 48, .int .i64 0, .int .i64 0, .int .i64 0, .int .i64 0, .slice none 0 0] from (k43_mkM _ _ _ (⟨(⟨#[97]⟩ : ByteArray), (⟨#[]⟩ : ByteArray), 48, (⟨0, 0, 0, 0⟩ : S40), ([] : List Int)⟩ : S43) (Kd.R_nil _ _ _ _ _))) (Reps.c8 (show Kd.M k43 _ _ _ (⟨(⟨#[98]⟩ : ByteArray), (⟨#[]⟩ : ByteArray), 48, (⟨0, 0, 0, 0⟩ : S40), ([] : List Int)⟩ : S43) [.string (⟨#[98]⟩ : ByteArray), .string (⟨#[]⟩ : ByteArray), .int .u8 48, .int .i64 0, .int .i64 0, .int .i64 0, .int .i64 0, .slice none 0 0] from (k43_mkM _ _ _ (⟨(⟨#[98]⟩ : ByteArray), (⟨#[]⟩ : ByteArray), 48, (⟨0, 0, 0, 0⟩ : S40), ([] : List Int)⟩ : S43) (Kd.R_nil _ _ _ _ _))) (Reps.c8 (show Kd.M k43 _ _ _ (⟨(⟨#[97]⟩ : ByteArray), (⟨#[]⟩ : ByteArray), 48, (⟨0, 0, 0, 0⟩ : S40), ([] : List Int)⟩ : S43) [.string (⟨#[97]⟩ : ByteArray), .string (⟨#[]⟩ : ByteArray), .int .u8 48, .int .i64 0, .int .i64 0, .int .i64 0, .int .i64 0, .slice none 0 0] from (k43_mkM _ _ _ (⟨(⟨#[97]⟩ : ByteArray), (⟨#[]⟩ : ByteArray), 48, (⟨0, 0, 0, 0⟩ : S40), ([] : List Int)⟩ : S43) (Kd.R_nil _ _ _ _ _))) (Reps.none _ _))))); intro v119 w13 ho14 hb hg_ hnew_; clear hg_ hnew_; (first | rw [← Ny118.out] at ho14 | (simp only [Int.reduceToNat] at ho14; rw [← Ny118.out] at ho14)); have n0_ := A0_ (Kd.S_lower ho14 (below_size (wb_ HB.out))); have n1_ := A0_ (below_step (wb_ HB.out) hb); clear HB; have HO120 := n0_; have HB := n1_; clear n0_ n1_; clear hb ho14; obtain ⟨Ao15, co15, eo15⟩ := Kd.S_slice HO120.out; subst eo15) | ((with_reducible refine gate_callee (f := 8) rfl ?_); refine goesL_ (some 13) rfl rfl Tryz.func8 (by kernel_rfl) rfl #[.slice Ao15 y118.length co15] rfl wm_ ?_; (with_reducible refine (flat_Flatten.calls _ _ y118 t121 t124 t125 _ ?side1 ?side2 ?side3 A1.out).mono ?_); (case side1 => exact A0_ (Tabs.below hT.out (wb_ HB.out))); (case side2 => exact wc_ (Kd.S_reads' HO120.out).2.2); (case side3 => exact (Kd.S_reads' HO120.out).2.1); rintro e w16 ⟨v122, rfl, ho0, hb⟩; refine ⟨_, rfl, ?_⟩; have n0_ := A0_ (Sb_ (wS_ HO120.out) hb); have n1_ := A0_ (Kd.V_lower (Kd.V_mono (ok' := fun k_ => some k_ ≠ (.slice Ao15 y118.length co15 : Value).ownBlock) ho0 (fun k_ hk_ => (Kd.fresh' (Kd.S_lt (wS_ HO120.out)) k_ hk_))) (below_size (wb_ HB.out))); have n2_ := A0_ (below_step (wb_ HB.out) hb); clear HO120; clear HB; have HO120 := n0_; have HO123 := n1_; have HB := n2_; clear n0_ n1_ n2_; (try clear hb); (try clear hb2); (try clear hk); (try clear hi); (try clear ho0)) | ((with_reducible refine gate_dst (N := 3) rfl ?_); (try (refine gate_guard (by rfl) ?_; dsimp only)); refine box_event ?hg (N := 3) ?hd (cs := #[.int .i64 0, .int .i64 0]) (t := 27) ?hr ?_; (case hd => rfl); (case hg => rfl); (case hr => first | (go_simp; done) | (go_simp; rfl)); intro gb126 hg w17 hbox hb; have n0_ := A0_ (Sb_ (wS_ HO120.out) hb); have n1_ := A0_ (Vb_ (Kd.V_elderB (wV_ HO123.out) gb126 (Nat.le_of_eq hg.symm)) hb); have n2_ := A0_ (below_step (wb_ HB.out) hb); have n3_ := A0_ (hbox); have n4_ := A0_ ((by rw [hg]; exact (below_size (wb_ HB.out)) : w.heap.size ≤ gb126)); have n5_ := A0_ ((by rw [hg]; exact (below_size (wb_ HB.out)) : w.heap.size ≤ gb126)); clear HO120; clear HO123; clear HB; have HO120 := n0_; have HO123 := n1_; have HB := n2_; have BK126 := n3_; have GW126 := n4_; have GE126 := n5_; clear n0_ n1_ n2_ n3_ n4_ n5_; clear hb hbox hg; have hcz18_0 : w17.cell? ⟨gb126, 0, none⟩ = some (.int .i64 0) := (bc_ BK126.out 0).trans rfl; have hcz18_1 : w17.cell? ⟨gb126, 1, none⟩ = some (.int .i64 0) := (bc_ BK126.out 1).trans rfl; have hfz18_0 := bf_ BK126.out 0; have hfz18_1 := bf_ BK126.out 1) | ((with_reducible refine gate_store (t := 27) (p := 3) rfl ?_); refine store_event (t := 27) (p := 3) (v := ?vo_w19) (w1 := ((w17.setCell ⟨gb126, 0, none⟩ (.int .i64 t124)).setCell ⟨gb126, 1, none⟩ (.int .i64 t125))) ?hg ?ho ?hn ?hr ?_; (case ho => rfl); (case hg => rfl); (case hn => rfl); (case hr => first | (go_simp; done) | (go_simp; rfl)); intro w19 hw; have n0_ : Aside0 (Kd.S k43 43 w19 w.heap.size (fun _ => True) (.slice Ao15 y118.length co15) y118) := ⟨(by rw [hw]; exact (by (with_reducible repeat (first | apply Sa_ | apply SN_ | apply S1_)); exact Kd.S_mono (Kd.S_far (p := ⟨gb126, 1, none⟩) (Kd.S_far (p := ⟨gb126, 0, none⟩) (Kd.S_types HO120.out BK126.out (by decide)) (fun _ hk => hk.2) (.int .i64 t124)) (fun _ hk => hk.2) (.int .i64 t125)) (fun _ hk => trivial)))⟩; have n1_ : Aside0 (Kd.V k43 43 w19 w.heap.size (fun k_ => some k_ ≠ (.slice Ao15 y118.length co15 : Value).ownBlock ∧ k_ ≠ gb126) v122 t121) := ⟨(by rw [hw]; exact (by (with_reducible repeat (first | apply Va_ | apply VN_ | apply V1_)); exact Kd.V_mono (Kd.V_far (p := ⟨gb126, 1, none⟩) (Kd.V_far (p := ⟨gb126, 0, none⟩) (Kd.V_mono HO123.out (fun k_ hk => (⟨hk, hk.2⟩ : _ ∧ k_ ≠ gb126))) (fun _ hk => hk.2) (.int .i64 t124)) (fun _ hk => hk.2) (.int .i64 t125)) (fun _ hk => ⟨hk.1.1, hk.1.2⟩)))⟩; have n2_ : Aside0 (w19.heap[gb126]? = some (.cells #[.int .i64 t124, .int .i64 t125] 27 (0, 0))) := ⟨(by rw [hw]; exact (by (with_reducible repeat (first | refine blk_drewN ?_ _ | refine blk_drew ?_ | refine blk_alloc ?_ _)); refine blk_put (cs := #[.int .i64 t124, .int .i64 0]) ?_ 1 _ rfl; (with_reducible repeat (first | refine blk_drewN ?_ _ | refine blk_drew ?_ | refine blk_alloc ?_ _)); refine blk_put (cs := #[.int .i64 0, .int .i64 0]) ?_ 0 _ rfl; (with_reducible repeat (first | refine blk_drewN ?_ _ | refine blk_drew ?_ | refine blk_alloc ?_ _)); exact BK126.out))⟩; have n3_ : Aside0 (Below w.heap.size w w19) := ⟨(by rw [hw]; exact (wb1_ HB.out GE126.out))⟩; clear hw; clear HO120; clear HO123; clear BK126; clear HB; have HO120 := n0_; have HO123 := n1_; have BK126 := n2_; have HB := n3_; clear n0_ n1_ n2_ n3_) | ((with_reducible refine gate_dst (N := 18) rfl ?_); (try (refine gate_guard (by rfl) ?_; dsimp only)); refine Kd.S_lit k43 _ 43 ?hg (N := 18) ?hd (xs := ([(⟨(⟨#[]⟩ : ByteArray), (⟨#[]⟩ : ByteArray), 0, (⟨0, 0, 0, 0⟩ : S40), ([] : List Int)⟩ : S43)] : List (S43))) (inner := [.string (⟨#[]⟩ : ByteArray), .string (⟨#[]⟩ : ByteArray), .int .u8 0, .int .i64 0, .int .i64 0, .int .i64 0, .int .i64 0, .slice none 0 0]) (ok := fun _ => True) (okp := fun _ => True) ?hr ?hp (fun _ hk => hk) trivial (Below.refl _ _) (Nat.le_refl _) (by simp) ?_; (case hd => rfl); (case hg => rfl); (case hr => first | (go_simp; done) | (go_simp; rfl)); (case hp => exact (Reps.c8 (show Kd.M k43 _ _ _ (⟨(⟨#[]⟩ : ByteArray), (⟨#[]⟩ : ByteArray), 0, (⟨0, 0, 0, 0⟩ : S40), ([] : List Int)⟩ : S43) [.string (⟨#[]⟩ : ByteArray), .string (⟨#[]⟩ : ByteArray), .int .u8 0, .int .i64 0, .int .i64 0, .int .i64 0, .int .i64 0, .slice none 0 0] from (k43_mkM _ _ _ (⟨(⟨#[]⟩ : ByteArray), (⟨#[]⟩ : ByteArray), 0, (⟨0, 0, 0, 0⟩ : S40), ([] : List Int)⟩ : S43) (Kd.R_nil _ _ _ _ _))) (Reps.none _ _))); intro v128 w20 ho21 hb hg_ hnew_; clear hg_ hnew_; (first | rw [← Ny127.out] at ho21 | (simp only [Int.reduceToNat] at ho21; rw [← Ny127.out] at ho21)); have n0_ := A0_ (Kd.S_elder' (wS_ HO120.out) (Kd.S_base ho21) hb); have n1_ := A0_ (Kd.V_elder' (wV_ HO123.out) (Kd.S_base ho21) hb); have n2_ := A0_ (Kd.S_lower (Kd.S_new' ho21 (Kd.S_lt (wS_ HO120.out))) (below_size (wb1_ HB.out GE126.out))); have n3_ := A0_ (blk_below (g := gb126) (o := .cells #[.int .i64 t124, .int .i64 t125] 27 (0, 0)) (wB_ BK126.out) hb); have n4_ := A0_ (below_step (wb1_ HB.out GE126.out) hb); clear HO120; clear HO123; clear BK126; clear HB; have HO120 := n0_; have HO123 := n1_; have HO129 := n2_; have BK126 := n3_; have HB := n4_; clear n0_ n1_ n2_ n3_ n4_; clear hb ho21; obtain ⟨Ao22, co22, eo22⟩ := Kd.S_slice HO129.out; subst eo22) | ((with_reducible refine gate_callee (f := 8) rfl ?_); refine goesL_ (some 19) rfl rfl Tryz.func8 (by kernel_rfl) rfl #[.slice Ao22 y127.length co22] rfl wm_ ?_; (with_reducible refine (flat_Flatten.calls _ _ y127 t130 t133 t134 _ ?side1 ?side2 ?side3 A2.out).mono ?_); (case side1 => exact A0_ (Tabs.below hT.out (wb1_ HB.out GE126.out))); (case side2 => exact wc_ (Kd.S_reads' HO129.out).2.2); (case side3 => exact (Kd.S_reads' HO129.out).2.1); rintro e w23 ⟨v131, rfl, ho0, hb⟩; refine ⟨_, rfl, ?_⟩; have n0_ := A0_ (Sb_ (wS_ HO120.out) hb); have n1_ := A0_ (Vb_ (wV_ HO123.out) hb); have n2_ := A0_ (Sb_ (wS_ HO129.out) hb); have n3_ := A0_ (Kd.V_lower (Kd.V_mono (ok' := fun k_ => some k_ ≠ (.slice Ao15 y118.length co15 : Value).ownBlock ∧ some k_ ≠ (.slice Ao22 y127.length co22 : Value).ownBlock ∧ k_ ≠ gb126) ho0 (fun k_ hk_ => ⟨(Kd.fresh' (Kd.S_lt (wS_ HO120.out)) k_ hk_), (Kd.fresh' (Kd.S_lt (wS_ HO129.out)) k_ hk_), (Kd.freshB (g := gb126) (o := .cells #[.int .i64 t124, .int .i64 t125] 27 (0, 0)) (wB_ BK126.out) k_ hk_)⟩)) (below_size (wb1_ HB.out GE126.out))); have n4_ := A0_ (blk_below (g := gb126) (o := .cells #[.int .i64 t124, .int .i64 t125] 27 (0, 0)) (wB_ BK126.out) hb); have n5_ := A0_ (below_step (wb1_ HB.out GE126.out) hb); clear HO120; clear HO123; clear HO129; clear BK126; clear HB; have HO120 := n0_; have HO123 := n1_; have HO129 := n2_; have HO132 := n3_; have BK126 := n4_; have HB := n5_; clear n0_ n1_ n2_ n3_ n4_ n5_; (try clear hb); (try clear hb2); (try clear hk); (try clear hi); (try clear ho0)) | ((with_reducible refine gate_dst (N := 5) rfl ?_); (try (refine gate_guard (by rfl) ?_; dsimp only)); refine box_event ?hg (N := 5) ?hd (cs := #[.int .i64 0, .int .i64 0]) (t := 27) ?hr ?_; (case hd => rfl); (case hg => rfl); (case hr => first | (go_simp; done) | (go_simp; rfl)); intro gb135 hg w24 hbox hb; have n0_ := A0_ (Sb_ (wS_ HO120.out) hb); have n1_ := A0_ (Vb_ (Kd.V_elderB (wV_ HO123.out) gb135 (Nat.le_of_eq hg.symm)) hb); have n2_ := A0_ (Sb_ (wS_ HO129.out) hb); have n3_ := A0_ (Vb_ (Kd.V_elderB (wV_ HO132.out) gb135 (Nat.le_of_eq hg.symm)) hb); have n4_ := A0_ (blk_below (g := gb126) (o := .cells #[.int .i64 t124, .int .i64 t125] 27 (0, 0)) (wB_ BK126.out) hb); have n5_ := A0_ (below_step (wb1_ HB.out GE126.out) hb); have n6_ := A0_ (hbox); have n7_ := A0_ ((by rw [hg]; exact (below_size (wb1_ HB.out GE126.out)) : w.heap.size ≤ gb135)); have n8_ := A0_ ((by rw [hg]; exact (below_size (wb1_ HB.out GE126.out)) : w.heap.size ≤ gb135)); have n9_ := A0_ ((by rw [hg]; exact Nat.ne_of_lt (blk_lt (g := gb126) (o := .cells #[.int .i64 t124, .int .i64 t125] 27 (0, 0)) (wB_ BK126.out)) : gb126 ≠ gb135)); have n10_ := A0_ ((by rw [hg]; exact Nat.ne_of_gt (blk_lt (g := gb126) (o := .cells #[.int .i64 t124, .int .i64 t125] 27 (0, 0)) (wB_ BK126.out)) : gb135 ≠ gb126)); clear HO120; clear HO123; clear HO129; clear HO132; clear BK126; clear HB; have HO120 := n0_; have HO123 := n1_; have HO129 := n2_; have HO132 := n3_; have BK126 := n4_; have HB := n5_; have BK135 := n6_; have GW135 := n7_; have GE135 := n8_; have NB126_135 := n9_; have NB135_126 := n10_; clear n0_ n1_ n2_ n3_ n4_ n5_ n6_ n7_ n8_ n9_ n10_; clear hb hbox hg; have hnb25 := NB135_126.out; have hnc25 := NB126_135.out; have hcz26_0 : w24.cell? ⟨gb135, 0, none⟩ = some (.int .i64 0) := (bc_ BK135.out 0).trans rfl; have hcz26_1 : w24.cell? ⟨gb135, 1, none⟩ = some (.int .i64 0) := (bc_ BK135.out 1).trans rfl; have hfz26_0 := bf_ BK135.out 0; have hfz26_1 := bf_ BK135.out 1) | ((with_reducible refine gate_callee (f := 15) rfl ?_); refine goesL_ (some 23) rfl rfl Tryz.func15 (by kernel_rfl) rfl #[.slice Ao15 y118.length co15] rfl wm_ ?_; (with_reducible refine (flat_Order.calls _ _ y118 t136 _ ?side1 ?side2 A3.out).mono ?_); (case side1 => refine (Kd.S_reads' (e := 43) (base := w.heap.size) (ok := fun k_ => (True ∧ some k_ ≠ (.slice Ao22 y127.length co22 : Value).ownBlock)) (n := y118.length) (c := co15) ?_).2.2; exact (by (with_reducible repeat (first | apply Sa_ | apply SN_ | apply S1_)); exact (Kd.S_mono (Kd.S_far (p := ⟨gb135, 1, none⟩) (Kd.S_far (p := ⟨gb135, 0, none⟩) (Kd.S_types HO120.out BK135.out (by decide)) (fun _ hk => hk.2) (.int .i64 t133)) (fun _ hk => hk.2) (.int .i64 t134)) (fun _ h_ => h_.1)))); (case side2 => exact (Kd.S_reads' HO120.out).2.1); rintro e w27 ⟨v137, rfl, ho0, hb⟩; refine ⟨_, rfl, ?_⟩; have n0_ := A0_ (Sb_ (by (with_reducible repeat (first | apply Sa_ | apply SN_ | apply S1_)); exact (Kd.S_mono (Kd.S_far (p := ⟨gb135, 1, none⟩) (Kd.S_far (p := ⟨gb135, 0, none⟩) (Kd.S_types HO120.out BK135.out (by decide)) (fun _ hk => hk.2) (.int .i64 t133)) (fun _ hk => hk.2) (.int .i64 t134)) (fun _ h_ => h_.1))) hb); have n1_ := A0_ (Kd.V_elder' (by (with_reducible repeat (first | apply Va_ | apply VN_ | apply V1_)); exact (Kd.V_mono (Kd.V_far (p := ⟨gb135, 1, none⟩) (Kd.V_far (p := ⟨gb135, 0, none⟩) (Kd.V_mono HO123.out (fun k_ hk => (⟨hk, hk.2⟩ : _ ∧ k_ ≠ gb135))) (fun _ hk => hk.2) (.int .i64 t133)) (fun _ hk => hk.2) (.int .i64 t134)) (fun _ h_ => h_.1))) (Kd.R_base ho0) hb); have n2_ := A0_ (Sb_ (by (with_reducible repeat (first | apply Sa_ | apply SN_ | apply S1_)); exact (Kd.S_mono (Kd.S_far (p := ⟨gb135, 1, none⟩) (Kd.S_far (p := ⟨gb135, 0, none⟩) (Kd.S_types HO129.out BK135.out (by decide)) (fun _ hk => hk.2) (.int .i64 t133)) (fun _ hk => hk.2) (.int .i64 t134)) (fun _ h_ => h_.1))) hb); have n3_ := A0_ (Kd.V_elder' (by (with_reducible repeat (first | apply Va_ | apply VN_ | apply V1_)); exact (Kd.V_mono (Kd.V_far (p := ⟨gb135, 1, none⟩) (Kd.V_far (p := ⟨gb135, 0, none⟩) (Kd.V_mono HO132.out (fun k_ hk => (⟨hk, hk.2⟩ : _ ∧ k_ ≠ gb135))) (fun _ hk => hk.2) (.int .i64 t133)) (fun _ hk => hk.2) (.int .i64 t134)) (fun _ h_ => h_.1))) (Kd.R_base ho0) hb); have n4_ := A0_ (Kd.R_lower ho0 (below_size (wb2_ HB.out GE126.out GE135.out))); have n5_ := A0_ (blk_below (g := gb126) (o := .cells #[.int .i64 t124, .int .i64 t125] 27 (0, 0)) (by (with_reducible repeat (first | refine blk_drewN ?_ _ | refine blk_drew ?_ | refine blk_alloc ?_ _)); refine blk_far ?_ NB126_135.out _; (with_reducible repeat (first | refine blk_drewN ?_ _ | refine blk_drew ?_ | refine blk_alloc ?_ _)); refine blk_far ?_ NB126_135.out _; (with_reducible repeat (first | refine blk_drewN ?_ _ | refine blk_drew ?_ | refine blk_alloc ?_ _)); exact BK126.out) hb); have n6_ := A0_ (blk_below (g := gb135) (o := .cells #[.int .i64 t133, .int .i64 t134] 27 (0, 0)) (by (with_reducible repeat (first | refine blk_drewN ?_ _ | refine blk_drew ?_ | refine blk_alloc ?_ _)); refine blk_put (cs := #[.int .i64 t133, .int .i64 0]) ?_ 1 _ rfl; (with_reducible repeat (first | refine blk_drewN ?_ _ | refine blk_drew ?_ | refine blk_alloc ?_ _)); refine blk_put (cs := #[.int .i64 0, .int .i64 0]) ?_ 0 _ rfl; (with_reducible repeat (first | refine blk_drewN ?_ _ | refine blk_drew ?_ | refine blk_alloc ?_ _)); exact BK135.out) hb); have n7_ := A0_ (below_step (wb2_ HB.out GE126.out GE135.out) hb); clear HO120; clear HO123; clear HO129; clear HO132; clear BK126; clear BK135; clear HB; have HO120 := n0_; have HO123 := n1_; have HO129 := n2_; have HO132 := n3_; have HO138 := n4_; have BK126 := n5_; have BK135 := n6_; have HB := n7_; clear n0_ n1_ n2_ n3_ n4_ n5_ n6_ n7_; (try clear hb); (try clear hb2); (try clear hk); (try clear hi); (try clear ho0); have hcz28_0 : w27.cell? ⟨gb126, 0, none⟩ = some (.int .i64 t124) := (bc_ BK126.out 0).trans rfl; have hcz28_1 : w27.cell? ⟨gb126, 1, none⟩ = some (.int .i64 t125) := (bc_ BK126.out 1).trans rfl; have hfz28_0 := bf_ BK126.out 0; have hfz28_1 := bf_ BK126.out 1; obtain ⟨Ao29, co29, eo29⟩ := Kd.V_slice HO123.out; subst eo29; have p139 : 0 ≤ (0 : Int) := (by omega); have q139 : 0 < (t121.length : Int) := wd_; obtain ⟨ad139, A139_7, c139_7, e139, hx139_0, hx139_1, hx139_2, hx139_3, hx139_4, hx139_5, hx139_6, hx139_7, hl139_7, hi139_7⟩ := at_T43 (Kd.V_reads' HO123.out).2.2 0 p139 q139; cases e139; obtain ⟨ce139, hce139, hMe139, hcc139⟩ := Kd.V_get HO123.out z43 0 p139 (by first | exact q139 | exact wd_ | (have e_ := (Kd.V_reads' HO123.out).1; omega)); obtain ⟨ua139_7, uc139_7, rfl, ul139_7, ge139_7⟩ := k43_openF hMe139; have hv139_7 := hcc139 7 _ rfl; rw [add_field _ _ 7 (by omega)] at hv139_7; replace hv139_7 := Option.some.inj (hv139_7.symm.trans hx139_7); injection hv139_7 with hva_ hvn_ hvc_; rw [hva_] at ge139_7; rw [hvc_] at ul139_7; have HL139_7 := A0_ (show Kd.V (Kd.int .u8) 5 _ w.heap.size _ _ ((rd_T43 t121 0).f4) from Kd.V_mk ul139_7 ge139_7); clear hva_ hvn_ hvc_ ge139_7 ul139_7; clear hcc139 hce139; have qi139 : (0 < t121.length) = True := eq_true (by omega); (try rw [show ((0 : Int)).toNat = 0 from rfl] at hx139_0); (try rw [show 0 * 8 = 0 from rfl] at hx139_0); (try rw [Addr.add_zero'] at hx139_0); (try rw [show ((0 : Int)).toNat = 0 from rfl] at hx139_1); (try rw [show 0 * 8 = 0 from rfl] at hx139_1); (try rw [Addr.add_zero'] at hx139_1); (try rw [show ((0 : Int)).toNat = 0 from rfl] at hx139_2); (try rw [show 0 * 8 = 0 from rfl] at hx139_2); (try rw [Addr.add_zero'] at hx139_2); (try rw [show ((0 : Int)).toNat = 0 from rfl] at hx139_3); (try rw [show 0 * 8 = 0 from rfl] at hx139_3); (try rw [Addr.add_zero'] at hx139_3); (try rw [show ((0 : Int)).toNat = 0 from rfl] at hx139_4); (try rw [show 0 * 8 = 0 from rfl] at hx139_4); (try rw [Addr.add_zero'] at hx139_4); (try rw [show ((0 : Int)).toNat = 0 from rfl] at hx139_5); (try rw [show 0 * 8 = 0 from rfl] at hx139_5); (try rw [Addr.add_zero'] at hx139_5); (try rw [show ((0 : Int)).toNat = 0 from rfl] at hx139_6); (try rw [show 0 * 8 = 0 from rfl] at hx139_6); (try rw [Addr.add_zero'] at hx139_6); (try rw [show ((0 : Int)).toNat = 0 from rfl] at hx139_7); (try rw [show 0 * 8 = 0 from rfl] at hx139_7); (try rw [Addr.add_zero'] at hx139_7); have HR139_7 := A0_ hi139_7; have HC139_7 := A0_ hl139_7; clear hi139_7 hl139_7; replace p139 := eq_true p139; replace q139 := eq_true q139; have p140 : 0 ≤ (1 : Int) := (by omega); have q140 : 1 < (t121.length : Int) := wd_; obtain ⟨ad140, A140_7, c140_7, e140, hx140_0, hx140_1, hx140_2, hx140_3, hx140_4, hx140_5, hx140_6, hx140_7, hl140_7, hi140_7⟩ := at_T43 (Kd.V_reads' HO123.out).2.2 1 p140 q140; obtain rfl : ad139 = ad140 := (by injection e140); obtain ⟨ce140, hce140, hMe140, hcc140⟩ := Kd.V_get HO123.out z43 1 p140 (by first | exact q140 | exact wd_ | (have e_ := (Kd.V_reads' HO123.out).1; omega)); obtain ⟨ua140_7, uc140_7, rfl, ul140_7, ge140_7⟩ := k43_openF hMe140; have hv140_7 := hcc140 7 _ rfl; rw [add_field _ _ 7 (by omega)] at hv140_7; replace hv140_7 := Option.some.inj (hv140_7.symm.trans hx140_7); injection hv140_7 with hva_ hvn_ hvc_; rw [hva_] at ge140_7; rw [hvc_] at ul140_7; have HL140_7 := A0_ (show Kd.V (Kd.int .u8) 5 _ w.heap.size _ _ ((rd_T43 t121 1).f4) from Kd.V_mk ul140_7 ge140_7); clear hva_ hvn_ hvc_ ge140_7 ul140_7; clear hcc140 hce140; (try simp only [one_n, Nat.reduceMul, Nat.reduceEqDiff, Go.Addr.add, ↓reduceIte] at hx140_0); (try simp only [one_n, Nat.reduceMul, Nat.reduceEqDiff, Go.Addr.add, ↓reduceIte] at hx140_1); (try simp only [one_n, Nat.reduceMul, Nat.reduceEqDiff, Go.Addr.add, ↓reduceIte] at hx140_2); (try simp only [one_n, Nat.reduceMul, Nat.reduceEqDiff, Go.Addr.add, ↓reduceIte] at hx140_3); (try simp only [one_n, Nat.reduceMul, Nat.reduceEqDiff, Go.Addr.add, ↓reduceIte] at hx140_4); (try simp only [one_n, Nat.reduceMul, Nat.reduceEqDiff, Go.Addr.add, ↓reduceIte] at hx140_5); (try simp only [one_n, Nat.reduceMul, Nat.reduceEqDiff, Go.Addr.add, ↓reduceIte] at hx140_6); (try simp only [one_n, Nat.reduceMul, Nat.reduceEqDiff, Go.Addr.add, ↓reduceIte] at hx140_7); have qi140 : (1 < t121.length) = True := eq_true (by omega); (try rw [show ((1 : Int)).toNat = 1 from rfl] at hx140_0); (try rw [show 1 * 8 = 8 from rfl] at hx140_0); (try rw [show ((1 : Int)).toNat = 1 from rfl] at hx140_1); (try rw [show 1 * 8 = 8 from rfl] at hx140_1); (try rw [show ((1 : Int)).toNat = 1 from rfl] at hx140_2); (try rw [show 1 * 8 = 8 from rfl] at hx140_2); (try rw [show ((1 : Int)).toNat = 1 from rfl] at hx140_3); (try rw [show 1 * 8 = 8 from rfl] at hx140_3); (try rw [show ((1 : Int)).toNat = 1 from rfl] at hx140_4); (try rw [show 1 * 8 = 8 from rfl] at hx140_4); (try rw [show ((1 : Int)).toNat = 1 from rfl] at hx140_5); (try rw [show 1 * 8 = 8 from rfl] at hx140_5); (try rw [show ((1 : Int)).toNat = 1 from rfl] at hx140_6); (try rw [show 1 * 8 = 8 from rfl] at hx140_6); (try rw [show ((1 : Int)).toNat = 1 from rfl] at hx140_7); (try rw [show 1 * 8 = 8 from rfl] at hx140_7); have HR140_7 := A0_ hi140_7; have HC140_7 := A0_ hl140_7; clear hi140_7 hl140_7; replace p140 := eq_true p140; replace q140 := eq_true q140; have hcz30_0 : w27.cell? ⟨gb135, 0, none⟩ = some (.int .i64 t133) := (bc_ BK135.out 0).trans rfl; have hcz30_1 : w27.cell? ⟨gb135, 1, none⟩ = some (.int .i64 t134) := (bc_ BK135.out 1).trans rfl; have hfz30_0 := bf_ BK135.out 0; have hfz30_1 := bf_ BK135.out 1; obtain ⟨Ao31, co31, eo31⟩ := Kd.R_slice HO138.out; subst eo31; have p141 : 0 ≤ (1 : Int) := (by omega); have q141 : 1 < (t136.length : Int) := wd_; obtain ⟨ad141, e141, hx141_0⟩ := Kd.at_string (Kd.R_reads' HO138.out).2.2 1 p141 q141; cases e141; (try simp only [one_n, Nat.reduceMul, Nat.reduceEqDiff, Go.Addr.add, ↓reduceIte] at hx141_0); have qi141 : (1 < t136.length) = True := eq_true (by omega); (try rw [show ((1 : Int)).toNat = 1 from rfl] at hx141_0); replace p141 := eq_true p141; replace q141 := eq_true q141))
 go_ret
 exact ⟨we_, wb2_ HB.out GE126.out GE135.out⟩
end Go.Proofs.YtiijbmaamblidaaGreatDoor.Print

namespace Go.Proofs.YtiijbmaamblidaaGreatDoor.Print
open Go.RowKit Go.Proofs.YtiijbmaamblidaaGreatDoorW.PrintWords Go.Proofs.YtiijbmaamblidaaGreatDoorW.PrintLast Go.Proofs.YtiijbmaamblidaaGreatDoorW.PrintMore
attribute [local go_sem] max2_int min2_int max_two min_two max_three min_three max_four min_four   -- for this text's walks alone
set_option linter.unusedVariables false
set_option linter.unusedSimpArgs false
theorem eqA27 (d : Nat) (w : World) (x0 y0 : Int) (x1 y1 : Int) :
  (Op.equalIn (d + 2) 27 (.agg #[.int .i64 x0, .int .i64 x1]) (.agg #[.int .i64 y0, .int .i64 y1])).run Tryz.prog w = .ok (x0 == y0 && (x1 == y1)) w := by
 refine eqA_of Tryz.underlying27 (by kernel_rfl) ?_
 refine eqf_cons (by rfl) (by go_simp; rfl) (by go_simp; rfl) (by go_simp) ?_
 exact eqf_last (by rfl) (by go_simp; rfl) (by go_simp; rfl) (by go_simp)
end Go.Proofs.YtiijbmaamblidaaGreatDoor.Print

namespace Go.Proofs.YtiijbmaamblidaaGreatDoor.Print
open Go.RowKit Go.Proofs.YtiijbmaamblidaaGreatDoorW.PrintWords Go.Proofs.YtiijbmaamblidaaGreatDoorW.PrintLast Go.Proofs.YtiijbmaamblidaaGreatDoorW.PrintMore
attribute [local go_sem] max2_int min2_int max_two min_two max_three min_three max_four min_four   -- for this text's walks alone
set_option linter.unusedVariables false
set_option linter.unusedSimpArgs false
attribute [local go_sem high] eqA27
def bindlelaw18_FlatFlattens.f (k : Nat) (l0 : List (S43)) : Option (Bool) := (bindlelaw18_light.f k l0).bind fun t275 => (if t275 = true then ((bindleref08_Own.f k l0).bind fun t277 => ((flat_Flatten.f t277).bind fun bt280 => ((bindleref08_Fold.f l0).bind fun bt286 => (if bt286.2.1 = 0 then ((bindlelaw18_answers.f).bind fun t293 => (if t293 = true then (if (bt280.2.1 == bt286.2.1 && (bt280.2.2 == bt286.2.2)) = true then ((bindleref18_Order.f k l0).bind fun t294 => ((bindleref08_Members.f k bt286.1 t294).bind fun t297 => ((bindleref08_SameAll.f k bt280.1 t297).bind fun t300 => (some t300)))) else (some false)) else (some false))) else ((bindlelaw18_answers.f).bind fun t292 => (if t292 = true then (if (bt280.2.1 == bt286.2.1 && (bt280.2.2 == bt286.2.2)) = true then (some ((bt280.1.length : Int) == 0)) else (some false)) else (some false))))))) else ((bindlelaw18_answers.f).bind fun t276 => (some t276)))
set_option maxHeartbeats 8000000 in
set_option maxRecDepth 100000 in
theorem bindlelaw18_FlatFlattens.calls (k : Nat) (A0 : Option Addr) (c0 : Nat) (l0 : List (S43)) (r : Bool) (w : World) (hT : Aside0 (Tabs w)) (hr0 : Kd.C k43 w A0 l0.length l0) (hc0 : l0.length ≤ c0) (h : bindlelaw18_FlatFlattens.f k l0 = some r) (hTRUE_ : Aside0 (r = true)) :
  Calls Tryz.prog 4 #[.slice A0 l0.length c0] w fun e w' => e = .returned (.bool r) ∧ Below w.heap.size w w' := by
 have hu27 := Tryz.underlying27
 have HR0 := A0_ hr0
 have HC0 := A0_ hc0
 clear hr0 hc0
 have HB := A0_ (Below.refl w.heap.size w)
 have H : ((bindlelaw18_light.f k l0).bind fun t275 => (if t275 = true then ((bindleref08_Own.f k l0).bind fun t277 => ((flat_Flatten.f t277).bind fun bt280 => ((bindleref08_Fold.f l0).bind fun bt286 => (if bt286.2.1 = 0 then ((bindlelaw18_answers.f).bind fun t293 => (if t293 = true then (if (bt280.2.1 == bt286.2.1 && (bt280.2.2 == bt286.2.2)) = true then ((bindleref18_Order.f k l0).bind fun t294 => ((bindleref08_Members.f k bt286.1 t294).bind fun t297 => ((bindleref08_SameAll.f k bt280.1 t297).bind fun t300 => (some t300)))) else (some false)) else (some false))) else ((bindlelaw18_answers.f).bind fun t292 => (if t292 = true then (if (bt280.2.1 == bt286.2.1 && (bt280.2.2 == bt286.2.2)) = true then (some ((bt280.1.length : Int) == 0)) else (some false)) else (some false))))))) else ((bindlelaw18_answers.f).bind fun t276 => (some t276)))) = some r := h
 clear h
 replace H := Option.bind_eq_some_iff.mp H
 obtain ⟨t275, A20, H⟩ := H
 replace H : (if t275 = true then ((bindleref08_Own.f k l0).bind fun t277 => ((flat_Flatten.f t277).bind fun bt280 => ((bindleref08_Fold.f l0).bind fun bt286 => (if bt286.2.1 = 0 then ((bindlelaw18_answers.f).bind fun t293 => (if t293 = true then (if (bt280.2.1 == bt286.2.1 && (bt280.2.2 == bt286.2.2)) = true then ((bindleref18_Order.f k l0).bind fun t294 => ((bindleref08_Members.f k bt286.1 t294).bind fun t297 => ((bindleref08_SameAll.f k bt280.1 t297).bind fun t300 => (some t300)))) else (some false)) else (some false))) else ((bindlelaw18_answers.f).bind fun t292 => (if t292 = true then (if (bt280.2.1 == bt286.2.1 && (bt280.2.2 == bt286.2.2)) = true then (some ((bt280.1.length : Int) == 0)) else (some false)) else (some false))))))) else ((bindlelaw18_answers.f).bind fun t276 => (some t276))) = some r := H
 have A2 := A0_ A20
 clear A20
 by_cases c3 : t275 = true
 rotate_left
 ·replace c3 := Bool.eq_false_iff.mpr c3
  subst c3
  have H1 : ((bindlelaw18_answers.f).bind fun t276 => (some t276)) = some r := by rw [if_neg (show ¬ (false = true) by decide)] at H; exact H
  clear H
  have H := H1
  clear H1
  replace H := Option.bind_eq_some_iff.mp H
  obtain ⟨t276, A930, H⟩ := H
  replace H : (some t276) = some r := H
  have A93 := A0_ A930
  clear A930
  obtain rfl := Option.some.inj H
  go_enter Tryz.func4, Tryz.ntmps4
  go_wp2_with (first | ((with_reducible refine gate_callee (f := 6) rfl ?_); refine goesL_ (some 8) rfl rfl Tryz.func6 (by kernel_rfl) rfl #[.slice A0 l0.length c0] rfl wm_ ?_; (with_reducible refine (bindlelaw18_light.calls k _ _ l0 false _ ?side1 ?side2 A2.out).mono ?_); (case side1 => exact wc_ HR0.out); (case side2 => exact HC0.out); rintro e w' ⟨rfl, ⟨nd, rfl⟩⟩; refine ⟨_, rfl, ?_⟩) | ((with_reducible refine gate_callee (f := 7) rfl ?_); refine goesL_ (some 10) rfl rfl Tryz.func7 (by kernel_rfl) rfl #[] rfl wm_ ?_; (with_reducible refine (bindlelaw18_answers.calls  t276 _ ?side1 A93.out).mono ?_); (case side1 => exact A0_ (Tabs.below hT.out (wb_ HB.out))); rintro e w94 ⟨rfl, hb⟩; refine ⟨_, rfl, ?_⟩; have n0_ := A0_ (below_step (wb_ HB.out) hb); clear HB; have HB := n0_; clear n0_; (try clear hb); (try clear hb2); (try clear hk); (try clear hi)))
  go_ret
  exact ⟨we_, wb_ HB.out⟩
 subst c3
 have H1 : ((bindleref08_Own.f k l0).bind fun t277 => ((flat_Flatten.f t277).bind fun bt280 => ((bindleref08_Fold.f l0).bind fun bt286 => (if bt286.2.1 = 0 then ((bindlelaw18_answers.f).bind fun t293 => (if t293 = true then (if (bt280.2.1 == bt286.2.1 && (bt280.2.2 == bt286.2.2)) = true then ((bindleref18_Order.f k l0).bind fun t294 => ((bindleref08_Members.f k bt286.1 t294).bind fun t297 => ((bindleref08_SameAll.f k bt280.1 t297).bind fun t300 => (some t300)))) else (some false)) else (some false))) else ((bindlelaw18_answers.f).bind fun t292 => (if t292 = true then (if (bt280.2.1 == bt286.2.1 && (bt280.2.2 == bt286.2.2)) = true then (some ((bt280.1.length : Int) == 0)) else (some false)) else (some false))))))) = some r := by rw [if_pos rfl] at H; exact H
 clear H
 have H := H1
 clear H1
 replace H := Option.bind_eq_some_iff.mp H
 obtain ⟨t277, A40, H⟩ := H
 replace H : ((flat_Flatten.f t277).bind fun bt280 => ((bindleref08_Fold.f l0).bind fun bt286 => (if bt286.2.1 = 0 then ((bindlelaw18_answers.f).bind fun t293 => (if t293 = true then (if (bt280.2.1 == bt286.2.1 && (bt280.2.2 == bt286.2.2)) = true then ((bindleref18_Order.f k l0).bind fun t294 => ((bindleref08_Members.f k bt286.1 t294).bind fun t297 => ((bindleref08_SameAll.f k bt280.1 t297).bind fun t300 => (some t300)))) else (some false)) else (some false))) else ((bindlelaw18_answers.f).bind fun t292 => (if t292 = true then (if (bt280.2.1 == bt286.2.1 && (bt280.2.2 == bt286.2.2)) = true then (some ((bt280.1.length : Int) == 0)) else (some false)) else (some false)))))) = some r := H
 have A4 := A0_ A40
 clear A40
 replace H := Option.bind_eq_some_iff.mp H
 obtain ⟨⟨t280, t283, t284⟩, A50, H⟩ := H
 replace H : ((bindleref08_Fold.f l0).bind fun bt286 => (if bt286.2.1 = 0 then ((bindlelaw18_answers.f).bind fun t293 => (if t293 = true then (if (t283 == bt286.2.1 && (t284 == bt286.2.2)) = true then ((bindleref18_Order.f k l0).bind fun t294 => ((bindleref08_Members.f k bt286.1 t294).bind fun t297 => ((bindleref08_SameAll.f k t280 t297).bind fun t300 => (some t300)))) else (some false)) else (some false))) else ((bindlelaw18_answers.f).bind fun t292 => (if t292 = true then (if (t283 == bt286.2.1 && (t284 == bt286.2.2)) = true then (some ((t280.length : Int) == 0)) else (some false)) else (some false))))) = some r := H
 have A5 := A0_ A50
 clear A50
 replace H := Option.bind_eq_some_iff.mp H
 obtain ⟨⟨t286, t289, t290⟩, A60, H⟩ := H
 replace H : (if t289 = 0 then ((bindlelaw18_answers.f).bind fun t293 => (if t293 = true then (if (t283 == t289 && (t284 == t290)) = true then ((bindleref18_Order.f k l0).bind fun t294 => ((bindleref08_Members.f k t286 t294).bind fun t297 => ((bindleref08_SameAll.f k t280 t297).bind fun t300 => (some t300)))) else (some false)) else (some false))) else ((bindlelaw18_answers.f).bind fun t292 => (if t292 = true then (if (t283 == t289 && (t284 == t290)) = true then (some ((t280.length : Int) == 0)) else (some false)) else (some false)))) = some r := H
 have A6 := A0_ A60
 clear A60
 by_cases c7 : t289 = 0
 rotate_left
 ·rw [if_neg c7] at H
  have c7b0 : (t289 == 0) = false := beq_eq_false_iff_ne.mpr c7
  have c7b1 : (t289 != 0) = true := bne_iff_ne.mpr c7
  replace H := Option.bind_eq_some_iff.mp H
  obtain ⟨t292, A550, H⟩ := H
  replace H : (if t292 = true then (if (t283 == t289 && (t284 == t290)) = true then (some ((t280.length : Int) == 0)) else (some false)) else (some false)) = some r := H
  have A55 := A0_ A550
  clear A550
  by_cases c56 : t292 = true
  rotate_left
  ·replace c56 := Bool.eq_false_iff.mpr c56
   subst c56
   have H1 : (some false) = some r := by rw [if_neg (show ¬ (false = true) by decide)] at H; exact H
   clear H
   have H := H1
   clear H1
   exact absurd ((Option.some.inj H).trans hTRUE_.out) (by decide)
  subst c56
  have H1 : (if (t283 == t289 && (t284 == t290)) = true then (some ((t280.length : Int) == 0)) else (some false)) = some r := by rw [if_pos rfl] at H; exact H
  clear H
  have H := H1
  clear H1
  by_cases c57 : (t283 == t289 && (t284 == t290)) = true
  ·rw [if_pos c57] at H
   have c57b0 : (t283 == t289 && (t284 == t290)) = true := c57
   (try (have c57b1 : decide (t283 = t289 && (t284 == t290)) = true := by simpa using c57))
   (try (have c57b2 : (t283 == t289 && (t284 == t290)) = true := by simpa using c57))
   clear c57
   obtain rfl := Option.some.inj H
   go_enter Tryz.func4, Tryz.ntmps4
   go_wp2_with (first | ((with_reducible refine gate_callee (f := 6) rfl ?_); refine goesL_ (some 8) rfl rfl Tryz.func6 (by kernel_rfl) rfl #[.slice A0 l0.length c0] rfl wm_ ?_; (with_reducible refine (bindlelaw18_light.calls k _ _ l0 true _ ?side1 ?side2 A2.out).mono ?_); (case side1 => exact wc_ HR0.out); (case side2 => exact HC0.out); rintro e w' ⟨rfl, ⟨nd, rfl⟩⟩; refine ⟨_, rfl, ?_⟩) | ((with_reducible refine gate_callee (f := 11) rfl ?_); refine goesL_ (some 13) rfl rfl Tryz.func11 (by kernel_rfl) rfl #[.slice A0 l0.length c0] rfl wm_ ?_; (with_reducible refine (bindleref08_Own.calls k _ _ l0 t277 _ ?side1 ?side2 A4.out).mono ?_); (case side1 => exact wc_ HR0.out); (case side2 => exact HC0.out); rintro e w58 ⟨v278, rfl, ho0, hb⟩; refine ⟨_, rfl, ?_⟩; have n0_ := A0_ (Kd.N_lower (Kd.N_mono (ok' := fun k_ => True) (Kd.S_N (Kd.S_bound ho0)) (fun k_ hk_ => trivial)) (below_size (wb_ HB.out))); have n1_ := A0_ (below_step (wb_ HB.out) hb); clear HB; have HO279 := n0_; have HB := n1_; clear n0_ n1_; (try clear hb); (try clear hb2); (try clear hk); (try clear hi); (try clear ho0); obtain ⟨Ao59, co59, eo59⟩ := Kd.N_slice HO279.out; subst eo59) | ((with_reducible refine gate_callee (f := 8) rfl ?_); refine goesL_ (some 14) rfl rfl Tryz.func8 (by kernel_rfl) rfl #[.slice Ao59 t277.length co59] rfl wm_ ?_; (with_reducible refine (flat_Flatten.calls _ _ t277 t280 t283 t284 _ ?side1 ?side2 ?side3 A5.out).mono ?_); (case side1 => exact A0_ (Tabs.below hT.out (wb_ HB.out))); (case side2 => exact wc_ (Kd.N_reads' HO279.out).2.2); (case side3 => exact (Kd.N_reads' HO279.out).2.1); rintro e w60 ⟨v281, rfl, ho0, hb⟩; refine ⟨_, rfl, ?_⟩; have n0_ := A0_ (Kd.N_below (wN_ HO279.out) hb); have n1_ := A0_ (Kd.V_lower (Kd.V_mono (ok' := fun k_ => some k_ ≠ (.slice Ao59 t277.length co59 : Value).ownBlock) ho0 (fun k_ hk_ => (Kd.fresh' (Kd.N_lt (wN_ HO279.out)) k_ hk_))) (below_size (wb_ HB.out))); have n2_ := A0_ (below_step (wb_ HB.out) hb); clear HO279; clear HB; have HO279 := n0_; have HO282 := n1_; have HB := n2_; clear n0_ n1_ n2_; (try clear hb); (try clear hb2); (try clear hk); (try clear hi); (try clear ho0)) | ((with_reducible refine gate_dst (N := 4) rfl ?_); (try (refine gate_guard (by rfl) ?_; dsimp only)); refine box_event ?hg (N := 4) ?hd (cs := #[.int .i64 0, .int .i64 0]) (t := 27) ?hr ?_; (case hd => rfl); (case hg => rfl); (case hr => first | (go_simp; done) | (go_simp; rfl)); intro gb285 hg w61 hbox hb; have n0_ := A0_ (Kd.N_below (Kd.N_elderB (wN_ HO279.out) gb285 (Nat.le_of_eq hg.symm)) hb); have n1_ := A0_ (Vb_ (Kd.V_elderB (wV_ HO282.out) gb285 (Nat.le_of_eq hg.symm)) hb); have n2_ := A0_ (below_step (wb_ HB.out) hb); have n3_ := A0_ (hbox); have n4_ := A0_ ((by rw [hg]; exact (below_size (wb_ HB.out)) : w.heap.size ≤ gb285)); have n5_ := A0_ ((by rw [hg]; exact (below_size (wb_ HB.out)) : w.heap.size ≤ gb285)); clear HO279; clear HO282; clear HB; have HO279 := n0_; have HO282 := n1_; have HB := n2_; have BK285 := n3_; have GW285 := n4_; have GE285 := n5_; clear n0_ n1_ n2_ n3_ n4_ n5_; clear hb hbox hg; have hcz62_0 : w61.cell? ⟨gb285, 0, none⟩ = some (.int .i64 0) := (bc_ BK285.out 0).trans rfl; have hcz62_1 : w61.cell? ⟨gb285, 1, none⟩ = some (.int .i64 0) := (bc_ BK285.out 1).trans rfl; have hfz62_0 := bf_ BK285.out 0; have hfz62_1 := bf_ BK285.out 1) | ((with_reducible refine gate_callee (f := 9) rfl ?_); refine goesL_ (some 19) rfl rfl Tryz.func9 (by kernel_rfl) rfl #[.slice A0 l0.length c0] rfl wm_ ?_; (with_reducible refine (bindleref08_Fold.calls _ _ l0 t286 t289 t290 _ ?side1 ?side2 A6.out).mono ?_); (case side1 => exact Kd.C_below HR0.out (wb1_ HB.out GE285.out)); (case side2 => exact HC0.out); rintro e w63 ⟨v287, rfl, ho0, hb⟩; refine ⟨_, rfl, ?_⟩; have n0_ := A0_ (Kd.N_below (by (with_reducible repeat (first | apply Kd.N_alloc | apply Kd.N_drewN | apply Kd.N_drew)); exact (Kd.N_mono (Kd.N_far (p := ⟨gb285, 1, none⟩) (Kd.N_far (p := ⟨gb285, 0, none⟩) (Kd.N_mono HO279.out (fun k_ hk => (⟨hk, hk.2⟩ : _ ∧ k_ ≠ gb285))) (fun _ hk => hk.2) (.int .i64 t283)) (fun _ hk => hk.2) (.int .i64 t284)) (fun _ h_ => h_.1))) hb); have n1_ := A0_ (Vb_ (by (with_reducible repeat (first | apply Va_ | apply VN_ | apply V1_)); exact (Kd.V_mono (Kd.V_far (p := ⟨gb285, 1, none⟩) (Kd.V_far (p := ⟨gb285, 0, none⟩) (Kd.V_mono HO282.out (fun k_ hk => (⟨hk, hk.2⟩ : _ ∧ k_ ≠ gb285))) (fun _ hk => hk.2) (.int .i64 t283)) (fun _ hk => hk.2) (.int .i64 t284)) (fun _ h_ => h_.1))) hb); have n2_ := A0_ (Kd.V_lower (Kd.V_mono (ok' := fun k_ => some k_ ≠ (.slice Ao59 t277.length co59 : Value).ownBlock ∧ k_ ≠ gb285) ho0 (fun k_ hk_ => ⟨(Kd.fresh' (Kd.N_lt (by (with_reducible repeat (first | apply Kd.N_alloc | apply Kd.N_drewN | apply Kd.N_drew)); exact (Kd.N_mono (Kd.N_far (p := ⟨gb285, 1, none⟩) (Kd.N_far (p := ⟨gb285, 0, none⟩) (Kd.N_mono HO279.out (fun k_ hk => (⟨hk, hk.2⟩ : _ ∧ k_ ≠ gb285))) (fun _ hk => hk.2) (.int .i64 t283)) (fun _ hk => hk.2) (.int .i64 t284)) (fun _ h_ => h_.1)))) k_ hk_), (Kd.freshB (g := gb285) (o := .cells #[.int .i64 t283, .int .i64 t284] 27 (0, 0)) (by (with_reducible repeat (first | refine blk_drewN ?_ _ | refine blk_drew ?_ | refine blk_alloc ?_ _)); refine blk_put (cs := #[.int .i64 t283, .int .i64 0]) ?_ 1 _ rfl; (with_reducible repeat (first | refine blk_drewN ?_ _ | refine blk_drew ?_ | refine blk_alloc ?_ _)); refine blk_put (cs := #[.int .i64 0, .int .i64 0]) ?_ 0 _ rfl; (with_reducible repeat (first | refine blk_drewN ?_ _ | refine blk_drew ?_ | refine blk_alloc ?_ _)); exact BK285.out) k_ hk_)⟩)) (below_size (wb1_ HB.out GE285.out))); have n3_ := A0_ (blk_below (g := gb285) (o := .cells #[.int .i64 t283, .int .i64 t284] 27 (0, 0)) (by (with_reducible repeat (first | refine blk_drewN ?_ _ | refine blk_drew ?_ | refine blk_alloc ?_ _)); refine blk_put (cs := #[.int .i64 t283, .int .i64 0]) ?_ 1 _ rfl; (with_reducible repeat (first | refine blk_drewN ?_ _ | refine blk_drew ?_ | refine blk_alloc ?_ _)); refine blk_put (cs := #[.int .i64 0, .int .i64 0]) ?_ 0 _ rfl; (with_reducible repeat (first | refine blk_drewN ?_ _ | refine blk_drew ?_ | refine blk_alloc ?_ _)); exact BK285.out) hb); have n4_ := A0_ (below_step (wb1_ HB.out GE285.out) hb); clear HO279; clear HO282; clear BK285; clear HB; have HO279 := n0_; have HO282 := n1_; have HO288 := n2_; have BK285 := n3_; have HB := n4_; clear n0_ n1_ n2_ n3_ n4_; (try clear hb); (try clear hb2); (try clear hk); (try clear hi); (try clear ho0)) | ((with_reducible refine gate_dst (N := 6) rfl ?_); (try (refine gate_guard (by rfl) ?_; dsimp only)); refine box_event ?hg (N := 6) ?hd (cs := #[.int .i64 0, .int .i64 0]) (t := 27) ?hr ?_; (case hd => rfl); (case hg => rfl); (case hr => first | (go_simp; done) | (go_simp; rfl)); intro gb291 hg w64 hbox hb; have n0_ := A0_ (Kd.N_below (Kd.N_elderB (wN_ HO279.out) gb291 (Nat.le_of_eq hg.symm)) hb); have n1_ := A0_ (Vb_ (Kd.V_elderB (wV_ HO282.out) gb291 (Nat.le_of_eq hg.symm)) hb); have n2_ := A0_ (Vb_ (Kd.V_elderB (wV_ HO288.out) gb291 (Nat.le_of_eq hg.symm)) hb); have n3_ := A0_ (blk_below (g := gb285) (o := .cells #[.int .i64 t283, .int .i64 t284] 27 (0, 0)) (wB_ BK285.out) hb); have n4_ := A0_ (below_step (wb1_ HB.out GE285.out) hb); have n5_ := A0_ (hbox); have n6_ := A0_ ((by rw [hg]; exact (below_size (wb1_ HB.out GE285.out)) : w.heap.size ≤ gb291)); have n7_ := A0_ ((by rw [hg]; exact (below_size (wb1_ HB.out GE285.out)) : w.heap.size ≤ gb291)); have n8_ := A0_ ((by rw [hg]; exact Nat.ne_of_lt (blk_lt (g := gb285) (o := .cells #[.int .i64 t283, .int .i64 t284] 27 (0, 0)) (wB_ BK285.out)) : gb285 ≠ gb291)); have n9_ := A0_ ((by rw [hg]; exact Nat.ne_of_gt (blk_lt (g := gb285) (o := .cells #[.int .i64 t283, .int .i64 t284] 27 (0, 0)) (wB_ BK285.out)) : gb291 ≠ gb285)); clear HO279; clear HO282; clear HO288; clear BK285; clear HB; have HO279 := n0_; have HO282 := n1_; have HO288 := n2_; have BK285 := n3_; have HB := n4_; have BK291 := n5_; have GW291 := n6_; have GE291 := n7_; have NB285_291 := n8_; have NB291_285 := n9_; clear n0_ n1_ n2_ n3_ n4_ n5_ n6_ n7_ n8_ n9_; clear hb hbox hg; have hnb65 := NB291_285.out; have hnc65 := NB285_291.out; have hcz66_0 : w64.cell? ⟨gb291, 0, none⟩ = some (.int .i64 0) := (bc_ BK291.out 0).trans rfl; have hcz66_1 : w64.cell? ⟨gb291, 1, none⟩ = some (.int .i64 0) := (bc_ BK291.out 1).trans rfl; have hfz66_0 := bf_ BK291.out 0; have hfz66_1 := bf_ BK291.out 1) | ((with_reducible refine gate_callee (f := 7) rfl ?_); refine goesL_ (some 25) rfl rfl Tryz.func7 (by kernel_rfl) rfl #[] rfl wm_ ?_; (with_reducible refine (bindlelaw18_answers.calls  true _ ?side1 A55.out).mono ?_); (case side1 => exact A0_ (Tabs.below hT.out (wb2_ HB.out GE285.out GE291.out))); rintro e w67 ⟨rfl, hb⟩; refine ⟨_, rfl, ?_⟩; have n0_ := A0_ (Kd.N_below (by (with_reducible repeat (first | apply Kd.N_alloc | apply Kd.N_drewN | apply Kd.N_drew)); exact (Kd.N_mono (Kd.N_far (p := ⟨gb291, 1, none⟩) (Kd.N_far (p := ⟨gb291, 0, none⟩) (Kd.N_mono HO279.out (fun k_ hk => (⟨hk, hk.2⟩ : _ ∧ k_ ≠ gb291))) (fun _ hk => hk.2) (.int .i64 t289)) (fun _ hk => hk.2) (.int .i64 t290)) (fun _ h_ => h_.1))) hb); have n1_ := A0_ (Vb_ (by (with_reducible repeat (first | apply Va_ | apply VN_ | apply V1_)); exact (Kd.V_mono (Kd.V_far (p := ⟨gb291, 1, none⟩) (Kd.V_far (p := ⟨gb291, 0, none⟩) (Kd.V_mono HO282.out (fun k_ hk => (⟨hk, hk.2⟩ : _ ∧ k_ ≠ gb291))) (fun _ hk => hk.2) (.int .i64 t289)) (fun _ hk => hk.2) (.int .i64 t290)) (fun _ h_ => h_.1))) hb); have n2_ := A0_ (Vb_ (by (with_reducible repeat (first | apply Va_ | apply VN_ | apply V1_)); exact (Kd.V_mono (Kd.V_far (p := ⟨gb291, 1, none⟩) (Kd.V_far (p := ⟨gb291, 0, none⟩) (Kd.V_mono HO288.out (fun k_ hk => (⟨hk, hk.2⟩ : _ ∧ k_ ≠ gb291))) (fun _ hk => hk.2) (.int .i64 t289)) (fun _ hk => hk.2) (.int .i64 t290)) (fun _ h_ => h_.1))) hb); have n3_ := A0_ (blk_below (g := gb285) (o := .cells #[.int .i64 t283, .int .i64 t284] 27 (0, 0)) (by (with_reducible repeat (first | refine blk_drewN ?_ _ | refine blk_drew ?_ | refine blk_alloc ?_ _)); refine blk_far ?_ NB285_291.out _; (with_reducible repeat (first | refine blk_drewN ?_ _ | refine blk_drew ?_ | refine blk_alloc ?_ _)); refine blk_far ?_ NB285_291.out _; (with_reducible repeat (first | refine blk_drewN ?_ _ | refine blk_drew ?_ | refine blk_alloc ?_ _)); exact BK285.out) hb); have n4_ := A0_ (blk_below (g := gb291) (o := .cells #[.int .i64 t289, .int .i64 t290] 27 (0, 0)) (by (with_reducible repeat (first | refine blk_drewN ?_ _ | refine blk_drew ?_ | refine blk_alloc ?_ _)); refine blk_put (cs := #[.int .i64 t289, .int .i64 0]) ?_ 1 _ rfl; (with_reducible repeat (first | refine blk_drewN ?_ _ | refine blk_drew ?_ | refine blk_alloc ?_ _)); refine blk_put (cs := #[.int .i64 0, .int .i64 0]) ?_ 0 _ rfl; (with_reducible repeat (first | refine blk_drewN ?_ _ | refine blk_drew ?_ | refine blk_alloc ?_ _)); exact BK291.out) hb); have n5_ := A0_ (below_step (wb2_ HB.out GE285.out GE291.out) hb); clear HO279; clear HO282; clear HO288; clear BK285; clear BK291; clear HB; have HO279 := n0_; have HO282 := n1_; have HO288 := n2_; have BK285 := n3_; have BK291 := n4_; have HB := n5_; clear n0_ n1_ n2_ n3_ n4_ n5_; (try clear hb); (try clear hb2); (try clear hk); (try clear hi); have hcz68_0 : w67.cell? ⟨gb285, 0, none⟩ = some (.int .i64 t283) := (bc_ BK285.out 0).trans rfl; have hcz68_1 : w67.cell? ⟨gb285, 1, none⟩ = some (.int .i64 t284) := (bc_ BK285.out 1).trans rfl; have hfz68_0 := bf_ BK285.out 0; have hfz68_1 := bf_ BK285.out 1; have hcz69_0 : w67.cell? ⟨gb291, 0, none⟩ = some (.int .i64 t289) := (bc_ BK291.out 0).trans rfl; have hcz69_1 : w67.cell? ⟨gb291, 1, none⟩ = some (.int .i64 t290) := (bc_ BK291.out 1).trans rfl; have hfz69_0 := bf_ BK291.out 0; have hfz69_1 := bf_ BK291.out 1; obtain ⟨Ao70, co70, eo70⟩ := Kd.V_slice HO282.out; subst eo70))
   go_ret
   exact ⟨we_, wb2_ HB.out GE285.out GE291.out⟩
  rw [if_neg c57] at H
  have c57b0 : (t283 == t289 && (t284 == t290)) = false := by simpa using c57
  (try (have c57b1 : decide (t283 = t289 && (t284 == t290)) = false := by simpa using c57))
  (try (have c57b2 : (t283 == t289 && (t284 == t290)) = false := by simpa using c57))
  (try (have c57b3 : ¬ (t283 = t289 && (t284 == t290)) := by simpa using c57))
  clear c57
  exact absurd ((Option.some.inj H).trans hTRUE_.out) (by decide)
 rw [if_pos c7] at H
 have c7b0 : (t289 == 0) = true := beq_iff_eq.mpr c7
 have c7b1 : (t289 != 0) = false := bne_eq_false_iff_eq.mpr c7
 clear c7
 replace H := Option.bind_eq_some_iff.mp H
 obtain ⟨t293, A80, H⟩ := H
 replace H : (if t293 = true then (if (t283 == t289 && (t284 == t290)) = true then ((bindleref18_Order.f k l0).bind fun t294 => ((bindleref08_Members.f k t286 t294).bind fun t297 => ((bindleref08_SameAll.f k t280 t297).bind fun t300 => (some t300)))) else (some false)) else (some false)) = some r := H
 have A8 := A0_ A80
 clear A80
 by_cases c9 : t293 = true
 rotate_left
 ·replace c9 := Bool.eq_false_iff.mpr c9
  subst c9
  have H1 : (some false) = some r := by rw [if_neg (show ¬ (false = true) by decide)] at H; exact H
  clear H
  have H := H1
  clear H1
  exact absurd ((Option.some.inj H).trans hTRUE_.out) (by decide)
 subst c9
 have H1 : (if (t283 == t289 && (t284 == t290)) = true then ((bindleref18_Order.f k l0).bind fun t294 => ((bindleref08_Members.f k t286 t294).bind fun t297 => ((bindleref08_SameAll.f k t280 t297).bind fun t300 => (some t300)))) else (some false)) = some r := by rw [if_pos rfl] at H; exact H
 clear H
 have H := H1
 clear H1
 by_cases c10 : (t283 == t289 && (t284 == t290)) = true
 rotate_left
 ·rw [if_neg c10] at H
  have c10b0 : (t283 == t289 && (t284 == t290)) = false := by simpa using c10
  (try (have c10b1 : decide (t283 = t289 && (t284 == t290)) = false := by simpa using c10))
  (try (have c10b2 : (t283 == t289 && (t284 == t290)) = false := by simpa using c10))
  (try (have c10b3 : ¬ (t283 = t289 && (t284 == t290)) := by simpa using c10))
  clear c10
  exact absurd ((Option.some.inj H).trans hTRUE_.out) (by decide)
 rw [if_pos c10] at H
 have c10b0 : (t283 == t289 && (t284 == t290)) = true := c10
 (try (have c10b1 : decide (t283 = t289 && (t284 == t290)) = true := by simpa using c10))
 (try (have c10b2 : (t283 == t289 && (t284 == t290)) = true := by simpa using c10))
 clear c10
 replace H := Option.bind_eq_some_iff.mp H
 obtain ⟨t294, A110, H⟩ := H
 replace H : ((bindleref08_Members.f k t286 t294).bind fun t297 => ((bindleref08_SameAll.f k t280 t297).bind fun t300 => (some t300))) = some r := H
 have A11 := A0_ A110
 clear A110
 replace H := Option.bind_eq_some_iff.mp H
 obtain ⟨t297, A120, H⟩ := H
 replace H : ((bindleref08_SameAll.f k t280 t297).bind fun t300 => (some t300)) = some r := H
 have A12 := A0_ A120
 clear A120
 replace H := Option.bind_eq_some_iff.mp H
 obtain ⟨t300, A130, H⟩ := H
 replace H : (some t300) = some r := H
 have A13 := A0_ A130
 clear A130
 obtain rfl := Option.some.inj H
 go_enter Tryz.func4, Tryz.ntmps4
 go_wp2_with (first | ((with_reducible refine gate_callee (f := 6) rfl ?_); refine goesL_ (some 8) rfl rfl Tryz.func6 (by kernel_rfl) rfl #[.slice A0 l0.length c0] rfl wm_ ?_; (with_reducible refine (bindlelaw18_light.calls k _ _ l0 true _ ?side1 ?side2 A2.out).mono ?_); (case side1 => exact wc_ HR0.out); (case side2 => exact HC0.out); rintro e w' ⟨rfl, ⟨nd, rfl⟩⟩; refine ⟨_, rfl, ?_⟩) | ((with_reducible refine gate_callee (f := 11) rfl ?_); refine goesL_ (some 13) rfl rfl Tryz.func11 (by kernel_rfl) rfl #[.slice A0 l0.length c0] rfl wm_ ?_; (with_reducible refine (bindleref08_Own.calls k _ _ l0 t277 _ ?side1 ?side2 A4.out).mono ?_); (case side1 => exact wc_ HR0.out); (case side2 => exact HC0.out); rintro e w14 ⟨v278, rfl, ho0, hb⟩; refine ⟨_, rfl, ?_⟩; have n0_ := A0_ (Kd.N_lower (Kd.N_mono (ok' := fun k_ => True) (Kd.S_N (Kd.S_bound ho0)) (fun k_ hk_ => trivial)) (below_size (wb_ HB.out))); have n1_ := A0_ (below_step (wb_ HB.out) hb); clear HB; have HO279 := n0_; have HB := n1_; clear n0_ n1_; (try clear hb); (try clear hb2); (try clear hk); (try clear hi); (try clear ho0); obtain ⟨Ao15, co15, eo15⟩ := Kd.N_slice HO279.out; subst eo15) | ((with_reducible refine gate_callee (f := 8) rfl ?_); refine goesL_ (some 14) rfl rfl Tryz.func8 (by kernel_rfl) rfl #[.slice Ao15 t277.length co15] rfl wm_ ?_; (with_reducible refine (flat_Flatten.calls _ _ t277 t280 t283 t284 _ ?side1 ?side2 ?side3 A5.out).mono ?_); (case side1 => exact A0_ (Tabs.below hT.out (wb_ HB.out))); (case side2 => exact wc_ (Kd.N_reads' HO279.out).2.2); (case side3 => exact (Kd.N_reads' HO279.out).2.1); rintro e w16 ⟨v281, rfl, ho0, hb⟩; refine ⟨_, rfl, ?_⟩; have n0_ := A0_ (Kd.N_below (wN_ HO279.out) hb); have n1_ := A0_ (Kd.V_lower (Kd.V_mono (ok' := fun k_ => some k_ ≠ (.slice Ao15 t277.length co15 : Value).ownBlock) ho0 (fun k_ hk_ => (Kd.fresh' (Kd.N_lt (wN_ HO279.out)) k_ hk_))) (below_size (wb_ HB.out))); have n2_ := A0_ (below_step (wb_ HB.out) hb); clear HO279; clear HB; have HO279 := n0_; have HO282 := n1_; have HB := n2_; clear n0_ n1_ n2_; (try clear hb); (try clear hb2); (try clear hk); (try clear hi); (try clear ho0)) | ((with_reducible refine gate_dst (N := 4) rfl ?_); (try (refine gate_guard (by rfl) ?_; dsimp only)); refine box_event ?hg (N := 4) ?hd (cs := #[.int .i64 0, .int .i64 0]) (t := 27) ?hr ?_; (case hd => rfl); (case hg => rfl); (case hr => first | (go_simp; done) | (go_simp; rfl)); intro gb285 hg w17 hbox hb; have n0_ := A0_ (Kd.N_below (Kd.N_elderB (wN_ HO279.out) gb285 (Nat.le_of_eq hg.symm)) hb); have n1_ := A0_ (Vb_ (Kd.V_elderB (wV_ HO282.out) gb285 (Nat.le_of_eq hg.symm)) hb); have n2_ := A0_ (below_step (wb_ HB.out) hb); have n3_ := A0_ (hbox); have n4_ := A0_ ((by rw [hg]; exact (below_size (wb_ HB.out)) : w.heap.size ≤ gb285)); have n5_ := A0_ ((by rw [hg]; exact (below_size (wb_ HB.out)) : w.heap.size ≤ gb285)); clear HO279; clear HO282; clear HB; have HO279 := n0_; have HO282 := n1_; have HB := n2_; have BK285 := n3_; have GW285 := n4_; have GE285 := n5_; clear n0_ n1_ n2_ n3_ n4_ n5_; clear hb hbox hg; have hcz18_0 : w17.cell? ⟨gb285, 0, none⟩ = some (.int .i64 0) := (bc_ BK285.out 0).trans rfl; have hcz18_1 : w17.cell? ⟨gb285, 1, none⟩ = some (.int .i64 0) := (bc_ BK285.out 1).trans rfl; have hfz18_0 := bf_ BK285.out 0; have hfz18_1 := bf_ BK285.out 1) | ((with_reducible refine gate_callee (f := 9) rfl ?_); refine goesL_ (some 19) rfl rfl Tryz.func9 (by kernel_rfl) rfl #[.slice A0 l0.length c0] rfl wm_ ?_; (with_reducible refine (bindleref08_Fold.calls _ _ l0 t286 t289 t290 _ ?side1 ?side2 A6.out).mono ?_); (case side1 => exact Kd.C_below HR0.out (wb1_ HB.out GE285.out)); (case side2 => exact HC0.out); rintro e w19 ⟨v287, rfl, ho0, hb⟩; refine ⟨_, rfl, ?_⟩; have n0_ := A0_ (Kd.N_below (by (with_reducible repeat (first | apply Kd.N_alloc | apply Kd.N_drewN | apply Kd.N_drew)); exact (Kd.N_mono (Kd.N_far (p := ⟨gb285, 1, none⟩) (Kd.N_far (p := ⟨gb285, 0, none⟩) (Kd.N_mono HO279.out (fun k_ hk => (⟨hk, hk.2⟩ : _ ∧ k_ ≠ gb285))) (fun _ hk => hk.2) (.int .i64 t283)) (fun _ hk => hk.2) (.int .i64 t284)) (fun _ h_ => h_.1))) hb); have n1_ := A0_ (Vb_ (by (with_reducible repeat (first | apply Va_ | apply VN_ | apply V1_)); exact (Kd.V_mono (Kd.V_far (p := ⟨gb285, 1, none⟩) (Kd.V_far (p := ⟨gb285, 0, none⟩) (Kd.V_mono HO282.out (fun k_ hk => (⟨hk, hk.2⟩ : _ ∧ k_ ≠ gb285))) (fun _ hk => hk.2) (.int .i64 t283)) (fun _ hk => hk.2) (.int .i64 t284)) (fun _ h_ => h_.1))) hb); have n2_ := A0_ (Kd.V_lower (Kd.V_mono (ok' := fun k_ => some k_ ≠ (.slice Ao15 t277.length co15 : Value).ownBlock ∧ k_ ≠ gb285) ho0 (fun k_ hk_ => ⟨(Kd.fresh' (Kd.N_lt (by (with_reducible repeat (first | apply Kd.N_alloc | apply Kd.N_drewN | apply Kd.N_drew)); exact (Kd.N_mono (Kd.N_far (p := ⟨gb285, 1, none⟩) (Kd.N_far (p := ⟨gb285, 0, none⟩) (Kd.N_mono HO279.out (fun k_ hk => (⟨hk, hk.2⟩ : _ ∧ k_ ≠ gb285))) (fun _ hk => hk.2) (.int .i64 t283)) (fun _ hk => hk.2) (.int .i64 t284)) (fun _ h_ => h_.1)))) k_ hk_), (Kd.freshB (g := gb285) (o := .cells #[.int .i64 t283, .int .i64 t284] 27 (0, 0)) (by (with_reducible repeat (first | refine blk_drewN ?_ _ | refine blk_drew ?_ | refine blk_alloc ?_ _)); refine blk_put (cs := #[.int .i64 t283, .int .i64 0]) ?_ 1 _ rfl; (with_reducible repeat (first | refine blk_drewN ?_ _ | refine blk_drew ?_ | refine blk_alloc ?_ _)); refine blk_put (cs := #[.int .i64 0, .int .i64 0]) ?_ 0 _ rfl; (with_reducible repeat (first | refine blk_drewN ?_ _ | refine blk_drew ?_ | refine blk_alloc ?_ _)); exact BK285.out) k_ hk_)⟩)) (below_size (wb1_ HB.out GE285.out))); have n3_ := A0_ (blk_below (g := gb285) (o := .cells #[.int .i64 t283, .int .i64 t284] 27 (0, 0)) (by (with_reducible repeat (first | refine blk_drewN ?_ _ | refine blk_drew ?_ | refine blk_alloc ?_ _)); refine blk_put (cs := #[.int .i64 t283, .int .i64 0]) ?_ 1 _ rfl; (with_reducible repeat (first | refine blk_drewN ?_ _ | refine blk_drew ?_ | refine blk_alloc ?_ _)); refine blk_put (cs := #[.int .i64 0, .int .i64 0]) ?_ 0 _ rfl; (with_reducible repeat (first | refine blk_drewN ?_ _ | refine blk_drew ?_ | refine blk_alloc ?_ _)); exact BK285.out) hb); have n4_ := A0_ (below_step (wb1_ HB.out GE285.out) hb); clear HO279; clear HO282; clear BK285; clear HB; have HO279 := n0_; have HO282 := n1_; have HO288 := n2_; have BK285 := n3_; have HB := n4_; clear n0_ n1_ n2_ n3_ n4_; (try clear hb); (try clear hb2); (try clear hk); (try clear hi); (try clear ho0)) | ((with_reducible refine gate_dst (N := 6) rfl ?_); (try (refine gate_guard (by rfl) ?_; dsimp only)); refine box_event ?hg (N := 6) ?hd (cs := #[.int .i64 0, .int .i64 0]) (t := 27) ?hr ?_; (case hd => rfl); (case hg => rfl); (case hr => first | (go_simp; done) | (go_simp; rfl)); intro gb291 hg w20 hbox hb; have n0_ := A0_ (Kd.N_below (Kd.N_elderB (wN_ HO279.out) gb291 (Nat.le_of_eq hg.symm)) hb); have n1_ := A0_ (Vb_ (Kd.V_elderB (wV_ HO282.out) gb291 (Nat.le_of_eq hg.symm)) hb); have n2_ := A0_ (Vb_ (Kd.V_elderB (wV_ HO288.out) gb291 (Nat.le_of_eq hg.symm)) hb); have n3_ := A0_ (blk_below (g := gb285) (o := .cells #[.int .i64 t283, .int .i64 t284] 27 (0, 0)) (wB_ BK285.out) hb); have n4_ := A0_ (below_step (wb1_ HB.out GE285.out) hb); have n5_ := A0_ (hbox); have n6_ := A0_ ((by rw [hg]; exact (below_size (wb1_ HB.out GE285.out)) : w.heap.size ≤ gb291)); have n7_ := A0_ ((by rw [hg]; exact (below_size (wb1_ HB.out GE285.out)) : w.heap.size ≤ gb291)); have n8_ := A0_ ((by rw [hg]; exact Nat.ne_of_lt (blk_lt (g := gb285) (o := .cells #[.int .i64 t283, .int .i64 t284] 27 (0, 0)) (wB_ BK285.out)) : gb285 ≠ gb291)); have n9_ := A0_ ((by rw [hg]; exact Nat.ne_of_gt (blk_lt (g := gb285) (o := .cells #[.int .i64 t283, .int .i64 t284] 27 (0, 0)) (wB_ BK285.out)) : gb291 ≠ gb285)); clear HO279; clear HO282; clear HO288; clear BK285; clear HB; have HO279 := n0_; have HO282 := n1_; have HO288 := n2_; have BK285 := n3_; have HB := n4_; have BK291 := n5_; have GW291 := n6_; have GE291 := n7_; have NB285_291 := n8_; have NB291_285 := n9_; clear n0_ n1_ n2_ n3_ n4_ n5_ n6_ n7_ n8_ n9_; clear hb hbox hg; have hnb21 := NB291_285.out; have hnc21 := NB285_291.out; have hcz22_0 : w20.cell? ⟨gb291, 0, none⟩ = some (.int .i64 0) := (bc_ BK291.out 0).trans rfl; have hcz22_1 : w20.cell? ⟨gb291, 1, none⟩ = some (.int .i64 0) := (bc_ BK291.out 1).trans rfl; have hfz22_0 := bf_ BK291.out 0; have hfz22_1 := bf_ BK291.out 1) | ((with_reducible refine gate_callee (f := 7) rfl ?_); refine goesL_ (some 36) rfl rfl Tryz.func7 (by kernel_rfl) rfl #[] rfl wm_ ?_; (with_reducible refine (bindlelaw18_answers.calls  true _ ?side1 A8.out).mono ?_); (case side1 => exact A0_ (Tabs.below hT.out (wb2_ HB.out GE285.out GE291.out))); rintro e w23 ⟨rfl, hb⟩; refine ⟨_, rfl, ?_⟩; have n0_ := A0_ (Kd.N_below (by (with_reducible repeat (first | apply Kd.N_alloc | apply Kd.N_drewN | apply Kd.N_drew)); exact (Kd.N_mono (Kd.N_far (p := ⟨gb291, 1, none⟩) (Kd.N_far (p := ⟨gb291, 0, none⟩) (Kd.N_mono HO279.out (fun k_ hk => (⟨hk, hk.2⟩ : _ ∧ k_ ≠ gb291))) (fun _ hk => hk.2) (.int .i64 t289)) (fun _ hk => hk.2) (.int .i64 t290)) (fun _ h_ => h_.1))) hb); have n1_ := A0_ (Vb_ (by (with_reducible repeat (first | apply Va_ | apply VN_ | apply V1_)); exact (Kd.V_mono (Kd.V_far (p := ⟨gb291, 1, none⟩) (Kd.V_far (p := ⟨gb291, 0, none⟩) (Kd.V_mono HO282.out (fun k_ hk => (⟨hk, hk.2⟩ : _ ∧ k_ ≠ gb291))) (fun _ hk => hk.2) (.int .i64 t289)) (fun _ hk => hk.2) (.int .i64 t290)) (fun _ h_ => h_.1))) hb); have n2_ := A0_ (Vb_ (by (with_reducible repeat (first | apply Va_ | apply VN_ | apply V1_)); exact (Kd.V_mono (Kd.V_far (p := ⟨gb291, 1, none⟩) (Kd.V_far (p := ⟨gb291, 0, none⟩) (Kd.V_mono HO288.out (fun k_ hk => (⟨hk, hk.2⟩ : _ ∧ k_ ≠ gb291))) (fun _ hk => hk.2) (.int .i64 t289)) (fun _ hk => hk.2) (.int .i64 t290)) (fun _ h_ => h_.1))) hb); have n3_ := A0_ (blk_below (g := gb285) (o := .cells #[.int .i64 t283, .int .i64 t284] 27 (0, 0)) (by (with_reducible repeat (first | refine blk_drewN ?_ _ | refine blk_drew ?_ | refine blk_alloc ?_ _)); refine blk_far ?_ NB285_291.out _; (with_reducible repeat (first | refine blk_drewN ?_ _ | refine blk_drew ?_ | refine blk_alloc ?_ _)); refine blk_far ?_ NB285_291.out _; (with_reducible repeat (first | refine blk_drewN ?_ _ | refine blk_drew ?_ | refine blk_alloc ?_ _)); exact BK285.out) hb); have n4_ := A0_ (blk_below (g := gb291) (o := .cells #[.int .i64 t289, .int .i64 t290] 27 (0, 0)) (by (with_reducible repeat (first | refine blk_drewN ?_ _ | refine blk_drew ?_ | refine blk_alloc ?_ _)); refine blk_put (cs := #[.int .i64 t289, .int .i64 0]) ?_ 1 _ rfl; (with_reducible repeat (first | refine blk_drewN ?_ _ | refine blk_drew ?_ | refine blk_alloc ?_ _)); refine blk_put (cs := #[.int .i64 0, .int .i64 0]) ?_ 0 _ rfl; (with_reducible repeat (first | refine blk_drewN ?_ _ | refine blk_drew ?_ | refine blk_alloc ?_ _)); exact BK291.out) hb); have n5_ := A0_ (below_step (wb2_ HB.out GE285.out GE291.out) hb); clear HO279; clear HO282; clear HO288; clear BK285; clear BK291; clear HB; have HO279 := n0_; have HO282 := n1_; have HO288 := n2_; have BK285 := n3_; have BK291 := n4_; have HB := n5_; clear n0_ n1_ n2_ n3_ n4_ n5_; (try clear hb); (try clear hb2); (try clear hk); (try clear hi); have hcz24_0 : w23.cell? ⟨gb285, 0, none⟩ = some (.int .i64 t283) := (bc_ BK285.out 0).trans rfl; have hcz24_1 : w23.cell? ⟨gb285, 1, none⟩ = some (.int .i64 t284) := (bc_ BK285.out 1).trans rfl; have hfz24_0 := bf_ BK285.out 0; have hfz24_1 := bf_ BK285.out 1; have hcz25_0 : w23.cell? ⟨gb291, 0, none⟩ = some (.int .i64 t289) := (bc_ BK291.out 0).trans rfl; have hcz25_1 : w23.cell? ⟨gb291, 1, none⟩ = some (.int .i64 t290) := (bc_ BK291.out 1).trans rfl; have hfz25_0 := bf_ BK291.out 0; have hfz25_1 := bf_ BK291.out 1) | (go_at_call 14; (with_reducible refine (bindleref18_Order.calls k _ _ l0 t294 _ ?side1 ?side2 A11.out).mono ?_); (case side1 => exact wc_ (Kd.C_below HR0.out HB.out)); (case side2 => exact HC0.out); rintro e w26 ⟨v295, rfl, ho0, hb⟩; have n0_ := A0_ (Kd.N_elder' (wN_ HO279.out) (Kd.R_base ho0) hb); have n1_ := A0_ (Kd.V_elder' (wV_ HO282.out) (Kd.R_base ho0) hb); have n2_ := A0_ (Kd.V_elder' (wV_ HO288.out) (Kd.R_base ho0) hb); have n3_ := A0_ (Kd.R_lower ho0 (below_size (wb2_ HB.out GE285.out GE291.out))); have n4_ := A0_ (blk_below (g := gb285) (o := .cells #[.int .i64 t283, .int .i64 t284] 27 (0, 0)) (wB_ BK285.out) hb); have n5_ := A0_ (blk_below (g := gb291) (o := .cells #[.int .i64 t289, .int .i64 t290] 27 (0, 0)) (wB_ BK291.out) hb); have n6_ := A0_ (below_step (wb2_ HB.out GE285.out GE291.out) hb); clear HO279; clear HO282; clear HO288; clear BK285; clear BK291; clear HB; have HO279 := n0_; have HO282 := n1_; have HO288 := n2_; have HO296 := n3_; have BK285 := n4_; have BK291 := n5_; have HB := n6_; clear n0_ n1_ n2_ n3_ n4_ n5_ n6_; (try clear hb); (try clear hb2); (try clear hk); (try clear hi); (try clear ho0); obtain ⟨Ao27, co27, eo27⟩ := Kd.V_slice HO288.out; subst eo27; obtain ⟨Ao28, co28, eo28⟩ := Kd.R_slice HO296.out; subst eo28) | (go_at_call 13; (with_reducible refine (bindleref08_Members.calls k (fun k_ => (((some k_ ≠ (.slice Ao15 t277.length co15 : Value).ownBlock ∧ k_ ≠ gb285) ∧ k_ ≠ gb291) ∧ some k_ ≠ (.slice Ao28 t294.length co28 : Value).ownBlock)) _ _ t286 _ _ t294 t297 _ ?side1 ?side2 ?side3 A12.out).mono ?_); (case side1 => exact HO288.out); (case side2 => exact wc_ (Kd.R_reads' HO296.out).2.2); (case side3 => exact (Kd.R_reads' HO296.out).2.1); rintro e w29 ⟨v298, rfl, ho0, hb⟩; have n0_ := A0_ (Kd.N_elder' (wN_ HO279.out) (Kd.N_base ho0) hb); have n1_ := A0_ (Kd.V_elder' (wV_ HO282.out) (Kd.N_base ho0) hb); have n2_ := A0_ (Kd.V_elder' (wV_ HO288.out) (Kd.N_base ho0) hb); have n3_ := A0_ (Rb_ (wR_ HO296.out) hb); have n4_ := A0_ (Kd.N_lower (Kd.N_mono (ok' := fun k_ => some k_ ≠ (.slice Ao15 t277.length co15 : Value).ownBlock ∧ some k_ ≠ (.slice Ao28 t294.length co28 : Value).ownBlock ∧ k_ ≠ gb285 ∧ k_ ≠ gb291) ho0 (fun k_ hk_ => ⟨Or.elim hk_ (fun hs_ => hs_.1.1.1) (fun hn_ => (Kd.fresh' (Kd.N_lt (wN_ HO279.out)) k_ hn_)), Or.elim hk_ (fun hs_ => hs_.2) (fun hn_ => (Kd.fresh' (Kd.R_lt (wR_ HO296.out)) k_ hn_)), Or.elim hk_ (fun hs_ => hs_.1.1.2) (fun hn_ => (Kd.freshB (g := gb285) (o := .cells #[.int .i64 t283, .int .i64 t284] 27 (0, 0)) (wB_ BK285.out) k_ hn_)), Or.elim hk_ (fun hs_ => hs_.1.2) (fun hn_ => (Kd.freshB (g := gb291) (o := .cells #[.int .i64 t289, .int .i64 t290] 27 (0, 0)) (wB_ BK291.out) k_ hn_))⟩)) (below_size (wb2_ HB.out GE285.out GE291.out))); have n5_ := A0_ (blk_below (g := gb285) (o := .cells #[.int .i64 t283, .int .i64 t284] 27 (0, 0)) (wB_ BK285.out) hb); have n6_ := A0_ (blk_below (g := gb291) (o := .cells #[.int .i64 t289, .int .i64 t290] 27 (0, 0)) (wB_ BK291.out) hb); have n7_ := A0_ (below_step (wb2_ HB.out GE285.out GE291.out) hb); clear HO279; clear HO282; clear HO288; clear HO296; clear BK285; clear BK291; clear HB; have HO279 := n0_; have HO282 := n1_; have HO288 := n2_; have HO296 := n3_; have HO299 := n4_; have BK285 := n5_; have BK291 := n6_; have HB := n7_; clear n0_ n1_ n2_ n3_ n4_ n5_ n6_ n7_; (try clear hb); (try clear hb2); (try clear hk); (try clear hi); (try clear ho0); obtain ⟨Ao30, co30, eo30⟩ := Kd.V_slice HO282.out; subst eo30; obtain ⟨Ao31, co31, eo31⟩ := Kd.N_slice HO299.out; subst eo31) | (go_at_call 12; (with_reducible refine (bindleref08_SameAll.calls k _ _ t280 _ _ t297 t300 _ ?side1 ?side2 ?side3 ?side4 A13.out).mono ?_); (case side1 => exact wc_ (Kd.V_reads' HO282.out).2.2); (case side2 => exact (Kd.V_reads' HO282.out).2.1); (case side3 => exact wc_ (Kd.N_reads' HO299.out).2.2); (case side4 => exact (Kd.N_reads' HO299.out).2.1); rintro e w32 ⟨rfl, hb⟩; have n0_ := A0_ (Kd.N_below (wN_ HO279.out) hb); have n1_ := A0_ (Vb_ (wV_ HO282.out) hb); have n2_ := A0_ (Vb_ (wV_ HO288.out) hb); have n3_ := A0_ (Rb_ (wR_ HO296.out) hb); have n4_ := A0_ (Kd.N_below (wN_ HO299.out) hb); have n5_ := A0_ (blk_below (g := gb285) (o := .cells #[.int .i64 t283, .int .i64 t284] 27 (0, 0)) (wB_ BK285.out) hb); have n6_ := A0_ (blk_below (g := gb291) (o := .cells #[.int .i64 t289, .int .i64 t290] 27 (0, 0)) (wB_ BK291.out) hb); have n7_ := A0_ (below_step (wb2_ HB.out GE285.out GE291.out) hb); clear HO279; clear HO282; clear HO288; clear HO296; clear HO299; clear BK285; clear BK291; clear HB; have HO279 := n0_; have HO282 := n1_; have HO288 := n2_; have HO296 := n3_; have HO299 := n4_; have BK285 := n5_; have BK291 := n6_; have HB := n7_; clear n0_ n1_ n2_ n3_ n4_ n5_ n6_ n7_; (try clear hb); (try clear hb2); (try clear hk); (try clear hi)))
 go_ret
 exact ⟨we_, wb2_ HB.out GE285.out GE291.out⟩
end Go.Proofs.YtiijbmaamblidaaGreatDoor.Print

namespace Go.Proofs.YtiijbmaamblidaaGreatDoor.Print
open Go.RowKit Go.Proofs.YtiijbmaamblidaaGreatDoorW.PrintWords Go.Proofs.YtiijbmaamblidaaGreatDoorW.PrintLast Go.Proofs.YtiijbmaamblidaaGreatDoorW.PrintMore
attribute [local go_sem] max2_int min2_int max_two min_two max_three min_three max_four min_four   -- for this text's walks alone
set_option linter.unusedVariables false
set_option linter.unusedSimpArgs false
end Go.Proofs.YtiijbmaamblidaaGreatDoor.Print

namespace Go.Proofs.YtiijbmaamblidaaGreatDoor
open Go.RowKit Go.Proofs.YtiijbmaamblidaaGreatDoor.Print Go.Proofs.YtiijbmaamblidaaGreatDoorW.PrintWords
set_option linter.unusedVariables false
theorem rfold_f {l : List Mem} (hz : MemsZ l) : bindleref08_Fold.f l = some (foldF l) := by
 unfold bindleref08_Fold.f
 rw [if_pos ((memsZ_iff l).2 hz)]
theorem fold_at {l : List Mem} (hz : MemsZ l) (h0 : (foldF l).2.1 = 0) : (foldF l).2.2 = 0 := by
 obtain ⟨_, s, _, _, hf⟩ := fold_ok hz h0
 rw [hf]
theorem FlatFlattens_true (l : List Mem) (hz : ∀ x ∈ l, MemR x) (hlen : l.length ≤ 140737488351232) : Ev (fun k => bindlelaw18_FlatFlattens.f k l) true := by
 obtain ⟨b, h1, h2⟩ := light18_eq l hz hlen
 unfold bindlelaw18_FlatFlattens.f
 refine Ev.bind h1 ?_
 cases b with
 | false => exact Ev.congr (f := fun _ => some true) (fun k => by rw [if_neg (by decide), bindlelaw18_answers.val]; rfl) (Ev.now _)
 | true =>
  obtain ⟨h60, hmz, _⟩ := h2 rfl
  refine Ev.congr (fun k => by rw [if_pos rfl]) ?_
  refine Ev.bind (own_is l h60 (fun x hx => by
   obtain ⟨i, hi, rfl⟩ := List.getElem_of_mem hx
   have h3 := sumTo_succ hi
   have h4 := sumTo_le (l := l) (i := i + 1) (j := l.length) (by omega) (Nat.le_refl _)
   have hsz : sizeM l[i] = l[i].f4.length + l[i].f0.size + l[i].f1.size := rfl
   have h5 := (h2 rfl).2.2
   omega)) ?_
  refine Ev.congr (fun k => by rw [flatten_f hmz (by omega), Option.bind_some, rfold_f hmz, Option.bind_some]) ?_
  by_cases h0 : (foldF l).2.1 = 0
  ·have H := flat_ok hmz (by omega) h0
   have hn := fold_at hmz h0
   have e1 : (flatF l).2.1 = 0 := by rw [H.is]
   have e2 : (flatF l).2.2 = 0 := by rw [H.is]
   refine Ev.congr (fun k => by rw [if_pos h0, bindlelaw18_answers.val, Option.bind_some, if_pos rfl, e1, e2, h0, hn, if_pos (by rfl)]) ?_
   refine Ev.bind (rorder_eq l h60) ?_
   refine Ev.bind (refMembers_eq (foldF l).1 (orderF l) H.nodes.1.1 H.zero) ?_
   have e3 : (flatF l).1 = (membersF (foldF l).1 (orderF l)).1 := by rw [H.is]
   rw [e3]
   have hl : (membersF (foldF l).1 (orderF l)).1.length ≤ 1000000000000 := by rw [← e3]; exact H.z.1
   refine Ev.bind (sameAll_refl _ hl) (Ev.now true)
  ·have e1 : (flatF l).2.1 = (foldF l).2.1 := by rw [flat_bad h0]
   have e2 : (flatF l).2.2 = (foldF l).2.2 := by rw [flat_bad h0]
   have e3 : (flatF l).1 = [] := by rw [flat_bad h0]
   refine Ev.congr (f := fun _ => some true) (fun k => ?_) (Ev.now _)
   rw [if_neg h0, bindlelaw18_answers.val, Option.bind_some, if_pos rfl, e1, e2, e3, if_pos (by simp)]
   rfl
end Go.Proofs.YtiijbmaamblidaaGreatDoor

namespace Go.Proofs.YtiijbmaamblidaaGreatDoor
open Go.RowKit Go.Lib Go.Proofs.YtiijbmaamblidaaGreatDoorW.PrintWords
theorem laidOut : laidOutB Tryz.prog = true := by kernel_rfl
end Go.Proofs.YtiijbmaamblidaaGreatDoor

namespace Go.Proofs.YtiijbmaamblidaaGreatDoor
open Go.ChangeShapes Go.WideShapes Go.RowKit Go.Proofs.YtiijbmaamblidaaGreatDoorW.PrintWords
structure Opens {α : Type} (P : Program) (d : Kd α) (t : TypeId) (B : α → Prop) : Prop where
 sz : P.cellsOf t = d.sz
 get : ∀ {H : Type} {enc : TypeId × Value → H} {W : World} {fuel : Nat} {cs : List Value} {x : DataW H × List MemPlace},
  DataW.trod enc P W 0 (fun _ => true) true fuel t cs = some x → (∀ n ∈ x.1.weights P t, n ≤ reachBytes) → ∃ a, d.K W a cs ∧ B a
theorem Opens.int {P : Program} {t : TypeId} {k : IntKind} (ht : P.underlying t = some (.int k)) (hc : P.cellsOf t = 1) : Opens P (Kd.int k) t (fun n => (Lit.int k n).wf = true) :=
 ⟨hc, fun h _ => by
  obtain ⟨n, rfl, rfl, hw⟩ := DataW.trod_int ht h
  exact ⟨n, rfl, hw⟩⟩
theorem Opens.bool {P : Program} {t : TypeId} (ht : P.underlying t = some .bool) (hc : P.cellsOf t = 1) : Opens P Kd.bool t (fun _ => True) :=
 ⟨hc, fun h _ => by
  obtain ⟨n, rfl, rfl⟩ := DataW.trod_bool ht h
  exact ⟨n, rfl, trivial⟩⟩
theorem Opens.string {P : Program} {t : TypeId} (ht : P.underlying t = some .string) (hc : P.cellsOf t = 1) : Opens P Kd.string t (fun s => s.size ≤ 140737488351232) :=
 ⟨hc, fun h hw => by
  obtain ⟨s, rfl, rfl, _⟩ := DataW.trod_string ht h
  refine ⟨s, rfl, ?_⟩
  have := hw s.data.toList.length (by simp [DataW.weights])
  have e : s.data.toList.length = s.size := by simp
  rw [e] at this
  exact this⟩
theorem each_list {α : Type} {Q : Nat → α → Prop} : ∀ n : Nat, (∀ i, i < n → ∃ x, Q i x) → ∃ xs : List α, xs.length = n ∧ ∀ i x, xs[i]? = some x → Q i x := by
 intro n
 induction n with
 | zero => exact fun _ => ⟨[], rfl, fun i x h => by simp at h⟩
 | succ n ih =>
  intro h
  obtain ⟨xs, hl, hx⟩ := ih (fun i hi => h i (by omega))
  obtain ⟨y, hy⟩ := h n (by omega)
  refine ⟨xs ++ [y], by simp [hl], fun i x hi => ?_⟩
  rcases Nat.lt_or_ge i n with h1 | h1
  ·rw [List.getElem?_append_left (by omega)] at hi
   exact hx i x hi
  ·rw [List.getElem?_append_right (by omega)] at hi
   have h0 : i - xs.length = 0 := by
    have := (List.getElem?_eq_some_iff.1 hi).1
    simp at this
    omega
   rw [h0] at hi
   simp at hi
   subst hi
   obtain rfl : i = n := by omega
   exact hy
theorem weights_all {H : Type} {P : Program} {e : TypeId} : ∀ {l : List (DataW H)} {y : DataW H}, y ∈ l → ∀ n ∈ y.weights P e, n ∈ DataW.weightsAll P e l
 | z :: r, y, hy, n, hn => by
  simp only [DataW.weightsAll, List.mem_append]
  rcases List.mem_cons.1 hy with rfl | hy
  ·exact .inl hn
  ·exact .inr (weights_all hy n hn)
theorem add_add (a : Addr) (x y : Nat) : (a.add x).add y = a.add (x + y) := by
 unfold Addr.add
 split
 ·rename_i h
  subst h
  simp
 ·rename_i h
  split
  ·rename_i h2
   subst h2
   simp [h]
  ·rw [if_neg (by omega)]
   simp [Nat.add_assoc]
theorem Opens.slice {α : Type} {P : Program} {d : Kd α} {B : α → Prop} {t e : TypeId} (ht : P.underlying t = some (.slice e)) (hc : P.cellsOf t = 1) (h : Opens P d e B) :
  Opens P (Kd.slice e d) t (fun xs => xs.length * P.bytesOf e ≤ 140737488351232 ∧ ∀ x ∈ xs, B x) :=
 ⟨hc, fun {H enc W fuel cs x} hf hw => by
  rcases DataW.trod_slice ht hf with ⟨rfl, rfl⟩ | ⟨a, len, cap, elems, rest, n, _, rfl, rfl, hb, hl, hm, hlen, hel, hsp, hns⟩
  ·exact ⟨[], ⟨none, 0, rfl, Nat.le_refl _, Kd.C_nil d W⟩, by simp, fun x hx => by cases hx⟩
  ·simp only [DataW.weights, ht] at hw
   have each : ∀ i, i < len → ∃ z : α, B z ∧ ∃ c, c.length = d.sz ∧ d.K W z c ∧ ∀ j u, c[j]? = some u → W.cell? (a.add (i * d.sz + j)) = some u := by
    intro i hi
    have h1 := hel i hi
    have hi' : i < elems.length := by omega
    rw [List.getElem?_eq_getElem hi', Option.bind_eq_some_iff] at h1
    obtain ⟨c, hcs, hy⟩ := h1
    obtain ⟨-, h2, h3⟩ := World.cells?_some hcs
    obtain ⟨z, hz, hB⟩ := h.get hy (fun n hn => hw n (by
     simp only [List.mem_cons, List.mem_append]
     exact .inr (.inl (weights_all (List.mem_map.2 ⟨_, List.getElem_mem hi', rfl⟩) n hn))))
    refine ⟨z, hB, c, by rw [h2, h.sz], hz, fun j u hj => ?_⟩
    have hj' : j < P.cellsOf e := by
     have := (List.getElem?_eq_some_iff.1 hj).1
     omega
    have h4 := h3 j hj'
    rw [add_add, h.sz] at h4
    rw [h4, hj]
   obtain ⟨xs, hxl, hxs⟩ := each_list len each
   subst hxl
   have hz := hw _ (List.mem_cons_self ..)
   simp only [List.length_map] at hz
   have h5 : xs.length * P.bytesOf e ≤ (elems.length + rest.length) * P.bytesOf e := Nat.mul_le_mul_right _ (by omega)
   have h6 : reachBytes = 140737488351232 := rfl
   refine ⟨xs, ⟨some a, cap, rfl, hl, rfl, ?_, fun _ => ⟨a, rfl, fun j p hj => (hxs j p hj).2⟩⟩, by omega, fun x hx => ?_⟩
   ·have : maxLen = 9223372036854775807 := rfl
    omega
   ·obtain ⟨i, hi⟩ := List.getElem?_of_mem hx
    exact (hxs i x hi).1⟩
structure OpensF {α : Type} (P : Program) (d : Kd α) (fs : List Field) (o : Nat) (B : α → Prop) : Prop where
 get : ∀ {H : Type} {enc : TypeId × Value → H} {W : World} {n : Nat} {cs : List Value} {xs : List (DataW H × List MemPlace)}, xs.length = fs.length →
  (∀ (i : Nat) (f : Field), fs[i]? = some f → DataW.trod enc P W 0 (fun _ => true) true n f.type ((cs.drop f.offset).take (P.cellsOf f.type)) = xs[i]?) →
  (∀ m ∈ DataW.weightsEach P (fs.map (·.type)) (xs.map (·.1)), m ≤ reachBytes) → ∃ a, d.K W a ((cs.drop o).take d.sz) ∧ B a
theorem OpensF.one {α : Type} {P : Program} {d : Kd α} {B : α → Prop} {f : Field} {o : Nat} (ho : f.offset = o) (h : Opens P d f.type B) : OpensF P d [f] o B := by
 refine ⟨fun {H enc W n cs xs} hl hx hw => ?_⟩
 match xs, hl with
 | [x], _ =>
  have h0 := hx 0 f rfl
  rw [h.sz, ho] at h0
  simp only [List.getElem?_cons_zero] at h0
  exact h.get h0 (fun m hm => hw m (by simp only [List.map_cons, List.map_nil, DataW.weightsEach, List.mem_append]; exact .inl hm))
theorem OpensF.cons {α β : Type} {P : Program} {d : Kd α} {d' : Kd β} {B : α → Prop} {B' : β → Prop} {f : Field} {fs : List Field} {o : Nat} (ho : f.offset = o) (h : Opens P d f.type B) (h' : OpensF P d' fs (o + d.sz) B') :
  OpensF P (Kd.pair d d') (f :: fs) o (fun x => B x.1 ∧ B' x.2) := by
 refine ⟨fun {H enc W n cs xs} hl hx hw => ?_⟩
 match xs, hl with
 | x :: xs, hl =>
  have h0 := hx 0 f rfl
  rw [h.sz, ho] at h0
  simp only [List.getElem?_cons_zero] at h0
  obtain ⟨a, ha, hB⟩ := h.get h0 (fun m hm => hw m (by simp only [List.map_cons, DataW.weightsEach, List.mem_append]; exact .inl hm))
  obtain ⟨b, hb, hB'⟩ := h'.get (enc := enc) (W := W) (n := n) (cs := cs) (xs := xs) (by simpa using hl) (fun i g hg => by have := hx (i + 1) g (by simpa using hg); simpa using this)
   (fun m hm => hw m (by simp only [List.map_cons, DataW.weightsEach, List.mem_append]; exact .inr hm))
  refine ⟨(a, b), ⟨_, _, ?_, ha, hb⟩, hB, hB'⟩
  show (cs.drop o).take (d.sz + d'.sz) = _
  rw [List.take_add, List.drop_drop]
theorem Opens.struct {α β : Type} {P : Program} {d : Kd α} {B : α → Prop} {t : TypeId} {fs : Array Field} (ht : P.underlying t = some (.struct fs)) (hc : P.cellsOf t = d.sz) (h : OpensF P d fs.toList 0 B) (f : β → α) (g : α → β) (hg : ∀ a, f (g a) = a) :
  Opens P (Kd.iso d f) t (fun x => B (f x)) :=
 ⟨hc, fun {H enc W fuel cs x} hf hw => by
  obtain ⟨xs, n, _, rfl, hl, hlen, hx⟩ := DataW.trod_struct ht hf
  simp only [DataW.weights, ht] at hw
  obtain ⟨a, ha, hB⟩ := h.get (enc := enc) (W := W) (n := n) (cs := cs) (xs := xs) (by simpa using hlen) (fun i g hg => hx i g (by simpa using hg)) hw
  refine ⟨g a, ?_, by rw [hg]; exact hB⟩
  show d.K W (f (g a)) cs
  rw [hg]
  rw [List.drop_zero, List.take_of_length_le (by omega)] at ha
  exact ha⟩
theorem Opens.imp {α : Type} {P : Program} {d : Kd α} {t : TypeId} {B B' : α → Prop} (h : Opens P d t B) (hB : ∀ a, B a → B' a) : Opens P d t B' :=
 ⟨h.sz, fun hf hw => by obtain ⟨a, ha, hb⟩ := h.get hf hw; exact ⟨a, ha, hB a hb⟩⟩
theorem Opens.param {α : Type} {P : Program} {d : Kd α} {t : TypeId} {B : α → Prop} (h : Opens P d t B) {H : Type} {enc : TypeId × Value → H} {W : World} {v : Value} {x : DataW H} {p : List MemPlace} {ts : List TypeId} {ds : List (DataW H)} {j : Nat}
  (hsz : (DataW.weightsEach P ts ds).all (· ≤ reachBytes) = true) (hj : ts[j]? = some t) (hd : ds[j]? = some x) (ht : DataW.Trod enc P W 0 (fun _ => true) true t v x p) : ∃ a, d.K W a v.cells.toList ∧ B a := by
 obtain ⟨fuel, hf⟩ := ht
 exact h.get hf (fun n hn => by simpa using List.all_eq_true.1 hsz _ (DataW.weights_mem_each hj hd n hn))
theorem Opens.row {α : Type} {P : Program} {d : Kd α} {t e : TypeId} {B : List α → Prop} (h : Opens P (Kd.slice e d) t B) {H : Type} {enc : TypeId × Value → H} {W : World} {A : Option Addr} {n c : Nat} {x : DataW H} {p : List MemPlace} {ts : List TypeId} {ds : List (DataW H)} {j : Nat}
  (hsz : (DataW.weightsEach P ts ds).all (· ≤ reachBytes) = true) (hj : ts[j]? = some t) (hd : ds[j]? = some x) (ht : DataW.Trod enc P W 0 (fun _ => true) true t (.slice A n c) x p) :
  ∃ xs : List α, xs.length = n ∧ d.C W A n xs ∧ n ≤ c ∧ B xs := by
 obtain ⟨xs, ⟨A', c', he, hl, hC⟩, hB⟩ := h.param hsz hj hd ht
 simp [Value.cells] at he
 obtain ⟨rfl, rfl, rfl⟩ := he
 exact ⟨xs, rfl, hC, hl, hB⟩
end Go.Proofs.YtiijbmaamblidaaGreatDoor

namespace Go.Proofs.YtiijbmaamblidaaGreatDoor
open Go.RowKit Go.Proofs.YtiijbmaamblidaaGreatDoor.Print Go.Proofs.YtiijbmaamblidaaGreatDoorW.PrintWords
theorem o_str : Opens Tryz.prog Kd.string 9 (fun s => s.size ≤ 140737488351232) := Opens.string Tryz.underlying9 (by kernel_rfl)
theorem o_u8 : Opens Tryz.prog (Kd.int .u8) 5 (fun n => (Lit.int .u8 n).wf = true) := Opens.int Tryz.underlying5 (by kernel_rfl)
theorem o_int : Opens Tryz.prog (Kd.int .i64) 3 (fun n => (Lit.int .i64 n).wf = true) := Opens.int Tryz.underlying3 (by kernel_rfl)
theorem o_bytes : Opens Tryz.prog (Kd.slice 5 (Kd.int .u8)) 41 (fun xs => xs.length ≤ 140737488351232) :=
 (Opens.slice Tryz.underlying41 (by kernel_rfl) o_u8).imp (fun xs h => by
  have hb : Tryz.prog.bytesOf 5 = 1 := by kernel_rfl
  have h1 := h.1
  rw [hb] at h1
  omega)
theorem o_meta : Opens Tryz.prog k40 40 (fun _ => True) := by
 have h := Opens.struct Tryz.underlying40 (by kernel_rfl) (OpensF.cons rfl o_int (OpensF.cons rfl o_int (OpensF.cons rfl o_int (OpensF.one rfl o_int)))) (fun x : S40 => (x.f0, x.f1, x.f2, x.f3)) (fun p => ⟨p.1, p.2.1, p.2.2.1, p.2.2.2⟩) (fun _ => rfl)
 exact Opens.imp h (fun _ _ => trivial)
theorem o_mem : Opens Tryz.prog k43 43 MemR := by
 have h := Opens.struct Tryz.underlying43 (by kernel_rfl) (OpensF.cons rfl o_str (OpensF.cons rfl o_str (OpensF.cons rfl o_u8 (OpensF.cons rfl o_meta (OpensF.one rfl o_bytes))))) (fun x : S43 => (x.f0, x.f1, x.f2, x.f3, x.f4)) (fun p => ⟨p.1, p.2.1, p.2.2.1, p.2.2.2.1, p.2.2.2.2⟩) (fun _ => rfl)
 exact Opens.imp h (fun _ hx => ⟨hx.1, hx.2.1, hx.2.2.2.2⟩)
theorem o_mems : Opens Tryz.prog (Kd.slice 43 k43) 22 (fun xs => (∀ x ∈ xs, MemR x) ∧ xs.length ≤ 140737488351232) :=
 (Opens.slice Tryz.underlying22 (by kernel_rfl) o_mem).imp (fun xs h => ⟨h.2, by
  have hb : Tryz.prog.bytesOf 43 = 96 := by kernel_rfl
  have h1 := h.1
  rw [hb] at h1
  omega⟩)
end Go.Proofs.YtiijbmaamblidaaGreatDoor
