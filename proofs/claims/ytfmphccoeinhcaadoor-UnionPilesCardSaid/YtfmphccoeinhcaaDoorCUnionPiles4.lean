/-
  Part of the proof that UnionPiles answers true: texts put together (wip/bundle.py).
-/
import Derived.Test.YtfmphccoeinhcaaDoorCUnionPiles3
import Derived.SizedLaws
import Derived.ChangeSlices
import Derived.OpenShut
namespace Go.Proofs.YtfmphccoeinhcaaDoor
open Go.ChangeShapes Go.WideShapes Go.RowKit Go.Proofs.YtfmphccoeinhcaaDoorW.PrintWords
structure Opens {α : Type} (P : Program) (d : Kd α) (t : TypeId) (B : α → Prop) : Prop where
 sz : P.cellsOf t = d.sz
 get : ∀ {H : Type} {enc : TypeId × Value → H} {W : World} {fuel : Nat} {cs : List Value} {x : DataW H × List MemPlace},
  DataW.trod enc P W 0 (fun _ => true) true fuel t cs = some x → (∀ n ∈ x.1.weights P t, n ≤ reachBytes) → ∃ a, d.K W a cs ∧ B a
theorem Opens.int {P : Program} {t : TypeId} {k : IntKind} (ht : P.underlying t = some (.int k)) (hc : P.cellsOf t = 1) : Opens P (Kd.int k) t (fun n => (Lit.int k n).wf = true) :=
 ⟨hc, fun h _ => by
  obtain ⟨n, rfl, rfl, hw⟩ := DataW.trod_int ht h
  exact ⟨n, rfl, hw⟩⟩
theorem Opens.bool {P : Program} {t : TypeId} (ht : P.underlying t = some .bool) (hc : P.cellsOf t = 1) : Opens P Kd.bool t (fun _ => True) :=
 ⟨hc, fun h _ => by
  obtain ⟨n, rfl, rfl⟩ := DataW.trod_bool ht h
  exact ⟨n, rfl, trivial⟩⟩
theorem Opens.string {P : Program} {t : TypeId} (ht : P.underlying t = some .string) (hc : P.cellsOf t = 1) : Opens P Kd.string t (fun s => s.size ≤ 140737488351232) :=
 ⟨hc, fun h hw => by
  obtain ⟨s, rfl, rfl, _⟩ := DataW.trod_string ht h
  refine ⟨s, rfl, ?_⟩
  have := hw s.data.toList.length (by simp [DataW.weights])
  have e : s.data.toList.length = s.size := by simp
  rw [e] at this
  exact this⟩
theorem each_list {α : Type} {Q : Nat → α → Prop} : ∀ n : Nat, (∀ i, i < n → ∃ x, Q i x) → ∃ xs : List α, xs.length = n ∧ ∀ i x, xs[i]? = some x → Q i x := by
 intro n
 induction n with
 | zero => exact fun _ => ⟨[], rfl, fun i x h => by simp at h⟩
 | succ n ih =>
  intro h
  obtain ⟨xs, hl, hx⟩ := ih (fun i hi => h i (by omega))
  obtain ⟨y, hy⟩ := h n (by omega)
  refine ⟨xs ++ [y], by simp [hl], fun i x hi => ?_⟩
  rcases Nat.lt_or_ge i n with h1 | h1
  ·rw [List.getElem?_append_left (by omega)] at hi
   exact hx i x hi
  ·rw [List.getElem?_append_right (by omega)] at hi
   have h0 : i - xs.length = 0 := by
    have := (List.getElem?_eq_some_iff.1 hi).1
    simp at this
    omega
   rw [h0] at hi
   simp at hi
   subst hi
   obtain rfl : i = n := by omega
   exact hy
theorem weights_all {H : Type} {P : Program} {e : TypeId} : ∀ {l : List (DataW H)} {y : DataW H}, y ∈ l → ∀ n ∈ y.weights P e, n ∈ DataW.weightsAll P e l
 | z :: r, y, hy, n, hn => by
  simp only [DataW.weightsAll, List.mem_append]
  rcases List.mem_cons.1 hy with rfl | hy
  ·exact .inl hn
  ·exact .inr (weights_all hy n hn)
theorem add_add (a : Addr) (x y : Nat) : (a.add x).add y = a.add (x + y) := by
 unfold Addr.add
 split
 ·rename_i h
  subst h
  simp
 ·rename_i h
  split
  ·rename_i h2
   subst h2
   simp [h]
  ·rw [if_neg (by omega)]
   simp [Nat.add_assoc]
theorem Opens.slice {α : Type} {P : Program} {d : Kd α} {B : α → Prop} {t e : TypeId} (ht : P.underlying t = some (.slice e)) (hc : P.cellsOf t = 1) (h : Opens P d e B) :
  Opens P (Kd.slice e d) t (fun xs => xs.length * P.bytesOf e ≤ 140737488351232 ∧ ∀ x ∈ xs, B x) :=
 ⟨hc, fun {H enc W fuel cs x} hf hw => by
  rcases DataW.trod_slice ht hf with ⟨rfl, rfl⟩ | ⟨a, len, cap, elems, rest, n, _, rfl, rfl, hb, hl, hm, hlen, hel, hsp, hns⟩
  ·exact ⟨[], ⟨none, 0, rfl, Nat.le_refl _, Kd.C_nil d W⟩, by simp, fun x hx => by cases hx⟩
  ·simp only [DataW.weights, ht] at hw
   have each : ∀ i, i < len → ∃ z : α, B z ∧ ∃ c, c.length = d.sz ∧ d.K W z c ∧ ∀ j u, c[j]? = some u → W.cell? (a.add (i * d.sz + j)) = some u := by
    intro i hi
    have h1 := hel i hi
    have hi' : i < elems.length := by omega
    rw [List.getElem?_eq_getElem hi', Option.bind_eq_some_iff] at h1
    obtain ⟨c, hcs, hy⟩ := h1
    obtain ⟨-, h2, h3⟩ := World.cells?_some hcs
    obtain ⟨z, hz, hB⟩ := h.get hy (fun n hn => hw n (by
     simp only [List.mem_cons, List.mem_append]
     exact .inr (.inl (weights_all (List.mem_map.2 ⟨_, List.getElem_mem hi', rfl⟩) n hn))))
    refine ⟨z, hB, c, by rw [h2, h.sz], hz, fun j u hj => ?_⟩
    have hj' : j < P.cellsOf e := by
     have := (List.getElem?_eq_some_iff.1 hj).1
     omega
    have h4 := h3 j hj'
    rw [add_add, h.sz] at h4
    rw [h4, hj]
   obtain ⟨xs, hxl, hxs⟩ := each_list len each
   subst hxl
   have hz := hw _ (List.mem_cons_self ..)
   simp only [List.length_map] at hz
   have h5 : xs.length * P.bytesOf e ≤ (elems.length + rest.length) * P.bytesOf e := Nat.mul_le_mul_right _ (by omega)
   have h6 : reachBytes = 140737488351232 := rfl
   refine ⟨xs, ⟨some a, cap, rfl, hl, rfl, ?_, fun _ => ⟨a, rfl, fun j p hj => (hxs j p hj).2⟩⟩, by omega, fun x hx => ?_⟩
   ·have : maxLen = 9223372036854775807 := rfl
    omega
   ·obtain ⟨i, hi⟩ := List.getElem?_of_mem hx
    exact (hxs i x hi).1⟩
structure OpensF {α : Type} (P : Program) (d : Kd α) (fs : List Field) (o : Nat) (B : α → Prop) : Prop where
 get : ∀ {H : Type} {enc : TypeId × Value → H} {W : World} {n : Nat} {cs : List Value} {xs : List (DataW H × List MemPlace)}, xs.length = fs.length →
  (∀ (i : Nat) (f : Field), fs[i]? = some f → DataW.trod enc P W 0 (fun _ => true) true n f.type ((cs.drop f.offset).take (P.cellsOf f.type)) = xs[i]?) →
  (∀ m ∈ DataW.weightsEach P (fs.map (·.type)) (xs.map (·.1)), m ≤ reachBytes) → ∃ a, d.K W a ((cs.drop o).take d.sz) ∧ B a
theorem OpensF.one {α : Type} {P : Program} {d : Kd α} {B : α → Prop} {f : Field} {o : Nat} (ho : f.offset = o) (h : Opens P d f.type B) : OpensF P d [f] o B := by
 refine ⟨fun {H enc W n cs xs} hl hx hw => ?_⟩
 match xs, hl with
 | [x], _ =>
  have h0 := hx 0 f rfl
  rw [h.sz, ho] at h0
  simp only [List.getElem?_cons_zero] at h0
  exact h.get h0 (fun m hm => hw m (by simp only [List.map_cons, List.map_nil, DataW.weightsEach, List.mem_append]; exact .inl hm))
theorem OpensF.cons {α β : Type} {P : Program} {d : Kd α} {d' : Kd β} {B : α → Prop} {B' : β → Prop} {f : Field} {fs : List Field} {o : Nat} (ho : f.offset = o) (h : Opens P d f.type B) (h' : OpensF P d' fs (o + d.sz) B') :
  OpensF P (Kd.pair d d') (f :: fs) o (fun x => B x.1 ∧ B' x.2) := by
 refine ⟨fun {H enc W n cs xs} hl hx hw => ?_⟩
 match xs, hl with
 | x :: xs, hl =>
  have h0 := hx 0 f rfl
  rw [h.sz, ho] at h0
  simp only [List.getElem?_cons_zero] at h0
  obtain ⟨a, ha, hB⟩ := h.get h0 (fun m hm => hw m (by simp only [List.map_cons, DataW.weightsEach, List.mem_append]; exact .inl hm))
  obtain ⟨b, hb, hB'⟩ := h'.get (enc := enc) (W := W) (n := n) (cs := cs) (xs := xs) (by simpa using hl) (fun i g hg => by have := hx (i + 1) g (by simpa using hg); simpa using this)
   (fun m hm => hw m (by simp only [List.map_cons, DataW.weightsEach, List.mem_append]; exact .inr hm))
  refine ⟨(a, b), ⟨_, _, ?_, ha, hb⟩, hB, hB'⟩
  show (cs.drop o).take (d.sz + d'.sz) = _
  rw [List.take_add, List.drop_drop]
theorem Opens.struct {α β : Type} {P : Program} {d : Kd α} {B : α → Prop} {t : TypeId} {fs : Array Field} (ht : P.underlying t = some (.struct fs)) (hc : P.cellsOf t = d.sz) (h : OpensF P d fs.toList 0 B) (f : β → α) (g : α → β) (hg : ∀ a, f (g a) = a) :
  Opens P (Kd.iso d f) t (fun x => B (f x)) :=
 ⟨hc, fun {H enc W fuel cs x} hf hw => by
  obtain ⟨xs, n, _, rfl, hl, hlen, hx⟩ := DataW.trod_struct ht hf
  simp only [DataW.weights, ht] at hw
  obtain ⟨a, ha, hB⟩ := h.get (enc := enc) (W := W) (n := n) (cs := cs) (xs := xs) (by simpa using hlen) (fun i g hg => hx i g (by simpa using hg)) hw
  refine ⟨g a, ?_, by rw [hg]; exact hB⟩
  show d.K W (f (g a)) cs
  rw [hg]
  rw [List.drop_zero, List.take_of_length_le (by omega)] at ha
  exact ha⟩
theorem Opens.imp {α : Type} {P : Program} {d : Kd α} {t : TypeId} {B B' : α → Prop} (h : Opens P d t B) (hB : ∀ a, B a → B' a) : Opens P d t B' :=
 ⟨h.sz, fun hf hw => by obtain ⟨a, ha, hb⟩ := h.get hf hw; exact ⟨a, ha, hB a hb⟩⟩
theorem Opens.param {α : Type} {P : Program} {d : Kd α} {t : TypeId} {B : α → Prop} (h : Opens P d t B) {H : Type} {enc : TypeId × Value → H} {W : World} {v : Value} {x : DataW H} {p : List MemPlace} {ts : List TypeId} {ds : List (DataW H)} {j : Nat}
  (hsz : (DataW.weightsEach P ts ds).all (· ≤ reachBytes) = true) (hj : ts[j]? = some t) (hd : ds[j]? = some x) (ht : DataW.Trod enc P W 0 (fun _ => true) true t v x p) : ∃ a, d.K W a v.cells.toList ∧ B a := by
 obtain ⟨fuel, hf⟩ := ht
 exact h.get hf (fun n hn => by simpa using List.all_eq_true.1 hsz _ (DataW.weights_mem_each hj hd n hn))
theorem Opens.row {α : Type} {P : Program} {d : Kd α} {t e : TypeId} {B : List α → Prop} (h : Opens P (Kd.slice e d) t B) {H : Type} {enc : TypeId × Value → H} {W : World} {A : Option Addr} {n c : Nat} {x : DataW H} {p : List MemPlace} {ts : List TypeId} {ds : List (DataW H)} {j : Nat}
  (hsz : (DataW.weightsEach P ts ds).all (· ≤ reachBytes) = true) (hj : ts[j]? = some t) (hd : ds[j]? = some x) (ht : DataW.Trod enc P W 0 (fun _ => true) true t (.slice A n c) x p) :
  ∃ xs : List α, xs.length = n ∧ d.C W A n xs ∧ n ≤ c ∧ B xs := by
 obtain ⟨xs, ⟨A', c', he, hl, hC⟩, hB⟩ := h.param hsz hj hd ht
 simp [Value.cells] at he
 obtain ⟨rfl, rfl, rfl⟩ := he
 exact ⟨xs, rfl, hC, hl, hB⟩
end Go.Proofs.YtfmphccoeinhcaaDoor

namespace Go.Proofs.YtfmphccoeinhcaaDoor
open Go.RowKit Go.Proofs.YtfmphccoeinhcaaDoor.Print Go.Proofs.YtfmphccoeinhcaaDoorW.PrintWords
theorem o_str : Opens Tryd.prog Kd.string 9 (fun s => s.size ≤ 140737488351232) := Opens.string Tryd.underlying9 (by kernel_rfl)
theorem o_u8 : Opens Tryd.prog (Kd.int .u8) 5 (fun n => (Lit.int .u8 n).wf = true) := Opens.int Tryd.underlying5 (by kernel_rfl)
theorem o_int : Opens Tryd.prog (Kd.int .i64) 3 (fun n => (Lit.int .i64 n).wf = true) := Opens.int Tryd.underlying3 (by kernel_rfl)
theorem o_bytes : Opens Tryd.prog (Kd.slice 5 (Kd.int .u8)) 25 (fun xs => xs.length ≤ 140737488351232) :=
 (Opens.slice Tryd.underlying25 (by kernel_rfl) o_u8).imp (fun xs h => by
  have hb : Tryd.prog.bytesOf 5 = 1 := by kernel_rfl
  have h1 := h.1
  rw [hb] at h1
  omega)
theorem o_meta : Opens Tryd.prog k24 24 (fun _ => True) := by
 have h := Opens.struct Tryd.underlying24 (by kernel_rfl) (OpensF.cons rfl o_int (OpensF.cons rfl o_int (OpensF.cons rfl o_int (OpensF.one rfl o_int)))) (fun x : S24 => (x.f0, x.f1, x.f2, x.f3)) (fun p => ⟨p.1, p.2.1, p.2.2.1, p.2.2.2⟩) (fun _ => rfl)
 exact Opens.imp h (fun _ _ => trivial)
theorem o_node : Opens Tryd.prog k38 38 NodeZ := by
 have h := Opens.struct Tryd.underlying38 (by kernel_rfl) (OpensF.cons rfl o_str (OpensF.cons rfl o_str (OpensF.cons rfl o_str (OpensF.cons rfl o_u8 (OpensF.cons rfl o_meta (OpensF.one rfl o_bytes)))))) (fun x : S38 => (x.f0, x.f1, x.f2, x.f3, x.f4, x.f5)) (fun p => ⟨p.1, p.2.1, p.2.2.1, p.2.2.2.1, p.2.2.2.2.1, p.2.2.2.2.2⟩) (fun _ => rfl)
 exact Opens.imp h (fun _ hx => ⟨hx.1, hx.2.1, hx.2.2.1, hx.2.2.2.2.2⟩)
end Go.Proofs.YtfmphccoeinhcaaDoor

namespace Go.Proofs.YtfmphccoeinhcaaDoor
open Go.RowKit Go.Proofs.YtfmphccoeinhcaaDoor.Print Go.Proofs.YtfmphccoeinhcaaDoorW.PrintWords
theorem o_put : Opens Tryd.prog k57 57 PutZ := by
 have h := Opens.struct Tryd.underlying57 (by kernel_rfl) (OpensF.cons rfl o_int (OpensF.cons rfl o_node (OpensF.one rfl o_str))) (fun x : S57 => (x.f0, x.f1, x.f2)) (fun p => ⟨p.1, p.2.1, p.2.2⟩) (fun _ => rfl)
 exact Opens.imp h (fun _ hx => ⟨hx.2.2, hx.2.1, hx.1⟩)
theorem o_puts : Opens Tryd.prog (Kd.slice 57 k57) 52 (fun xs => (∀ x ∈ xs, PutZ x) ∧ xs.length ≤ 140737488351232) :=
 (Opens.slice Tryd.underlying52 (by kernel_rfl) o_put).imp (fun xs h => ⟨h.2, by
  have hb : Tryd.prog.bytesOf 57 = 136 := by kernel_rfl
  have h1 := h.1
  rw [hb] at h1
  omega⟩)
end Go.Proofs.YtfmphccoeinhcaaDoor
