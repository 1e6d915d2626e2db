/-
  MAPS WITH STRING KEYS AND ANY ELEMENTS, AS FUNCTIONS: what a block holds at each key.
-/
import Derived.Maps.OwnSet
import Derived.Maps.Ext
import Derived.StringKeys
import Derived.Below
import Derived.Deep.Draws
import Derived.RowKit
namespace Go.Proofs.YtfljbidecljlcaaDoor
open Go.RowKit Go.Maps Go.ChangeMaps Go.WideMaps
/-- An element reads as itself. -/
def heldE (v : Value) : Option (DataW Value × List MemPlace) := some (.held v, [])
/-- Block b of w is a map of at most n entries; at each key (a string's bytes) it holds what f says. -/
def MapS (P : Program) (K : TypeId) (w : World) (b n : Nat) (f : List UInt8 → Option Value) : Prop :=
  ∃ D : DataW Value, w.ownsMap P K heldE b n D ∧ (∀ s, Maps.has D (.string s) = (f s).isSome) ∧ (∀ s v, f s = some v → ∀ z, D.atKey (.string s) z = .held v)
section
variable {P : Program} {K e t : TypeId} {w w' : World} {b n : Nat} {f : List UInt8 → Option Value}
theorem MapS.made (P : Program) (K : TypeId) (w : World) : MapS P K (w.alloc (.map #[] 0)) w.heap.size 0 (fun _ => none) :=
  ⟨.map [], World.ownsMap_made _ _ _ _, fun _ => rfl, fun _ _ h => by cases h⟩
theorem MapS.lt (h : MapS P K w b n f) : b < w.heap.size := by
  obtain ⟨D, h, _⟩ := h
  exact h.lt
theorem MapS.mono (h : MapS P K w b n f) {m : Nat} (hm : n ≤ m) : MapS P K w b m f := by
  obtain ⟨D, h, h2⟩ := h
  exact ⟨D, h.mono hm, h2⟩
theorem MapS.kept {row : Option Nat} (h : MapS P K w b n f) (hg : w.grownBy w' row) (hne : some b ≠ row) : MapS P K w' b n f := by
  obtain ⟨D, h, h2⟩ := h
  exact ⟨D, h.kept hg hne, h2⟩
theorem MapS.step (h : MapS P K w b n f) (he : w'.heap[b]? = w.heap[b]?) : MapS P K w' b n f := by
  obtain ⟨D, ⟨es, clock, hb, F, r⟩, h2⟩ := h
  exact ⟨D, ⟨es, clock, he.trans hb, F, r⟩, h2⟩
theorem MapS.below (h : MapS P K w b n f) (hb : Below w.heap.size w w') : MapS P K w' b n f := h.step (hb.block b h.lt)
theorem MapS.alloc (h : MapS P K w b n f) (o : Obj) : MapS P K (w.alloc o) b n f := h.kept (World.grownBy_alloc w o none) (by simp)
theorem MapS.drew (h : MapS P K w b n f) : MapS P K w.drew b n f := h
theorem MapS.drewN (h : MapS P K w b n f) (m : Nat) : MapS P K (w.drewN m) b n f := by
  induction m generalizing w with
  | zero => exact h
  | succ m ih => exact ih h.drew
theorem MapS.setCell (h : MapS P K w b n f) {a : Addr} (ha : b ≠ a.block) (u : Value) : MapS P K (w.setCell a u) b n f := by
  obtain ⟨D, h, h2⟩ := h
  exact ⟨D, h.setCell ha u, h2⟩
theorem MapS.ext {g : List UInt8 → Option Value} (h : MapS P K w b n f) (hg : ∀ s, f s = g s) : MapS P K w b n g := by
  obtain rfl : f = g := funext hg
  exact h
/-- v, ok := m[s] -/
theorem MapS.look_ok (h : MapS P K w b n f) (hK : P.underlying K = some .string) (ht : P.underlying t = some (.map K e)) {z : Value} (hz : (zeroValue e).run P w = .ok z w) {s : ByteArray} (hs : s.size ≤ maxLen) :
    (Instr.lookup t (.map (some b)) (.string s) true).run P w = .ok (.tuple #[(f s.data.toList).getD z, .bool (f s.data.toList).isSome]) w := by
  obtain ⟨D, h, hh, ha⟩ := h
  obtain ⟨v, ps, hrun, hv⟩ := h.look_ok (string_keyed hK) ht hz (zd := .held z) (zp := []) rfl (keyOf_string_mk hK hs)
  rw [hrun, hh]
  simp only [heldE, Option.some.injEq, Prod.mk.injEq] at hv
  cases hf : f s.data.toList with
  | none =>
    have h0 : Maps.has D (.string s.data.toList) = false := by rw [hh, hf]; rfl
    have h1 := hv.1
    rw [Maps.atKey_of_not_has h0] at h1
    cases h1
    rfl
  | some v' =>
    have h1 := hv.1
    rw [ha _ _ hf] at h1
    cases h1
    rfl
/-- m[s] -/
theorem MapS.look (h : MapS P K w b n f) (hK : P.underlying K = some .string) (ht : P.underlying t = some (.map K e)) {z : Value} (hz : (zeroValue e).run P w = .ok z w) {s : ByteArray} (hs : s.size ≤ maxLen) :
    (Instr.lookup t (.map (some b)) (.string s) false).run P w = .ok ((f s.data.toList).getD z) w := by
  obtain ⟨D, h, hh, ha⟩ := h
  obtain ⟨v, ps, hrun, hv⟩ := h.lookup (string_keyed hK) ht hz (zd := .held z) (zp := []) rfl (keyOf_string_mk hK hs)
  rw [hrun]
  simp only [heldE, Option.some.injEq, Prod.mk.injEq] at hv
  cases hf : f s.data.toList with
  | none =>
    have h0 : Maps.has D (.string s.data.toList) = false := by rw [hh, hf]; rfl
    have h1 := hv.1
    rw [Maps.atKey_of_not_has h0] at h1
    cases h1
    rfl
  | some v' =>
    have h1 := hv.1
    rw [ha _ _ hf] at h1
    cases h1
    rfl
/-- What a map holds behind 'm[s] = v'. -/
def putS (f : List UInt8 → Option Value) (s : List UInt8) (v : Value) : List UInt8 → Option Value := fun t => if t = s then some v else f t
theorem MapS.put (h : MapS P K w b n f) (hK : P.underlying K = some .string) (ht : P.underlying t = some (.map K e)) (hn : n < maxLen) {s : ByteArray} (hs : s.size ≤ maxLen) (v : Value) :
    ∃ w', (Instr.mapUpdate t (.map (some b)) (.string s) v).run P w = .ok () w' ∧ MapS P K w' b (n + 1) (putS f s.data.toList v) ∧ w.mapTurned w' b := by
  obtain ⟨D, h, hh, ha⟩ := h
  obtain ⟨w', hrun, h', hturn⟩ := h.store (string_keyed hK) ht hn (d := .held v) (ps := []) (keyOf_string_mk hK hs) rfl
  have hk : WideAt.IsKeyLit (.string s.data.toList) := trivial
  refine ⟨w', hrun, ⟨D.put (.string s.data.toList) (.held v), h', fun t => ?_, fun t u hu z => ?_⟩, hturn⟩
  · unfold putS
    by_cases e : t = s.data.toList
    · rw [if_pos e, e, Maps.has_put_same h.isMap hk]; rfl
    · rw [if_neg e, Maps.has_put_other (by intro h; injection h with h; exact e h), hh]
  · unfold putS at hu
    by_cases e : t = s.data.toList
    · rw [if_pos e] at hu
      cases hu
      rw [e, Maps.atKey_put_same h.isMap hk]
    · rw [if_neg e] at hu
      rw [Maps.atKey_put_other (by intro h; injection h with h; exact e h)]
      exact ha _ _ hu z
theorem MapS.wpput {ops : Array Oper} {rest : List Oper} {o : Oper} {a : Act} {Q : Exit → Act → World → Prop} (h : MapS P K w b n f) (hg : o.guard = none) (m x v : Operand) (hop : o.op = Op.mapUpdate t m x v)
    (hK : P.underlying K = some .string) (ht : P.underlying t = some (.map K e)) (hn : n < maxLen) (hm : a.eval m = .map (some b)) {s : ByteArray} (hx : a.eval x = .string s) (hs : s.size ≤ maxLen) {u : Value} (hv : a.eval v = u)
    (hk : ∀ w', MapS P K w' b (n + 1) (putS f s.data.toList u) → w.mapTurned w' b → wpList P ops Q rest (a.put o.dst undef) w') : wpList P ops Q (o :: rest) a w := by
  refine wpList_plain hg fun K' hK' => ?_
  obtain ⟨w', hrun, r1, r2⟩ := h.put hK ht hn hs u
  unfold Oper.wp
  simp [execOp, hop, hm, hx, hv, hrun, Result.andThen]
  exact hK' _ _ (hk w' r1 r2)
theorem MapS.len (h : MapS P K w b n f) : ∃ m : Nat, m ≤ n ∧ ∀ {t e ty : TypeId}, P.underlying t = some (.map K e) → (Builtin.len_ #[t] ty #[.map (some b)]).run P w = .ok (.int .i64 m) w := by
  obtain ⟨D, h, _⟩ := h
  exact ⟨Maps.size D, h.size_le, fun ht => h.len ht _⟩
end
end Go.Proofs.YtfljbidecljlcaaDoor
