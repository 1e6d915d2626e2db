/-
  TREES, PLAIN: nodes and members as data; which are good; paths found; members of a tree; classes; the tree of members.
-/
import Derived.Test.YtfljbidecljlcaaDoorPrint0
import Derived.Test.YtfljbidecljlcaaDoorCleanP
namespace Go.Proofs.YtfljbidecljlcaaDoor
open Go.RowKit Go.Proofs.YtfljbidecljlcaaDoor.Print
abbrev Node := S40
abbrev Mem := S45
abbrev Met := S38
def emp : ByteArray := ⟨#[]⟩
def z0 : Met := ⟨0, 0, 0, 0⟩
/-- The order of paths: Go's < on strings. -/
def lt (a b : ByteArray) : Bool := Op.bytesLess a.toList b.toList
/-- Paths rise. -/
def Rise (l : List Node) : Prop := l.Pairwise (fun x y => lt x.f0 y.f0 = true)
/-! Members that may be. -/
def cleanOk (s : ByteArray) : Bool := decide ((cleanF s).2 = 0) && decide (s.toList = (cleanF s).1.toList)
def metaOk (m : Met) : Bool := decide (0 ≤ m.f0 ∧ m.f0 ≤ 4095 ∧ 0 ≤ m.f1 ∧ m.f1 ≤ 2147483647 ∧ 0 ≤ m.f2 ∧ m.f2 ≤ 2147483647 ∧ 0 ≤ m.f3 ∧ m.f3 ≤ 1099511627776)
def targetOk (s : ByteArray) : Bool := rightB s && decide (1 ≤ s.size ∧ s.size ≤ 200)
def goodM (m : Mem) : Bool :=
  cleanOk m.f0 && metaOk m.f3 && decide (m.f4.length ≤ 1048576) && (decide (m.f2 = 48) || decide (m.f4.length = 0)) &&
    (if m.f2 = 48 ∨ m.f2 = 53 then decide (m.f1.toList = []) else if m.f2 = 49 then cleanOk m.f1 else if m.f2 = 50 then targetOk m.f1 else false)
def memOf (x : Node) : Mem := ⟨x.f0, x.f1, x.f3, x.f4, x.f5⟩
/-! A path's node. -/
def findF (l : List Node) (p : ByteArray) : Option Node := l.find? (fun x => decide (x.f0.toList = p.toList))
/-! Nodes that are the same. -/
def equalB (a b : Node) : Bool := decide (a.f0.toList = b.f0.toList ∧ a.f3 = b.f3 ∧ a.f4.f0 = b.f4.f0 ∧ a.f4.f1 = b.f4.f1 ∧ a.f4.f2 = b.f4.f2 ∧ a.f4.f3 = b.f4.f3 ∧ a.f1.toList = b.f1.toList ∧ a.f5 = b.f5)
def sameB : List Node → List Node → Bool
  | [], [] => true
  | a :: l, b :: r => decide (a.f2.toList = b.f2.toList) && equalB a b && sameB l r
  | _, _ => false
/-! Good trees. -/
def ledB (l : List Node) (x : Node) : Bool :=
  if x.f3 = 48 then match findF l x.f2 with
    | some y => decide (y.f3 = 48 ∧ y.f2.toList = y.f0.toList ∧ lt x.f0 y.f0 = false ∧ y.f4.f0 = x.f4.f0 ∧ y.f4.f1 = x.f4.f1 ∧ y.f4.f2 = x.f4.f2 ∧ y.f4.f3 = x.f4.f3 ∧ y.f5 = x.f5)
    | none => false
  else decide (x.f2.toList = [])
def riseB : List Node → Bool
  | x :: y :: l => lt x.f0 y.f0 && riseB (y :: l)
  | _ => true
def goodTree (l : List Node) : Bool := riseB l && l.all (fun x => !decide (x.f3 = 49) && goodM (memOf x)) && decide (l.length ≤ 4096) && l.all (ledB l)
/-! Members of a tree. -/
def lk (f : List (List UInt8 × ByteArray)) (s : List UInt8) : Option ByteArray := match f with
  | [] => none
  | (k, v) :: r => if s = k then some v else lk r s
/-- A node as a member; which name of its class came first. -/
def memF (f : List (List UInt8 × ByteArray)) (x : Node) : Mem × List (List UInt8 × ByteArray) :=
  if x.f3 = 48 then match lk f x.f2.data.toList with
    | some q => (⟨x.f0, q, 49, x.f4, []⟩, f)
    | none => (⟨x.f0, x.f1, 48, x.f4, x.f5⟩, (x.f2.data.toList, x.f0) :: f)
  else (⟨x.f0, x.f1, x.f3, x.f4, x.f5⟩, f)
structure MemSt where
  seen : List ByteArray
  first : List (List UInt8 × ByteArray)
  out : List Mem
def stepM (l : List Node) (s : MemSt) (p : ByteArray) : Option MemSt :=
  match findF l p with
  | none => none
  | some x => if s.seen.any (fun q => decide (q.toList = p.toList)) = true then none else some ⟨p :: s.seen, (memF s.first x).2, s.out ++ [(memF s.first x).1]⟩
def membersF (l : List Node) (order : List ByteArray) : List Mem × Int :=
  if order.length ≠ l.length then ([], 1) else match order.foldlM (stepM l) ⟨[], [], []⟩ with
    | some s => (s.out, 0)
    | none => ([], 1)
/-! Links that go to files ahead. -/
def lkI (f : List (List UInt8 × Int)) (s : List UInt8) : Option Int := match f with
  | [] => none
  | (k, v) :: r => if s = k then some v else lkI r s
def stepS (f : List (List UInt8 × Int)) (m : Mem) : Option (List (List UInt8 × Int)) :=
  if (lkI f m.f0.data.toList).isSome = true ∨ goodM m = false ∨ (m.f2 = 49 ∧ (lkI f m.f1.data.toList).getD 0 ≠ 48) then none else some ((m.f0.data.toList, m.f2) :: f)
def soundF (l : List Mem) : Bool := (l.foldlM stepS []).isSome
/-! Classes. -/
structure ClsSt where
  by_ : List (List UInt8 × Int)
  out : List (List ByteArray)
def stepC (s : ClsSt) (x : Node) : ClsSt :=
  if x.f3 = 48 then match lkI s.by_ x.f2.data.toList with
    | some n => ⟨s.by_, s.out.set n.toNat (s.out.getD n.toNat [] ++ [x.f0])⟩
    | none => ⟨(x.f2.data.toList, (s.out.length : Int)) :: s.by_, s.out ++ [[x.f0]]⟩
  else s
def classesF (l : List Node) : List (List ByteArray) := (l.foldl stepC ⟨[], []⟩).out
/-! The tree of members: paths, and of which member each is a name. -/
def at_ (s : List (ByteArray × Nat)) (p : ByteArray) : Option Nat := match s with
  | [] => none
  | (k, v) :: r => if k.toList = p.toList then some v else at_ r p
def stepF (l : List Mem) (s : List (ByteArray × Nat)) (i : Nat) : Option (List (ByteArray × Nat)) :=
  match l[i]? with
  | none => none
  | some m => if m.f2 = 49 then match at_ s m.f1 with
      | none => none
      | some c => match l[c]? with
        | none => none
        | some t => if t.f2 = 48 then some (s.filter (fun q => !decide (q.1.toList = m.f0.toList)) ++ [(m.f0, c)]) else none
    else some (s.filter (fun q => !decide (q.1.toList = m.f0.toList)) ++ [(m.f0, i)])
/-- How far it goes: what is there, or which member is a link to nothing. -/
def runF (l : List Mem) : (n i : Nat) → List (ByteArray × Nat) → List (ByteArray × Nat) ⊕ Nat
  | 0, _, s => .inl s
  | n + 1, i, s => match stepF l s i with
    | none => .inr i
    | some s' => runF l n (i + 1) s'
def insP (q : ByteArray × Nat) : List (ByteArray × Nat) → List (ByteArray × Nat)
  | [] => [q]
  | r :: s => if lt q.1 r.1 = true then q :: r :: s else r :: insP q s
def sortP (s : List (ByteArray × Nat)) : List (ByteArray × Nat) := s.foldr insP []
def leadOf (s : List (ByteArray × Nat)) (c : Nat) : ByteArray := match s.find? (fun q => decide (q.2 = c)) with
  | some q => q.1
  | none => emp
def zM : Mem := ⟨emp, emp, 0, z0, []⟩
def nodeOf (l : List Mem) (s : List (ByteArray × Nat)) (q : ByteArray × Nat) : Node :=
  let m := l.getD q.2 zM
  ⟨q.1, m.f1, if m.f2 = 48 then leadOf s q.2 else emp, m.f2, m.f3, m.f4⟩
def foldF (l : List Mem) : List Node × Int × Int :=
  match l.findIdx? (fun m => !goodM m) with
  | some i => ([], 1, (i : Int))
  | none => match runF l l.length 0 [] with
    | .inr i => ([], 7, (i : Int))
    | .inl s => ((sortP s).map (nodeOf l (sortP s)), 0, 0)
/-! What is bounded. -/
def nodeZ (x : Node) : Bool := decide (x.f0.size ≤ 140737488351232 ∧ x.f1.size ≤ 140737488351232 ∧ x.f2.size ≤ 140737488351232 ∧ x.f5.length ≤ 140737488351232)
def memR (x : Mem) : Bool := decide (x.f0.size ≤ 140737488351232 ∧ x.f1.size ≤ 140737488351232 ∧ x.f4.length ≤ 140737488351232)
def memZ (x : Mem) : Bool := decide (x.f0.size ≤ 8000000000000 ∧ x.f1.size ≤ 8000000000000 ∧ x.f4.length ≤ 140737488351232)
def nodesZ (l : List Node) : Bool := decide (l.length ≤ 1000000000000) && l.all nodeZ
def nodesG (l : List Node) : Bool := nodesZ l && l.all (fun x => decide (x.f0.size ≤ 8000000000000 ∧ x.f1.size ≤ 8000000000000))
def memsZ (l : List Mem) : Bool := decide (l.length ≤ 1000000000000) && l.all memZ
def strsZ (l : List ByteArray) : Bool := l.all (fun p => decide (p.size ≤ 140737488351232))
def NodeZ (x : Node) : Prop := x.f0.size ≤ 140737488351232 ∧ x.f1.size ≤ 140737488351232 ∧ x.f2.size ≤ 140737488351232 ∧ x.f5.length ≤ 140737488351232
def MemR (x : Mem) : Prop := x.f0.size ≤ 140737488351232 ∧ x.f1.size ≤ 140737488351232 ∧ x.f4.length ≤ 140737488351232
def MemZ (x : Mem) : Prop := x.f0.size ≤ 8000000000000 ∧ x.f1.size ≤ 8000000000000 ∧ x.f4.length ≤ 140737488351232
theorem MemZ.r {x : Mem} (h : MemZ x) : MemR x := ⟨by have := h.1; omega, by have := h.2.1; omega, h.2.2⟩
def NodesZ (l : List Node) : Prop := l.length ≤ 1000000000000 ∧ ∀ x ∈ l, NodeZ x
def NodesG (l : List Node) : Prop := NodesZ l ∧ ∀ x ∈ l, x.f0.size ≤ 8000000000000 ∧ x.f1.size ≤ 8000000000000
def MemsZ (l : List Mem) : Prop := l.length ≤ 1000000000000 ∧ ∀ x ∈ l, MemZ x
theorem nodesZ_iff (l : List Node) : nodesZ l = true ↔ NodesZ l := by simp [nodesZ, NodesZ, nodeZ, NodeZ]
theorem nodesG_iff (l : List Node) : nodesG l = true ↔ NodesG l := by simp [nodesG, NodesG, nodesZ_iff]
theorem memsZ_iff (l : List Mem) : memsZ l = true ↔ MemsZ l := by simp [memsZ, MemsZ, memZ, MemZ]
theorem strsZ_iff (l : List ByteArray) : strsZ l = true ↔ ∀ p ∈ l, p.size ≤ 140737488351232 := by simp [strsZ]
end Go.Proofs.YtfljbidecljlcaaDoor
