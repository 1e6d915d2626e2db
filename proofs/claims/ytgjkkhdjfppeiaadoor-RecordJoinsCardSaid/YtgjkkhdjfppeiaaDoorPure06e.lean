/-
  RecordJoins, as printed, answers true.
-/
import Derived.Test.YtgjkkhdjfppeiaaDoorRecAll
import Derived.Test.YtgjkkhdjfppeiaaDoorPrint39
namespace Go.Proofs.YtgjkkhdjfppeiaaDoor
open Go.RowKit Go.Proofs.YtgjkkhdjfppeiaaDoor.Print Go.Proofs.YtgjkkhdjfppeiaaDoorW.PrintWords
open Lib (decDigits)
/-! RecordJoins -/
def sz2 (x : S42) : Nat := x.f0.size + x.f1.size
def sumS (l : List S42) : Nat := (l.map sz2).sum
theorem mem_sum {l : List S42} {x : S42} (h : x ∈ l) : sz2 x ≤ sumS l := by
  induction l with
  | nil => cases h
  | cons y l ih =>
    unfold sumS
    rw [List.map_cons, List.sum_cons]
    rcases List.mem_cons.1 h with rfl | h
    · omega
    · have := ih h
      unfold sumS at this
      omega
theorem sum_take_one (l : List S42) (i : Nat) (hi : i < l.length) : sumS (l.take (i + 1)) = sumS (l.take i) + sz2 l[i] := by
  rw [take_one l i hi]
  unfold sumS
  rw [List.map_append, List.sum_append]
  simp
theorem sum_le {B : Nat} (l : List S42) (h : ∀ x ∈ l, sz2 x ≤ B) : sumS l ≤ l.length * B := by
  induction l with
  | nil => simp [sumS]
  | cons x l ih =>
    have h1 := h x (by simp)
    have h2 := ih (fun y hy => h y (by simp [hy]))
    unfold sumS at h2 ⊢
    rw [List.map_cons, List.sum_cons, List.length_cons, Nat.succ_mul]
    omega
theorem Joins_j4t (a b : List S42) : Ev (fun k => bindlelaw06_RecordJoins.j4 k a b true) true :=
  Ev.step (f := fun _ => some true) (fun k => by rw [bindlelaw06_RecordJoins.j4, if_pos rfl, ansT]; rfl) (Ev.now _)
theorem Joins_j4f (a b : List S42) (h30 : a.length + b.length ≤ 30) (hs : ∀ x ∈ a ++ b, sz2 x ≤ 20000) : Ev (fun k => bindlelaw06_RecordJoins.j4 k a b false) true := by
  have sm : ∀ l : List S42, (∀ x ∈ l, x ∈ a ++ b) → ∀ x ∈ l, Small x := fun l hl x hx => by
    have := hs x (hl x hx)
    unfold sz2 at this
    unfold Small
    rw [kOf_size, vOf_size]
    omega
  obtain ⟨K1, h1⟩ := Put_eq a (sm a (fun x hx => by simp [hx])) (by omega)
  obtain ⟨K2, h2⟩ := Put_eq b (sm b (fun x hx => by simp [hx])) (by omega)
  obtain ⟨K3, h3⟩ := Put_eq (a ++ b) (sm _ (fun x hx => hx)) (by rw [List.length_append]; omega)
  have start : ∀ (r : Bool) (k : Nat), K1 + K2 + K3 ≤ k → bindlelaw06_RecordJoins.j4 (k + 1) a b false =
      if (putD a).2 = true then bindlelaw06_RecordJoins.j5 k a b (putD a).1 (putD b).1 (putD (a ++ b)).1 (putD (a ++ b)).2 (!(putD b).2) else bindlelaw06_RecordJoins.j5 k a b (putD a).1 (putD b).1 (putD (a ++ b)).1 (putD (a ++ b)).2 true := by
    intro r k hk
    dsimp only at h1 h2 h3
    rw [bindlelaw06_RecordJoins.j4, if_neg (by decide), h1 k (by omega)]
    rw [Option.bind_some]
    try dsimp only
    rw [h2 k (by omega)]
    rw [Option.bind_some]
    try dsimp only
    rw [Option.bind_some, if_pos (by simp only [List.length_nil]; omega), List.nil_append, Option.bind_some, if_pos (by omega), h3 k (by omega)]
    rw [Option.bind_some]
    try dsimp only
  by_cases hm : (a ++ b).all mayR = true
  · have hab := hm
    rw [List.all_append, Bool.and_eq_true] at hab
    have pa : putD a = (nb (linesD a), true) := by unfold putD; rw [if_pos hab.1]
    have pb : putD b = (nb (linesD b), true) := by unfold putD; rw [if_pos hab.2]
    have pc : putD (a ++ b) = (nb (linesD a) ++ nb (linesD b), true) := by unfold putD; rw [if_pos hm, linesD_app, nb_app]
    have la := lines_len a hab.1
    have lb := lines_len b hab.2
    have hsz : ∀ l : List UInt8, (strOfNums (nb l)).size = l.length := fun l => by rw [strOf_sz, nb_len]
    obtain ⟨K4, h4⟩ := Parse_eq (nb (linesD a) ++ nb (linesD b)) (by rw [← nb_app, hsz, List.length_append]; omega)
    rw [← nb_app, nb_str, ofB_data, ← linesD_app, parse_lines _ hm] at h4
    simp only [recs_back] at h4
    refine ⟨K1 + K2 + K3 + K4 + 2, fun k hk => ?_⟩
    dsimp only at *
    obtain ⟨k, rfl⟩ : ∃ m, k = m + 2 := ⟨k - 2, by omega⟩
    show bindlelaw06_RecordJoins.j4 (k + 1 + 1) a b false = some true
    rw [start true (k + 1) (by omega), pa, pb, pc, if_pos rfl]
    show bindlelaw06_RecordJoins.j5 (k + 1) a b _ _ _ true (!true) = some true
    rw [bindlelaw06_RecordJoins.j5, if_neg (by decide), Option.bind_some, if_pos (by rw [nb_len]; simp only [List.length_nil]; omega), List.nil_append, Option.bind_some, if_pos (by rw [nb_len, nb_len]; omega), ← nb_app, ← linesD_app, h4 k (by omega)]
    rw [Option.bind_some]
    try dsimp only
    rw [ansT, Option.bind_some, if_pos rfl, if_pos rfl, if_pos (by rw [hsz, hsz]; omega), if_pos (by rw [nb_str, nb_str, nb_str, ofB_app, linesD_app]), if_pos rfl, wadd (by omega), List.length_append]
    simp
  · have pc : putD (a ++ b) = ([], false) := by unfold putD; rw [if_neg hm]
    have hj : ∀ x y, Ev (fun k => bindlelaw06_RecordJoins.j5 k a b x y [] false true) true := fun x y =>
      Ev.step (f := fun _ => some true) (fun k => by rw [bindlelaw06_RecordJoins.j5, if_pos rfl, ansT, Option.bind_some, if_pos rfl, if_neg (by decide)]; rfl) (Ev.now _)
    obtain ⟨K4, h4⟩ := hj (putD a).1 (putD b).1
    refine ⟨K1 + K2 + K3 + K4 + 1, fun k hk => ?_⟩
    dsimp only at *
    obtain ⟨k, rfl⟩ : ∃ m, k = m + 1 := ⟨k - 1, by omega⟩
    show bindlelaw06_RecordJoins.j4 (k + 1) a b false = some true
    rw [start true k (by omega), pc]
    by_cases pa : (putD a).2 = true
    · rw [if_pos pa]
      have pb : (putD b).2 = false := by
        unfold putD at pa ⊢
        split at pa
        · rename_i h
          rw [if_neg (by
            intro h'
            exact hm (by rw [List.all_append, h, h']; rfl))]
        · cases pa
      rw [pb]
      exact h4 k (by omega)
    · rw [if_neg pa]
      exact h4 k (by omega)
theorem Joins_j3 (a b : List S42) (hla : a.length ≤ 140737488351232) (hlb : b.length ≤ 140737488351232) (n : Nat) (hn : a.length ≤ 31 → b.length ≤ 31 → n = sumS a + sumS b) : Ev (fun k => bindlelaw06_RecordJoins.j3 k a b (n : Int)) true := by
  have w : a.length + b.length ≤ 4611686018427387904 := by omega
  by_cases h : a.length + b.length > 30
  · refine Ev.step (f := fun k => bindlelaw06_RecordJoins.j4 k a b true) (fun k => ?_) (Joins_j4t a b)
    rw [bindlelaw06_RecordJoins.j3, wadd w, if_pos (by omega)]
  · have hn' := hn (by omega) (by omega)
    by_cases h2 : n > 20000
    · refine Ev.step (f := fun k => bindlelaw06_RecordJoins.j4 k a b true) (fun k => ?_) (Joins_j4t a b)
      rw [bindlelaw06_RecordJoins.j3, wadd w, if_neg (by omega), decide_eq_true (by omega)]
    · refine Ev.step (f := fun k => bindlelaw06_RecordJoins.j4 k a b false) (fun k => ?_) (Joins_j4f a b (by omega) (fun x hx => ?_))
      · rw [bindlelaw06_RecordJoins.j3, wadd w, if_neg (by omega), decide_eq_false (by omega)]
      · rcases List.mem_append.1 hx with hx | hx
        · have := mem_sum hx; omega
        · have := mem_sum hx; omega
theorem sum_small {l : List S42} (hz : ∀ x ∈ l, x.f0.size ≤ 140737488351232 ∧ x.f1.size ≤ 140737488351232) (i : Nat) (hi : i ≤ 31) : sumS (l.take i) ≤ 8725724277776384 := by
  have h := sum_le (B := 281474976702464) (l.take i) (fun x hx => by have := hz x (List.mem_of_mem_take hx); unfold sz2; omega)
  have h3 : (l.take i).length ≤ 31 := by rw [List.length_take]; omega
  omega
theorem Joins_l1 (a b : List S42) (hzb : ∀ x ∈ b, x.f0.size ≤ 140737488351232 ∧ x.f1.size ≤ 140737488351232) (hla : a.length ≤ 140737488351232) (hlb : b.length ≤ 140737488351232) (na : Nat) (hna : a.length ≤ 31 → na = sumS a) (hna2 : na ≤ 8725724277776384) (d : Nat) : ∀ i : Nat, i + d = min b.length 31 → Ev (fun k => bindlelaw06_RecordJoins.l1 k a b ((na + sumS (b.take i) : Nat) : Int) (i : Int)) true := by
  induction d with
  | zero =>
    intro i hi
    refine Ev.step (f := fun k => bindlelaw06_RecordJoins.j3 k a b ((na + sumS (b.take i) : Nat) : Int)) (fun k => ?_) (Joins_j3 a b hla hlb _ (fun h1 h2 => by rw [hna h1, List.take_of_length_le (by omega)]))
    by_cases h : i < b.length
    · rw [bindlelaw06_RecordJoins.l1, if_pos (by omega), if_neg (by omega)]
    · rw [bindlelaw06_RecordJoins.l1, if_neg (by omega)]
  | succ d ih =>
    intro i hi
    have hlt : i < b.length := by omega
    have hzx := hzb b[i] (List.getElem_mem hlt)
    have h1 := sum_small hzb i (by omega)
    have h2 := sum_take_one b i hlt
    have e : na + sumS (b.take i) + b[i].f0.size + b[i].f1.size = na + sumS (b.take (i + 1)) := by unfold sz2 at h2; omega
    refine Ev.step (f := fun k => bindlelaw06_RecordJoins.l1 k a b ((na + sumS (b.take (i + 1)) : Nat) : Int) ((i + 1 : Nat) : Int)) (fun k => ?_) (ih (i + 1) (by omega))
    rw [bindlelaw06_RecordJoins.l1, if_pos (by omega), if_pos (by omega), if_pos (by omega), rd_at b i hlt, wadd (by omega), wadd (by omega), wr64 (by omega), e]
theorem Joins_l0 (a b : List S42) (hza : ∀ x ∈ a, x.f0.size ≤ 140737488351232 ∧ x.f1.size ≤ 140737488351232) (hzb : ∀ x ∈ b, x.f0.size ≤ 140737488351232 ∧ x.f1.size ≤ 140737488351232) (hla : a.length ≤ 140737488351232) (hlb : b.length ≤ 140737488351232) (d : Nat) : ∀ i : Nat, i + d = min a.length 31 → Ev (fun k => bindlelaw06_RecordJoins.l0 k a b ((sumS (a.take i) : Nat) : Int) (i : Int)) true := by
  induction d with
  | zero =>
    intro i hi
    have h1 := sum_small hza i (by omega)
    refine Ev.step (f := fun k => bindlelaw06_RecordJoins.j1 k a b ((sumS (a.take i) : Nat) : Int)) (fun k => ?_) (Ev.step (fun k => ?_) (Joins_l1 a b hzb hla hlb (sumS (a.take i)) (fun h => by rw [List.take_of_length_le (by omega)]) (by omega) (min b.length 31) 0 (by omega)))
    · by_cases h : i < a.length
      · rw [bindlelaw06_RecordJoins.l0, if_pos (by omega), if_neg (by omega)]
      · rw [bindlelaw06_RecordJoins.l0, if_neg (by omega)]
    · rw [bindlelaw06_RecordJoins.j1]
      rfl
  | succ d ih =>
    intro i hi
    have hlt : i < a.length := by omega
    have hzx := hza a[i] (List.getElem_mem hlt)
    have h1 := sum_small hza i (by omega)
    have h2 := sum_take_one a i hlt
    have e : sumS (a.take i) + a[i].f0.size + a[i].f1.size = sumS (a.take (i + 1)) := by unfold sz2 at h2; omega
    refine Ev.step (f := fun k => bindlelaw06_RecordJoins.l0 k a b ((sumS (a.take (i + 1)) : Nat) : Int) ((i + 1 : Nat) : Int)) (fun k => ?_) (ih (i + 1) (by omega))
    rw [bindlelaw06_RecordJoins.l0, if_pos (by omega), if_pos (by omega), if_pos (by omega), rd_at a i hlt, wadd (by omega), wadd (by omega), wr64 (by omega), e]
theorem RecordJoins_true (a b : List S42) (hza : ∀ x ∈ a, x.f0.size ≤ 140737488351232 ∧ x.f1.size ≤ 140737488351232) (hzb : ∀ x ∈ b, x.f0.size ≤ 140737488351232 ∧ x.f1.size ≤ 140737488351232) (hla : a.length ≤ 140737488351232) (hlb : b.length ≤ 140737488351232) : Ev (fun k => bindlelaw06_RecordJoins.f k a b) true := Joins_l0 a b hza hzb hla hlb (min a.length 31) 0 (by omega)
end Go.Proofs.YtgjkkhdjfppeiaaDoor
