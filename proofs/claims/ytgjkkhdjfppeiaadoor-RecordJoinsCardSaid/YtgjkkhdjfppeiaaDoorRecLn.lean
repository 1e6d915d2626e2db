/-
  record.Line, bindleref01.Line, .Dec, .MayRecord and .SameRecords, as printed, over lists of bytes.
-/
import Derived.Test.YtgjkkhdjfppeiaaDoorRecEq
import Derived.Test.YtgjkkhdjfppeiaaDoorRecN
import Derived.Test.YtgjkkhdjfppeiaaDoorPrint30
import Derived.Test.YtgjkkhdjfppeiaaDoorPrint33
import Derived.Test.YtgjkkhdjfppeiaaDoorPrint31
import Derived.Test.YtgjkkhdjfppeiaaDoorPrint27
namespace Go.Proofs.YtgjkkhdjfppeiaaDoor
open Go.RowKit Go.Proofs.YtgjkkhdjfppeiaaDoor.Print Go.Proofs.YtgjkkhdjfppeiaaDoorW.PrintWords
open Lib (decDigits)
theorem ofB_app (a b : List UInt8) : ofB a ++ ofB b = ofB (a ++ b) := by
  have h : (ofB a ++ ofB b).data.toList = a ++ b := by rw [ByteArray.data_append]; simp [ofB]
  rw [← ofB_of (ofB a ++ ofB b), h]
theorem strOf_one (d : Nat) (hd : d < 10) : strOfNums [(48 + (d : Int)) % 256] = ofB [UInt8.ofNat (48 + d)] := by
  have : (48 + (d : Int)) % 256 = ((48 + d : Nat) : Int) := by omega
  rw [this]
  rfl
theorem Dec_loop : ∀ (n : Nat) (acc : List UInt8), acc.length + n ≤ 1000000000000000000 → Ev (fun k => bindleref01_Dec.l0 k (n : Int) (ofB acc)) (ofB ((if n = 0 then [] else decDigits n) ++ acc)) := by
  intro n
  induction n using Nat.strongRecOn with
  | ind n ih =>
    intro acc h
    by_cases h0 : n = 0
    · subst h0
      exact Ev.step (fun k => by rw [bindleref01_Dec.l0, if_neg (by decide)]; rfl) (Ev.now _)
    · rw [if_neg h0]
      have hd : n % 10 < 10 := by omega
      have w1 : wrap64 (48 + Int.tmod (n : Int) 10) = 48 + ((n % 10 : Nat) : Int) := by
        rw [show Int.tmod (n : Int) 10 = ((n % 10 : Nat) : Int) from rfl]
        unfold wrap64; omega
      have w2 : wrap64 (Int.tdiv (n : Int) 10) = ((n / 10 : Nat) : Int) := by
        rw [show Int.tdiv (n : Int) 10 = ((n / 10 : Nat) : Int) from rfl]
        unfold wrap64; omega
      refine Ev.step (f := fun k => bindleref01_Dec.l0 k ((n / 10 : Nat) : Int) (ofB (UInt8.ofNat (48 + n % 10) :: acc))) (fun k => ?_) ?_
      · rw [bindleref01_Dec.l0, if_pos (by omega), w1, w2, Option.bind_some, strOf_one _ hd, if_pos (by rw [ofB_size, ofB_size]; simp only [List.length_cons, List.length_nil]; omega), ofB_app]
        rfl
      · have hi := ih (n / 10) (by omega) (UInt8.ofNat (48 + n % 10) :: acc) (by simp only [List.length_cons]; omega)
        have e : (if n / 10 = 0 then [] else decDigits (n / 10)) ++ (UInt8.ofNat (48 + n % 10) :: acc) = decDigits n ++ acc := by
          rw [dd_eq n]
          by_cases h1 : n < 10
          · rw [if_pos (by omega), if_pos h1, show n % 10 = n by omega]; rfl
          · rw [if_neg (by omega), if_neg h1]; simp
        rw [e] at hi
        exact hi
theorem Dec_eq (n : Nat) (h : n ≤ 1000000000000000) : Ev (fun k => bindleref01_Dec.f k (n : Int)) (ofB (decDigits n)) := by
  by_cases h0 : n = 0
  · subst h0
    refine Ev.congr (fun k => ?_) (Ev.now _)
    unfold bindleref01_Dec.f
    rw [if_pos (by decide), dd_eq, if_pos (by decide)]
    rfl
  · have hl := Dec_loop n [] (by simp only [List.length_nil]; omega)
    rw [if_neg h0, List.append_nil] at hl
    refine Ev.congr (f := fun k => bindleref01_Dec.l0 k (n : Int) (ofB [])) (fun k => ?_) hl
    unfold bindleref01_Dec.f
    rw [if_neg (by omega)]
    rfl
theorem itoa_f (n : Nat) (h : n ≤ 1000000000000000) : strconv_Itoa.f (n : Int) = some (ofB (decDigits n)) := by
  unfold strconv_Itoa.f
  rw [if_pos (by omega)]
  unfold Lib.itoa
  rw [if_neg (by omega)]
  rfl
/-! The lines. -/
theorem body_eq (a b : ByteArray) : (((((⟨#[32]⟩ : ByteArray) ++ a) ++ (⟨#[61]⟩ : ByteArray)) ++ b) ++ (⟨#[10]⟩ : ByteArray)) = ofB (bodyL a.data.toList b.data.toList) := by
  rw [← ofB_of a, ← ofB_of b, show (⟨#[32]⟩ : ByteArray) = ofB [32] from rfl, show (⟨#[61]⟩ : ByteArray) = ofB [61] from rfl, show (⟨#[10]⟩ : ByteArray) = ofB [10] from rfl, ofB_app, ofB_app, ofB_app, ofB_app]
  simp [bodyL, ofB_data]
section
variable {body : List UInt8} {N : Nat} (h : IsLen body.length N) (hb : body.length ≤ 1000000000)
include h hb
theorem RLine_loop (d : Nat) : ∀ m : Nat, body.length ≤ m → m + d = N → Ev (fun k => record_Line.l0 k (ofB body) (m : Int)) (ofB (decDigits N ++ body), true) := by
  have hle := h.le
  have heq := h.eq
  induction d with
  | zero =>
    intro m h1 h2
    have : m = N := by omega
    subst this
    have hnd : (decDigits m).length = nd m := rfl
    refine Ev.step (fun k => ?_) (Ev.now _)
    have w1 : wrap64 (((ofB (decDigits m)).size : Int) + ((ofB body).size : Int)) = (nd m : Int) + (body.length : Int) := by rw [ofB_size, ofB_size, hnd]; unfold wrap64; omega
    rw [record_Line.l0, itoa_f m (by omega), Option.bind_some, w1, if_neg (by omega), Option.bind_some, if_pos (by rw [ofB_size, ofB_size, hnd]; omega), ofB_app]
  | succ d ih =>
    intro m h1 h2
    have hlt := h.all m h1 (by omega)
    have hnd : (decDigits m).length = nd m := rfl
    have hndm := nd_mono N m (by omega)
    refine Ev.step (f := fun k => record_Line.l0 k (ofB body) ((m + 1 : Nat) : Int)) (fun k => ?_) (ih (m + 1) (by omega) (by omega))
    have w1 : wrap64 (((ofB (decDigits m)).size : Int) + ((ofB body).size : Int)) = (nd m : Int) + (body.length : Int) := by rw [ofB_size, ofB_size, hnd]; unfold wrap64; omega
    have w2 : wrap64 ((m : Int) + 1) = ((m + 1 : Nat) : Int) := by unfold wrap64; omega
    rw [record_Line.l0, itoa_f m (by omega), Option.bind_some, w1, if_pos (by omega), w2]
theorem Line_loop (d : Nat) : ∀ m : Nat, body.length ≤ m → m + d = N → Ev (fun k => bindleref01_Line.l0 k (ofB body) (m : Int)) (ofB (decDigits N ++ body)) := by
  have hle := h.le
  have heq := h.eq
  induction d with
  | zero =>
    intro m h1 h2
    have : m = N := by omega
    subst this
    have hnd : (decDigits m).length = nd m := rfl
    have w1 : wrap64 (((ofB (decDigits m)).size : Int) + ((ofB body).size : Int)) = (nd m : Int) + (body.length : Int) := by rw [ofB_size, ofB_size, hnd]; unfold wrap64; omega
    refine Ev.step (f := fun k => (bindleref01_Dec.f k (m : Int)).bind fun t204 => (if (wrap64 ((t204.size : Int) + ((ofB body).size : Int))) = (m : Int) then ((bindleref01_Dec.f k (m : Int)).bind fun t205 => (if t205.size + (ofB body).size ≤ 9223372036854775807 then (some (t205 ++ (ofB body))) else (none))) else (bindleref01_Line.l0 k (ofB body) (wrap64 ((m : Int) + 1))))) (fun k => by rw [bindleref01_Line.l0]) ?_
    refine Ev.bind (Dec_eq m (by omega)) ?_
    refine Ev.congr (f := fun k => (bindleref01_Dec.f k (m : Int)).bind fun t205 => (if t205.size + (ofB body).size ≤ 9223372036854775807 then (some (t205 ++ (ofB body))) else (none))) (fun k => by rw [w1, if_pos (by omega)]) ?_
    refine Ev.bind (Dec_eq m (by omega)) ?_
    exact Ev.congr (fun k => by rw [if_pos (by rw [ofB_size, ofB_size, hnd]; omega), ofB_app]) (Ev.now _)
  | succ d ih =>
    intro m h1 h2
    have hlt := h.all m h1 (by omega)
    have hnd : (decDigits m).length = nd m := rfl
    have hndm := nd_mono N m (by omega)
    have w1 : wrap64 (((ofB (decDigits m)).size : Int) + ((ofB body).size : Int)) = (nd m : Int) + (body.length : Int) := by rw [ofB_size, ofB_size, hnd]; unfold wrap64; omega
    have w2 : wrap64 ((m : Int) + 1) = ((m + 1 : Nat) : Int) := by unfold wrap64; omega
    refine Ev.step (f := fun k => (bindleref01_Dec.f k (m : Int)).bind fun t204 => (if (wrap64 ((t204.size : Int) + ((ofB body).size : Int))) = (m : Int) then ((bindleref01_Dec.f k (m : Int)).bind fun t205 => (if t205.size + (ofB body).size ≤ 9223372036854775807 then (some (t205 ++ (ofB body))) else (none))) else (bindleref01_Line.l0 k (ofB body) (wrap64 ((m : Int) + 1))))) (fun k => by rw [bindleref01_Line.l0]) ?_
    refine Ev.bind (Dec_eq m (by omega)) ?_
    exact Ev.congr (fun k => by rw [w1, if_neg (by omega), w2]) (ih (m + 1) (by omega) (by omega))
end
theorem may_f (a b : ByteArray) (ha : a.size ≤ 50000000) (hb : b.size ≤ 50000000) : record_may.f a b = some (mayL a.data.toList b.data.toList) := by
  have la : a.data.toList.length = a.size := by simp
  have lb : b.data.toList.length = b.size := by simp
  unfold record_may.f
  rw [Lib.toList_data]
  unfold mayL
  by_cases h0 : a.data.toList = []
  · rw [if_pos h0, decide_eq_true h0]; rfl
  · rw [if_neg h0, decide_eq_false h0]
    have hc : strings_Contains.f a ⟨#[61]⟩ = some (decide (0 ≤ Lib.indexByte a.data.toList 61)) := rfl
    have w : wrap64 ((a.size : Int) + (b.size : Int)) = (a.size : Int) + (b.size : Int) := by unfold wrap64; omega
    rw [hc, Option.bind_some, right_f a (by omega), right_f b (by omega), w]
    have hd : decide ((a.size : Int) + (b.size : Int) ≤ 100000) = decide (a.data.toList.length + b.data.toList.length ≤ 100000) := by
      apply decide_eq_decide.2; omega
    rw [hd]
    cases decide (0 ≤ Lib.indexByte a.data.toList 61) <;> cases goodL a.data.toList <;> cases goodL b.data.toList <;> rfl
theorem RLine_no (a b : ByteArray) (ha : a.size ≤ 50000000) (hb : b.size ≤ 50000000) (h : mayL a.data.toList b.data.toList = false) : Ev (fun k => record_Line.f k a b) (ofB [], false) := by
  refine Ev.congr (fun k => ?_) (Ev.now _)
  unfold record_Line.f
  rw [may_f a b ha hb, h, Option.bind_some, if_neg (by decide)]
  rfl
theorem sizes (a b : ByteArray) : ((⟨#[32]⟩ : ByteArray) ++ a).size = 1 + a.size ∧ (((⟨#[32]⟩ : ByteArray) ++ a) ++ (⟨#[61]⟩ : ByteArray)).size = 1 + a.size + 1 ∧ ((((⟨#[32]⟩ : ByteArray) ++ a) ++ (⟨#[61]⟩ : ByteArray)) ++ b).size = 1 + a.size + 1 + b.size := by
  refine ⟨?_, ?_, ?_⟩ <;> simp only [ByteArray.size_append] <;> rfl
theorem RLine_yes (a b : ByteArray) (ha : a.size ≤ 50000000) (hb : b.size ≤ 50000000) (h : mayL a.data.toList b.data.toList = true) {t : List UInt8} (ht : IsLine a.data.toList b.data.toList t) : Ev (fun k => record_Line.f k a b) (ofB t, true) := by
  obtain ⟨N, hN, rfl⟩ := ht
  have la : a.data.toList.length = a.size := by simp
  have lb : b.data.toList.length = b.size := by simp
  have hbl := bodyL_len a.data.toList b.data.toList
  have hl := RLine_loop hN (by omega) (N - (bodyL a.data.toList b.data.toList).length) (bodyL a.data.toList b.data.toList).length (Nat.le_refl _) (by have := hN.gt; omega)
  obtain ⟨s1, s2, s3⟩ := sizes a b
  refine Ev.congr (fun k => ?_) hl
  unfold record_Line.f
  rw [may_f a b ha hb, h, Option.bind_some, if_pos rfl, s1, s2, s3, if_pos (by omega), if_pos (by omega), if_pos (by omega), if_pos (by omega), body_eq, ofB_size]
theorem Line_eq (a b : ByteArray) (ha : a.size ≤ 50000000) (hb : b.size ≤ 50000000) {t : List UInt8} (ht : IsLine a.data.toList b.data.toList t) : Ev (fun k => bindleref01_Line.f k a b) (ofB t) := by
  obtain ⟨N, hN, rfl⟩ := ht
  have la : a.data.toList.length = a.size := by simp
  have lb : b.data.toList.length = b.size := by simp
  have hbl := bodyL_len a.data.toList b.data.toList
  have hl := Line_loop hN (by omega) (N - (bodyL a.data.toList b.data.toList).length) (bodyL a.data.toList b.data.toList).length (Nat.le_refl _) (by have := hN.gt; omega)
  obtain ⟨s1, s2, s3⟩ := sizes a b
  refine Ev.congr (fun k => ?_) hl
  unfold bindleref01_Line.f
  rw [s1, s2, s3, if_pos (by omega), if_pos (by omega), if_pos (by omega), if_pos (by omega), body_eq, ofB_size]
/-! MayRecord -/
theorem May_loop (a b : ByteArray) (ha : a.size ≤ 4000000000000000) (hb : b.size ≤ 4000000000000000) (d : Nat) : ∀ i : Nat, i + d = a.size →
    Ev (fun k => bindleref01_MayRecord.l0 k (i : Int) a b) (!(decide (0 ≤ Lib.indexByte (a.data.toList.drop i) 61)) && (!(decide (a.data.toList = [])) && goodL a.data.toList && goodL b.data.toList && decide (a.data.toList.length + b.data.toList.length ≤ 100000))) := by
  have la : a.data.toList.length = a.size := by simp
  have lb : b.data.toList.length = b.size := by simp
  have w : wrap64 ((a.size : Int) + (b.size : Int)) = (a.size : Int) + (b.size : Int) := by unfold wrap64; omega
  have hd : decide ((a.size : Int) + (b.size : Int) ≤ 100000) = decide (a.data.toList.length + b.data.toList.length ≤ 100000) := by
    apply decide_eq_decide.2; omega
  have ta := Text_eq a (by omega)
  have tb := Text_eq b (by omega)
  rw [show rightB a = goodL a.data.toList from rightB_good a] at ta
  rw [show rightB b = goodL b.data.toList from rightB_good b] at tb
  induction d with
  | zero =>
    intro i hi
    rw [List.drop_eq_nil_of_le (by omega), show decide (0 ≤ Lib.indexByte [] 61) = false from rfl, Bool.not_false, Bool.true_and]
    by_cases h0 : a.data.toList = []
    · rw [decide_eq_true h0]
      exact Ev.step (fun k => by rw [bindleref01_MayRecord.l0, if_neg (by omega), if_pos (by rw [Lib.toList_data]; exact h0)]; rfl) (Ev.now _)
    · rw [decide_eq_false h0]
      refine Ev.step (f := fun k => (bindleref01_Text.f k a).bind fun t198 => (if t198 = true then ((bindleref01_Text.f k b).bind fun t199 => (if t199 = true then (some (decide ((wrap64 ((a.size : Int) + (b.size : Int))) ≤ 100000))) else (some false))) else (some false))) (fun k => by rw [bindleref01_MayRecord.l0, if_neg (by omega), if_neg (by rw [Lib.toList_data]; exact h0)]) ?_
      refine Ev.bind ta ?_
      cases goodL a.data.toList with
      | false => exact Ev.congr (fun k => by rw [if_neg (by decide)]; rfl) (Ev.now _)
      | true =>
        refine Ev.congr (f := fun k => (bindleref01_Text.f k b).bind fun t199 => (if t199 = true then (some (decide ((wrap64 ((a.size : Int) + (b.size : Int))) ≤ 100000))) else (some false))) (fun k => by rw [if_pos rfl]) ?_
        refine Ev.bind tb ?_
        cases goodL b.data.toList with
        | false => exact Ev.congr (fun k => by rw [if_neg (by decide)]; rfl) (Ev.now _)
        | true => exact Ev.congr (fun k => by rw [if_pos rfl, w, hd]; rfl) (Ev.now _)
  | succ d ih =>
    intro i hi
    have hb1 := bt_getD a i
    have hg : a.data.toList.getD i 0 = a.data.toList[i]'(by omega) := by rw [List.getD_eq_getElem?_getD, List.getElem?_eq_getElem (by omega)]; rfl
    rw [List.drop_eq_getElem_cons (by omega)]
    by_cases h1 : a.data.toList[i]'(by omega) = 61
    · have e : decide (0 ≤ Lib.indexByte (a.data.toList[i]'(by omega) :: a.data.toList.drop (i + 1)) 61) = true := by
        rw [h1]; simp [Lib.indexByte]
      rw [e]
      refine Ev.step (fun k => ?_) (Ev.now _)
      rw [bindleref01_MayRecord.l0, if_pos (by omega), if_pos (by omega), if_pos (by rw [hb1, hg, h1]; rfl)]
      rfl
    · have e : decide (0 ≤ Lib.indexByte (a.data.toList[i]'(by omega) :: a.data.toList.drop (i + 1)) 61) = decide (0 ≤ Lib.indexByte (a.data.toList.drop (i + 1)) 61) := by
        apply decide_eq_decide.2
        rw [mem_index, mem_index]
        constructor
        · intro h h2
          refine h (fun c hc => ?_)
          rcases List.mem_cons.1 hc with hc | hc
          · rw [hc]; exact h1
          · exact h2 c hc
        · intro h h2
          exact h (fun c hc => h2 c (List.mem_cons_of_mem _ hc))
      rw [e]
      refine Ev.step (f := fun k => bindleref01_MayRecord.l0 k ((i + 1 : Nat) : Int) a b) (fun k => ?_) (ih (i + 1) (by omega))
      have hne : ¬ bt a (i : Int) = 61 := by
        rw [hb1, hg]
        intro e
        exact h1 (UInt8.toNat_inj.1 (show (a.data.toList[i]'(by omega)).toNat = 61 by omega))
      rw [bindleref01_MayRecord.l0, if_pos (by omega), if_pos (by omega), if_neg hne, w64 (by omega) (by omega)]
      rfl
theorem May_eq (a b : ByteArray) (ha : a.size ≤ 4000000000000000) (hb : b.size ≤ 4000000000000000) : Ev (fun k => bindleref01_MayRecord.f k a b) (mayL a.data.toList b.data.toList) := by
  have h := May_loop a b ha hb a.size 0 (by omega)
  rw [List.drop_zero] at h
  have e : mayL a.data.toList b.data.toList = (!(decide (0 ≤ Lib.indexByte a.data.toList 61)) && (!(decide (a.data.toList = [])) && goodL a.data.toList && goodL b.data.toList && decide (a.data.toList.length + b.data.toList.length ≤ 100000))) := by
    unfold mayL
    cases decide (0 ≤ Lib.indexByte a.data.toList 61) <;> cases decide (a.data.toList = []) <;> cases goodL a.data.toList <;> cases goodL b.data.toList <;> simp
  rw [e]
  exact Ev.congr (fun k => rfl) h
/-! SameRecords -/
theorem Same_self (l : List S42) (hl : l.length ≤ 1000000000000) : Ev (fun k => bindleref01_SameRecords.f k l l) true := by
  have loop : ∀ d i : Nat, i + d = l.length → Ev (fun k => bindleref01_SameRecords.l0 k l l (i : Int)) true := by
    intro d
    induction d with
    | zero => intro i hi; exact Ev.step (fun k => by rw [bindleref01_SameRecords.l0, if_neg (by omega)]) (Ev.now _)
    | succ d ih =>
      intro i hi
      refine Ev.step (f := fun k => bindleref01_SameRecords.l0 k l l ((i + 1 : Nat) : Int)) (fun k => ?_) (ih (i + 1) (by omega))
      rw [bindleref01_SameRecords.l0, if_pos (by omega), if_pos (by omega), if_pos (by omega), w64 (by omega) (by omega)]
      simp
  refine Ev.congr (f := fun k => bindleref01_SameRecords.l0 k l l ((0 : Nat) : Int)) (fun k => ?_) (loop l.length 0 (by omega))
  unfold bindleref01_SameRecords.f
  rw [if_pos rfl]
  rfl
end Go.Proofs.YtgjkkhdjfppeiaaDoor
