/-
  Part of the proof that TreeFolds answers true: texts put together (wip/bundle.py).
-/
import Derived.Test.YtfljbidecljlcaaDoorCTreeFolds3
import Derived.Laws.MakeOwn
import Derived.Laws.Cover1
import Derived.Deep.RegionHeld3
import Derived.Deep.LoopGhost
import Derived.Deep.DeepCutAuto
import Derived.IntWalk
namespace Go.Proofs.YtfljbidecljlcaaDoor
open Go.RowKit Go.Maps Go.Proofs.YtfljbidecljlcaaDoor.Print Go.Proofs.YtfljbidecljlcaaDoorW.PrintWords Go.Proofs.YtfljbidecljlcaaDoorW.PrintLast Go.Proofs.YtfljbidecljlcaaDoorW.PrintMore
set_option linter.unusedVariables false
set_option linter.unusedSimpArgs false
def ldF (m : Mem) (s : PS) (c : Nat) : ByteArray := if m.f2 = 48 then leadOf s c else emp
def ThingsS (w : World) (base : Nat) (l : List Mem) (B : Nat → Nat) (s : PS) : Prop := ∀ c m, l[c]? = some m → ¬ m.f2 = 49 → ThingAt w base (B c) m (ldF m s c)
theorem ThingsS.below {w w1 : World} {base : Nat} {l : List Mem} {B : Nat → Nat} {s : PS} (h : ThingsS w base l B s) (hb : Below w.heap.size w w1) : ThingsS w1 base l B s := fun c m h1 h2 => (h c m h1 h2).below hb
theorem ThingsS.grown {w w1 : World} {base g : Nat} {l : List Mem} {B : Nat → Nat} {s : PS} (h : ThingsS w base l B s) (hg : w.grownBy w1 (some g)) (ho : ∀ cs q, w.heap[g]? = some (.cells cs q (0, 0)) → q ≠ 94 ∧ q ≠ 5) : ThingsS w1 base l B s := fun c m h1 h2 => (h c m h1 h2).grown hg ho
theorem ThingsS.grown_none {w w1 : World} {base : Nat} {l : List Mem} {B : Nat → Nat} {s : PS} (h : ThingsS w base l B s) (hg : w.grownBy w1 none) : ThingsS w1 base l B s := fun c m h1 h2 => by
 obtain ⟨g0, v, hb, hR⟩ := h c m h1 h2
 exact ⟨g0, v, (hg.block _ (blk_lt' hb) (by simp)).trans hb, Kd.R_grown hR hg (fun k _ e => by cases e)⟩
theorem ld_same {m : Mem} {s : PS} {q : ByteArray × Nat} {c : Nat} (h : m.f2 = 48 → q.2 = c → s.any (fun r => decide (r.2 = c)) = true) : ldF m (s ++ [q]) c = ldF m s c := by
 unfold ldF
 by_cases h48 : m.f2 = 48
 ·rw [if_pos h48, if_pos h48, leadOf_snoc]
  by_cases ha : s.any (fun r => decide (r.2 = c)) = true
  ·rw [if_pos ha]
  ·rw [if_neg ha, if_neg (fun e => ha (h h48 e))]
   have ha' : s.any (fun r => decide (r.2 = c)) = false := Bool.eq_false_iff.2 ha
   exact (leadOf_take_none (fun q hq e => by rw [List.any_eq_false] at ha'; exact ha' q hq (decide_eq_true e))).symm
 ·rw [if_neg h48, if_neg h48]
theorem ld_new {m : Mem} {s : PS} {q : ByteArray × Nat} (h48 : m.f2 = 48) (h : s.any (fun r => decide (r.2 = q.2)) = false) : ldF m (s ++ [q]) q.2 = q.1 := by
 unfold ldF
 rw [if_pos h48, leadOf_snoc, if_neg (by rw [h]; simp), if_pos rfl]
theorem ThingsS.stay {w : World} {base : Nat} {l : List Mem} {B : Nat → Nat} {s : PS} {q : ByteArray × Nat} (h : ThingsS w base l B s) (hq : ∀ m, l[q.2]? = some m → m.f2 = 48 → s.any (fun r => decide (r.2 = q.2)) = true) : ThingsS w base l B (s ++ [q]) := fun c m h1 h2 => by
 rw [ld_same (fun h48 e => by subst e; exact hq m h1 h48)]
 exact h c m h1 h2
theorem ThingsS.store {w : World} {base : Nat} {l : List Mem} {B : Nat → Nat} {s : PS} {q : ByteArray × Nat} (h : ThingsS w base l B s) {m : Mem} (hm : l[q.2]? = some m) (h48 : m.f2 = 48) (hn : s.any (fun r => decide (r.2 = q.2)) = false)
  (hinj : ∀ c c' m m', c < c' → l[c]? = some m → ¬ m.f2 = 49 → l[c']? = some m' → ¬ m'.f2 = 49 → B c ≠ B c') : ThingsS (w.setCell ⟨B q.2, 7, none⟩ (.string q.1)) base l B (s ++ [q]) := fun c m' h1 h2 => by
 obtain ⟨_, v0, hb0, _⟩ := h q.2 m hm (by omega)
 obtain ⟨g0, v, hb, hR⟩ := h c m' h1 h2
 have hR' := Kd.R_set hR hb0 (fun k hk => by
  rcases List.mem_cons.1 hk with rfl | hk
  ·decide
  ·cases hk) 7 (.string q.1)
 by_cases e : c = q.2
 ·subst e
  rw [hm] at h1
  cases h1
  rw [ld_new h48 hn]
  exact ⟨g0, v, blk_put hb 7 _ rfl, hR'⟩
 ·rw [ld_same (fun _ e2 => absurd e2.symm e)]
  have hne : B c ≠ B q.2 := by
   rcases Nat.lt_trichotomy c q.2 with h3 | h3 | h3
   ·exact hinj _ _ _ _ h3 h1 h2 hm (by omega)
   ·exact absurd h3 e
   ·exact (hinj _ _ _ _ h3 hm (by omega) h1 h2).symm
  exact ⟨g0, v, (Below.heap_setCell w ⟨B q.2, 7, none⟩ _ _ hne).trans hb, hR'⟩
theorem nodeOf_ld {l : List Mem} {s : PS} {n : Nat} (hn : n < s.length) {m : Mem} (hm : l[s[n].2]? = some m) : nodeOf l s s[n] = ⟨s[n].1, m.f1, ldF m (s.take (n + 1)) s[n].2, m.f2, m.f3, m.f4⟩ := by
 unfold nodeOf ldF
 rw [List.getD_eq_getElem?_getD, hm, leadOf_take hn]
 rfl
def NodRel (l : List Mem) (s : PS) (base d : Nat) (B : Nat → Nat) (W : World) (vq : Value) (n : Int) (v : Value) (wr : World) : Prop :=
 0 ≤ n ∧ n ≤ (sortP s).length ∧ MapS Tryd.prog 9 wr d l.length (dirV B s) ∧ ThingsS wr base l B ((sortP s).take n.toNat) ∧ Kd.N k40 40 wr base (fun k => W.heap.size ≤ k) v (((sortP s).take n.toNat).map (nodeOf l (sortP s))) ∧
  Kd.R Kd.string 9 wr W.heap.size (fun _ => True) vq ((sortP s).map (fun q => q.1)) ∧ Below base W wr
def NodMid (l : List Mem) (s : PS) (base d : Nat) (B : Nat → Nat) (W : World) (vq : Value) (n : Int) (out : List Node) (v : Value) (wr : World) : Prop :=
 MapS Tryd.prog 9 wr d l.length (dirV B s) ∧ ThingsS wr base l B ((sortP s).take (n.toNat + 1)) ∧ Kd.N k40 40 wr base (fun k => W.heap.size ≤ k) v out ∧
  Kd.R Kd.string 9 wr W.heap.size (fun _ => True) vq ((sortP s).map (fun q => q.1)) ∧ Below base W wr
theorem mid_next {l : List Mem} {s : PS} {base d : Nat} {B : Nat → Nat} {W wm w5 w6 : World} {vq v v6 : Value} {n : Int} (h0 : 0 ≤ n) (hn : n.toNat < (sortP s).length) {out : List Node} (hout : ((sortP s).take n.toNat).map (nodeOf l (sortP s)) = out) (h : NodMid l s base d B W vq n out v wm) (hb5 : Below wm.heap.size wm w5) (hg : w5.grownBy w6 v.ownBlock) (hd : d < W.heap.size) (hbase : base ≤ W.heap.size) (hw : W.heap.size ≤ wm.heap.size)
  (hN : Kd.N k40 40 w6 base (fun k => W.heap.size ≤ k) v6 (out ++ [nodeOf l (sortP s) ((sortP s)[n.toNat])])) (hB : Below base W w6) : NodRel l s base d B W vq (n + 1) v6 w6 := by
 obtain ⟨hM, hT, hNv, hR, hBm⟩ := h
 have hNv5 := Kd.N_below hNv hb5
 have e1 : (n + 1).toNat = n.toNat + 1 := by omega
 have hown : ∀ k, v.ownBlock = some k → W.heap.size ≤ k := fun k hk => hNv5.1 k hk
 refine ⟨by omega, by omega, (hM.below hb5).kept hg (fun e => by have := hown d e.symm; omega), ?_, ?_, ?_, hB⟩
 ·rw [e1]
  cases hv : v.ownBlock with
  | none => exact (hT.below hb5).grown_none (by rw [hv] at hg; exact hg)
  | some g =>
   rw [hv] at hg
   refine (hT.below hb5).grown hg (fun cs q hc => ?_)
   obtain ⟨cs', hc'⟩ := Kd.N_typed hNv5 g hv
   rw [hc'] at hc
   injection hc with hc
   injection hc with _ hc
   subst hc
   decide
 ·rw [e1, List.take_succ_eq_append_getElem hn, List.map_append, hout]
  exact hN
 ·have hR5 := Kd.R_below hR hb5
  refine Kd.R_mono (Kd.R_grown (Kd.R_bound hR5) hg (fun k hk e => ?_)) (fun _ _ => trivial)
  obtain ⟨_, _, _, q, hq, cs, hc⟩ := hk
  obtain ⟨cs', hc'⟩ := Kd.N_typed hNv5 k e.symm
  rw [hc'] at hc
  injection hc with hc
  injection hc with _ hc
  rcases List.mem_cons.1 hq with h | h
  ·rw [h] at hc; exact absurd hc (by decide)
  ·cases h
theorem thing_soft {w : World} {b : Nat} {m : Mem} {v : Value} {ld : ByteArray} (h : w.heap[b]? = some (.cells (thingCells m v ld) 94 (0, 0))) (j : Nat) : w.frozen? ⟨b, j, none⟩ = false := by
 unfold World.frozen?
 dsimp only
 rw [h]
 rfl
theorem sorted_row {w : World} {b : Nat} {v : Value} {ss : List (List UInt8)} {s : PS} (h : w.ownsRow b 9 1 v ss.length ((ss.mergeSort (fun x y => decide (x ≤ y))).map encStr)) (hp : ss.Perm (keysP s)) (hn : (s.map (fun q => q.1)).Nodup) :
  (∃ A c, v = .slice A (sortP s).length c) ∧ Kd.R Kd.string 9 w b (fun _ => True) v ((sortP s).map (fun q => q.1)) := by
 have hR : Kd.R Kd.string 9 w b (fun _ => True) v ((sortP s).map (fun q => q.1)) := by
  refine Kd.R_of_own ?_ (fun _ _ => trivial)
  rw [keys_sorted hn hp] at h
  have e1 : ss.length = ((sortP s).map (fun q => q.1)).length := by rw [hp.length_eq, List.length_map, sortP_len]; unfold keysP; rw [List.length_map]
  rw [e1] at h
  have e2 : (keysP (sortP s)).map encStr = encs Value.string ((sortP s).map (fun q => q.1)) := by
   unfold keysP encs
   rw [List.map_map, List.map_map]
   refine List.map_congr_left (fun q _ => ?_)
   simp [encStr]
  rw [e2] at h
  exact h
 obtain ⟨A, c, e⟩ := Kd.R_slice hR
 exact ⟨⟨A, c, by rw [e, List.length_map]⟩, hR⟩
theorem made_N (W : World) (base n : Nat) (cur : Array Value) (hb : base ≤ W.heap.size) (hc : cur.size = n * 9) (hn : n ≤ maxLen) : Kd.N k40 40 (W.alloc (.cells cur 40)) base (fun k => W.heap.size ≤ k) (.slice (some ⟨W.heap.size, 0, none⟩) 0 n) [] :=
 ⟨fun k hk => by simp [Value.ownBlock] at hk; omega, [], rfl, ⟨fun k hk => hk.symm, [], World.ownsRow_made W cur n hb hn hc, Reps.none _ _⟩, fun j x c h => by simp at h⟩
theorem drew_below {w wq : World} (h : w.drew = wq) : Below w.heap.size w wq := by rw [← h]; exact below_drew (Below.refl _ _)
theorem rcell' {W w1 : World} {row : Option Nat} (hg : W.grownBy w1 row) {g o : Nat} {v : Value} (hne : some g ≠ row) (h : W.cell? ⟨g, o, none⟩ = some v) : w1.cell? ⟨g, o, none⟩ = some v := (World.cell?_of_block (a := ⟨g, o, none⟩) (hg.block g (World.block_lt_of_cell? W _ h) hne)).trans h
set_option maxRecDepth 100000 in
set_option maxHeartbeats 8000000 in
theorem Nodes_calls (base d : Nat) (l : List Mem) (s : PS) (B : Nat → Nat) (W : World) (hlen : l.length ≤ 1000000000000) (hz : ∀ m ∈ l, m.f4.length ≤ 140737488351232) (hD : DirS W base d l.length l s B) (hI : FInv l l.length s) (hbase : base ≤ W.heap.size) :
  Calls Tryd.prog 47 #[.map (some d)] W fun e W' => ∃ v, e = .returned v ∧ Kd.N k40 40 W' base (fun k => W.heap.size ≤ k) v ((sortP s).map (nodeOf l (sortP s))) ∧ Below base W W' := by
 have hdlt : d < W.heap.size := hD.1.lt
 have hsle : s.length ≤ 1000000000000 := by have := hI.len; omega
 have hsl : ((sortP s).length : Int) ≤ 1000000000000 := by rw [sortP_len]; omega
 have hkeys : ∀ w, MapS Tryd.prog 9 w d l.length (dirV B s) → ∃ D : DataW Value, w.ownsMap Tryd.prog 9 heldE d l.length D ∧ (keysP s).Perm (strKeys D) ∧ Maps.size D = s.length := fun w h => by
  obtain ⟨D, h1, h2, h3⟩ := h.keys Tryd.underlying9 (keysP_nodup hI.nodup) (fun k => by rw [atD_is]; unfold dirV; cases atD s k <;> rfl)
  exact ⟨D, h1, h2, by rw [h3]; unfold keysP; rw [List.length_map]⟩
 obtain ⟨D0, hown0, hperm0, hsz0⟩ := hkeys W hD.1
 obtain ⟨i0, hi0, hzz⟩ := Option.map_eq_some_iff.1 info40
 simp only [Prod.mk.injEq] at hzz
 have hmk := fun w : World => run_make (P := Tryd.prog) w 22 40 i0 _ Tryd.underlying22 hi0 hzz.1 .i64 .i64 0 (s.length : Int) (by omega) (by omega) (by rw [hzz.2.2]; omega) (by omega)
 rw [hzz.2.1] at hmk
 simp only [Int.toNat_zero, Int.toNat_natCast] at hmk
 generalize hcur : madeCells _ (s.length * 9) = cur at hmk
 have hcs : cur.size = s.length * 9 := by rw [← hcur]; exact size_madeCells _ _
 obtain ⟨D1, hown1, hperm1, hsz1⟩ := hkeys (W.alloc (.cells cur 40)) (hD.1.alloc _)
 have hN0 := made_N W base s.length cur hbase hcs (by unfold maxLen; omega)
 have hcS := callsIn_wide.1 (Tryd.slices_Sorted_keys_66_67 d l.length D1 heldE _ hown1 (by rw [hsz1]; unfold maxLen; omega) (by rw [hsz1]; omega))
 simp only [World.size_alloc] at hcS
 have HCS := Aside0.mk hcS
 have HKK := Aside0.mk hperm1
 have HN0 := Aside0.mk hN0
 have HD := Aside0.mk hD
 have HI := Aside0.mk hI
 have HZ := Aside0.mk hz
 have HO0 := Aside0.mk hown0
 have HS0 := Aside0.mk hsz0
 clear hkeys hown0 hperm0 hsz0 hi0 hzz hcur hcs hown1 hperm1 hsz1 hN0 hD hI hz hcS
 generalize hpost : (fun (e : Ending) (W' : World) => ∃ v, e = .returned v ∧ Kd.N k40 40 W' base (fun k => W.heap.size ≤ k) v ((sortP s).map (nodeOf l (sortP s))) ∧ Below base W W') = Q
 have hQ := Aside0.mk hpost
 clear hpost
 go_enter Tryd.func47, Tryd.ntmps47
 go_wp2_with (first
  | (at_len; refine wpList_len_own _ rfl _ 71 rfl 9 92 Tryd.underlying71 heldE d l.length D0 rfl HO0.out ?_; rw [HS0.out])
  | (go_at_call 67; refine (callsIn_wide.1 (Tryd.maps_Keys_67 _ _)).mono ?_; rintro e w' ⟨rfl, rfl⟩)
  | (go_at_call 66; refine HCS.out.mono ?_; rintro e w2 ⟨vq, ss, rfl, hS, hrow, hnil, hb2⟩; obtain ⟨⟨Aq, cq, rfl⟩, hRq⟩ := sorted_row hrow (hS.trans HKK.out.symm) HI.out.nodup; have HRq := Aside0.mk hRq; have HB2 := Aside0.mk hb2; clear hS hrow hnil hb2 hRq))
 have hBA := below_alloc (below_alloc (Below.refl W.heap.size W) (Obj.cells cur 40)) (Obj.cells #[Value.map (some d)] 71)
 have hB2 : Below W.heap.size W w2 := hBA.trans (HB2.out.mono (by omega))
 have hstart : NodRel l s base d B W (.slice Aq (sortP s).length cq) 0 (.slice (some ⟨W.heap.size, 0, none⟩) 0 s.length) w2 := by
  refine ⟨by omega, by omega, HD.out.1.below hB2, fun c m h1 h2 => ?_, Kd.N_below (Kd.N_alloc HN0.out _) (by rw [World.size_alloc, World.size_alloc]; exact HB2.out), Kd.R_lower HRq.out (by omega), hB2.mono hbase⟩
  have := (HD.out.2.1 c m h1 (List.getElem?_eq_some_iff.1 h1).1 h2).below hB2
  have e : ldF m ((sortP s).take (0 : Int).toNat) c = emp := by unfold ldF; split <;> rfl
  rw [e]
  exact this
 have HST := Aside0.mk hstart
 clear hstart hB2 hBA HRq HB2
 go_loopw [14, 3] (fun i o wr => ∃ n : Int, i = .int .i64 n ∧ Aside0 (NodRel l s base d B W (.slice Aq (sortP s).length cq) n o wr)) (fun i _ _ => ((sortP s).length - (intOf i)).toNat)
 case atStart => exact ⟨0, rfl, HST⟩
 case round =>
  obtain ⟨n, rfl, HR⟩ := hrel
  have h0 := HR.out.1
  have h1 := HR.out.2.1
  have HW : Aside0 (W.heap.size ≤ wr.heap.size) := ⟨HR.out.2.2.2.2.2.2.size⟩
  have hNv := HR.out.2.2.2.2.1
  generalize hout : ((sortP s).take n.toNat).map (nodeOf l (sortP s)) = out at hNv
  obtain ⟨Ao, co, rfl⟩ := Kd.N_slice hNv
  have hol : out.length = n.toNat := by rw [← hout, List.length_map, List.length_take]; omega
  have HOL := Aside0.mk hol
  have HOUT := Aside0.mk hout
  have HNV := Aside0.mk hNv
  clear hol hout hNv
  by_cases hlt : n < ((sortP s).length : Int)
  ·have c1b : decide (n < ((sortP s).length : Int)) = true := decide_eq_true hlt
   have hnl : n.toNat < (sortP s).length := by omega
   have hqm : (sortP s)[n.toNat] ∈ s := (sortP_perm s).mem_iff.1 (List.getElem_mem _)
   obtain ⟨hc, m, hm, h49⟩ := HI.out.cls _ hqm
   have hfull := HI.out.full _ hqm
   have hps : ((sortP s)[n.toNat]).1.size ≤ maxLen := by have := HI.out.small _ hqm; unfold maxLen; omega
   have hat := atD_of_mem HI.out.nodup hqm
   have hCq := (Kd.R_reads' HR.out.2.2.2.2.2.1).2.2
   rw [List.length_map] at hCq
   obtain ⟨ad, hAq, x0⟩ := Kd.at_string hCq n h0 hlt
   have hx : rdOf ByteArray.empty ((sortP s).map (fun q => q.1)) n = (sortP s)[n.toNat].1 := by
    unfold rdOf
    rw [List.getD_eq_getElem?_getD, List.getElem?_map, List.getElem?_eq_getElem hnl]
    rfl
   rw [hx] at x0
   cases hAq
   have hdv : dirV B s (sortP s)[n.toNat].1.data.toList = some (.pointer (some ⟨B (sortP s)[n.toNat].2, 0, none⟩)) := by unfold dirV; rw [hat]; rfl
   have hlook := HR.out.2.2.1.look Tryd.underlying9 Tryd.underlying71 (zeroThing _) hps
   rw [hdv] at hlook
   simp only [Option.getD_some] at hlook
   have htk := List.take_succ_eq_append_getElem hnl
   have hnode := nodeOf_ld hnl hm
   have hTs := HR.out.2.2.2.1
   obtain ⟨hg0, v, hblk, hRb⟩ := hTs _ m hm h49
   generalize hqe : (sortP s)[n.toNat] = q at hqm hc hm hfull hps hat x0 hdv hlook htk hnode hblk hRb hg0
   obtain ⟨hk0, hk1, hk2, hk3, hk4, hk5, hk6, hk7⟩ := thing_cells hblk
   have hfz := thing_soft hblk 7
   have HTK := Aside0.mk htk
   have HND := Aside0.mk hnode
   have HM := Aside0.mk hm
   have H49 := Aside0.mk h49
   have HQE := Aside0.mk hqe
   have HFU := Aside0.mk hfull
   have hBlt := blk_lt' hblk
   have hmid : ∀ wm, (wm = wr ∧ (m.f2 = 48 → ((sortP s).take n.toNat).any (fun r => decide (r.2 = q.2)) = true) ∨ wm = wr.setCell ⟨B q.2, 7, none⟩ (.string q.1) ∧ m.f2 = 48 ∧ ((sortP s).take n.toNat).any (fun r => decide (r.2 = q.2)) = false) →
     NodMid l s base d B W (.slice (some ad) (sortP s).length cq) n out (.slice Ao out.length co) wm ∧ wr.heap.size = wm.heap.size := by
    rintro wm (⟨rfl, h⟩ | ⟨rfl, h48, h⟩)
    ·refine ⟨⟨HR.out.2.2.1, ?_, HNV.out, HR.out.2.2.2.2.2.1, HR.out.2.2.2.2.2.2⟩, rfl⟩
     rw [HTK.out]
     exact hTs.stay (fun m' hm' h48 => by rw [HM.out] at hm'; cases hm'; exact h h48)
    ·refine ⟨⟨HR.out.2.2.1.setCell (a := ⟨B q.2, 7, none⟩) (fun e => ?_) _, ?_, Kd.N_far HNV.out (p := ⟨B q.2, 7, none⟩) (fun k hk e => ?_) _, Kd.R_set HR.out.2.2.2.2.2.1 hblk (fun k hk => ?_) 7 _, HR.out.2.2.2.2.2.2.setCell (p := ⟨B q.2, 7, none⟩) hg0 _⟩, (World.size_setCell _ _ _).symm⟩
     ·have e' : d = B q.2 := e
      rw [← e'] at hblk
      exact HR.out.2.2.1.isMap _ _ hblk
     ·rw [HTK.out]
      exact hTs.store HM.out h48 h (fun c c' m1 m2 h1 h2 h3 h4 h5 => HD.out.2.2 c c' m1 m2 h1 (List.getElem?_eq_some_iff.1 h4).1 h2 h3 h4 h5)
     ·have e' : k = B q.2 := e
      have h8 : B q.2 < W.heap.size := (HD.out.2.1 _ m HM.out (List.getElem?_eq_some_iff.1 HM.out).1 H49.out).lt
      omega
     ·rcases List.mem_cons.1 hk with rfl | hk
      ·decide
      ·cases hk
   have HMID := Aside0.mk hmid
   have hlf := leadOf_full (s := (sortP s).take n.toNat) (fun r hr => HI.out.full r ((sortP_perm s).mem_iff.1 (List.mem_of_mem_take hr))) q.2
   have HLF := Aside0.mk hlf
   clear hqm hc hm hat hdv htk hnode hTs hRb hqe hfull hmid hlf hCq hx hblk h49
   by_cases h48 : m.f2 = 48
   ·have e48 : (m.f2 == 48) = true := beq_iff_eq.2 h48
    have eld : ldF m ((sortP s).take n.toNat) q.2 = leadOf ((sortP s).take n.toNat) q.2 := by unfold ldF; rw [if_pos h48]
    rw [eld] at hk7
    generalize hld : leadOf ((sortP s).take n.toNat) q.2 = ld0 at hk7
    have H48 := Aside0.mk h48
    have HLD := Aside0.mk hld
    clear h48 eld hld
    cases ha : ((sortP s).take n.toNat).any (fun r => decide (r.2 = q.2)) with
    | true =>
     have hne : (ld0.toList == []) = false := by rw [beq_eq_false_iff_ne, ← HLD.out]; intro e; rw [HLF.out.1 e] at ha; cases ha
     have hne2 : ld0.toList ≠ [] := by simpa using hne
     obtain ⟨hmid, hwz⟩ := HMID.out wr (.inl ⟨rfl, fun _ => ha⟩)
     have HMM := Aside0.mk hmid
     clear ha hmid
     go_upto_region 8 with (fail)
     obtain ⟨_, vb, hbm, hRm⟩ := HMM.out.2.1 q.2 m HM.out H49.out
     obtain ⟨Ab, cb, rfl, hlb, hCb⟩ := Kd.R_reads hRm
     rw [HTK.out] at hbm
     generalize hldn : ldF m ((sortP s).take n.toNat ++ [q]) q.2 = ldn at hbm
     obtain ⟨j0, j1, j2, j3, j4, j5, j6, j7⟩ := thing_cells hbm
     have HCB := Aside0.mk hCb
     have HLB := Aside0.mk hlb
     have HLN := Aside0.mk hldn
     have HBM := Aside0.mk hbm
     have hwlt : W.heap.size ≤ wr.heap.size := HW.out
     clear hRm hCb hlb hldn hbm hk0 hk1 hk2 hk3 hk4 hk5 hk6 hk7
     refine start_ (n := 27) (S := fun w' => w'.cell? ⟨B q.2, 0, none⟩ = some (.int .u8 m.f2) ∧ w'.cell? ⟨B q.2, 1, none⟩ = some (.int .i64 m.f3.f0) ∧ w'.cell? ⟨B q.2, 2, none⟩ = some (.int .i64 m.f3.f1) ∧ w'.cell? ⟨B q.2, 3, none⟩ = some (.int .i64 m.f3.f2) ∧ w'.cell? ⟨B q.2, 4, none⟩ = some (.int .i64 m.f3.f3) ∧ w'.cell? ⟨B q.2, 5, none⟩ = some (.string m.f1) ∧ w'.cell? ⟨B q.2, 6, none⟩ = some (.slice Ab m.f4.length cb) ∧ w'.cell? ⟨B q.2, 7, none⟩ = some (.string ldn)) (ds := []) #[false, false, false, false, false, false, false, false, false, false, false, false, false, false, false, false, false, false, false, false, false, false, false, false, false, false, false] (by kernel_rfl) rfl rfl ⟨j0, j1, j2, j3, j4, j5, j6, j7⟩ (fun hHeld => ?_)
     generalize hwq : World.drew _ = wq at hHeld ⊢
     have hzq : wr.heap.size = wq.heap.size := by rw [← hwq]; exact hwz
     have HNQ : Aside0 (Kd.N k40 40 wq base (fun k => W.heap.size ≤ k) (.slice Ao out.length co) out) := ⟨by rw [← hwq]; exact Kd.N_drew HMM.out.2.2.1⟩
     have HBQ : Aside0 (Below base W wq) := ⟨by rw [← hwq]; exact below_drew HMM.out.2.2.2.2⟩
     have HOB := Aside0.mk (Kd.N_lt HNQ.out)
     have HNE : Aside0 (∀ w5 : World, Below wq.heap.size wq w5 → some (B q.2) ≠ (Value.slice Ao out.length co).ownBlock) := ⟨fun w5 hb => Kd.N_ne (cells := thingCells m (.slice Ab m.f4.length cb) ldn) (t := 94) HNQ.out (by rw [← hwq]; exact HBM.out) (by decide)⟩
     refine pure_ (i := 0) (N := some 37) (v := ?_) (a' := ?_) #[true, false, false, false, false, false, false, false, false, false, false, false, false, false, false, false, false, false, false, false, false, false, false, false, false, false, false] rfl rfl (by kernel_rfl) (fun _ _ _ h => h) (Or.inl ⟨by rfl, ?_⟩) ?_ ?_
     rotate_left
     ·intro w'
      go_simp
      with_reducible rfl
     rotate_left
     ·simp only [Act.put, List.setIfInBounds_toArray, List.set_cons_zero, List.set_cons_succ, i64_w, i32_w]
      rfl
     refine pure_ (i := 1) (N := some 38) (v := ?_) (a' := ?_) #[true, true, false, false, false, false, false, false, false, false, false, false, false, false, false, false, false, false, false, false, false, false, false, false, false, false, false] rfl rfl (by kernel_rfl) (fun _ _ _ h => h) (Or.inl ⟨by rfl, ?_⟩) ?_ ?_
     rotate_left
     ·intro w'
      go_simp
      with_reducible rfl
     rotate_left
     ·simp only [Act.put, List.setIfInBounds_toArray, List.set_cons_zero, List.set_cons_succ, i64_w, i32_w]
      rfl
     refine pure_ (i := 2) (N := some 39) (v := ?_) (a' := ?_) #[true, true, true, false, false, false, false, false, false, false, false, false, false, false, false, false, false, false, false, false, false, false, false, false, false, false, false] rfl rfl (by kernel_rfl) (fun _ _ _ h => h) (Or.inl ⟨by rfl, ?_⟩) ?_ ?_
     rotate_left
     ·intro w'
      go_simp
      with_reducible rfl
     rotate_left
     ·simp only [Act.put, List.setIfInBounds_toArray, List.set_cons_zero, List.set_cons_succ, i64_w, i32_w]
      rfl
     refine pure_ (i := 3) (N := some 40) (v := ?_) (a' := ?_) #[true, true, true, true, false, false, false, false, false, false, false, false, false, false, false, false, false, false, false, false, false, false, false, false, false, false, false] rfl rfl (by kernel_rfl) (fun _ _ _ h => h) (Or.inl ⟨by rfl, ?_⟩) ?_ ?_
     rotate_left
     ·intro w'
      go_simp
      with_reducible rfl
     rotate_left
     ·simp only [Act.put, List.setIfInBounds_toArray, List.set_cons_zero, List.set_cons_succ, i64_w, i32_w]
      rfl
     refine pure_ (i := 4) (N := some 41) (v := ?_) (a' := ?_) #[true, true, true, true, true, false, false, false, false, false, false, false, false, false, false, false, false, false, false, false, false, false, false, false, false, false, false] rfl rfl (by kernel_rfl) (fun _ _ _ h => h) (Or.inl ⟨by rfl, ?_⟩) ?_ ?_
     rotate_left
     ·intro w'
      go_simp
      with_reducible rfl
     rotate_left
     ·simp only [Act.put, List.setIfInBounds_toArray, List.set_cons_zero, List.set_cons_succ, i64_w, i32_w]
      rfl
     refine take_ (i := 5) (N := some 42) (v := ?_) (a' := ?_) #[true, true, true, true, true, true, false, false, false, false, false, false, false, false, false, false, false, false, false, false, false, false, false, false, false, false, false] rfl rfl (by kernel_rfl) (fun _ _ _ h => h) (Or.inl ⟨by rfl, ?_⟩) hHeld ?_ ?_
     rotate_left
     ·rintro w' ⟨s0, s1, s2, s3, s4, s5, s6, s7⟩
      go_simp
      with_reducible rfl
     rotate_left
     ·simp only [Act.put, List.setIfInBounds_toArray, List.set_cons_zero, List.set_cons_succ, i64_w, i32_w]
      rfl
     refine pure_ (i := 6) (N := some 43) (v := ?_) (a' := ?_) #[true, true, true, true, true, true, true, false, false, false, false, false, false, false, false, false, false, false, false, false, false, false, false, false, false, false, false] rfl rfl (by kernel_rfl) (fun _ _ _ h => h) (Or.inl ⟨by rfl, ?_⟩) ?_ ?_
     rotate_left
     ·intro w'
      go_simp
      with_reducible rfl
     rotate_left
     ·simp only [Act.put, List.setIfInBounds_toArray, List.set_cons_zero, List.set_cons_succ, i64_w, i32_w]
      rfl
     refine pure_ (i := 7) (N := some 44) (v := ?_) (a' := ?_) #[true, true, true, true, true, true, true, true, false, false, false, false, false, false, false, false, false, false, false, false, false, false, false, false, false, false, false] rfl rfl (by kernel_rfl) (fun _ _ _ h => h) (Or.inl ⟨by rfl, ?_⟩) ?_ ?_
     rotate_left
     ·intro w'
      go_simp
      with_reducible rfl
     rotate_left
     ·simp only [Act.put, List.setIfInBounds_toArray, List.set_cons_zero, List.set_cons_succ, i64_w, i32_w]
      rfl
     refine pure_ (i := 8) (N := some 45) (v := ?_) (a' := ?_) #[true, true, true, true, true, true, true, true, true, false, false, false, false, false, false, false, false, false, false, false, false, false, false, false, false, false, false] rfl rfl (by kernel_rfl) (fun _ _ _ h => h) (Or.inl ⟨by rfl, ?_⟩) ?_ ?_
     rotate_left
     ·intro w'
      go_simp
      with_reducible rfl
     rotate_left
     ·simp only [Act.put, List.setIfInBounds_toArray, List.set_cons_zero, List.set_cons_succ, i64_w, i32_w]
      rfl
     refine take_ (i := 9) (N := some 46) (v := ?_) (a' := ?_) #[true, true, true, true, true, true, true, true, true, true, false, false, false, false, false, false, false, false, false, false, false, false, false, false, false, false, false] rfl rfl (by kernel_rfl) (fun _ _ _ h => h) (Or.inl ⟨by rfl, ?_⟩) hHeld ?_ ?_
     rotate_left
     ·rintro w' ⟨s0, s1, s2, s3, s4, s5, s6, s7⟩
      go_simp
      with_reducible rfl
     rotate_left
     ·simp only [Act.put, List.setIfInBounds_toArray, List.set_cons_zero, List.set_cons_succ, i64_w, i32_w]
      rfl
     refine pure_ (i := 10) (N := some 47) (v := ?_) (a' := ?_) #[true, true, true, true, true, true, true, true, true, true, true, false, false, false, false, false, false, false, false, false, false, false, false, false, false, false, false] rfl rfl (by kernel_rfl) (fun _ _ _ h => h) (Or.inl ⟨by rfl, ?_⟩) ?_ ?_
     rotate_left
     ·intro w'
      go_simp
      with_reducible rfl
     rotate_left
     ·simp only [Act.put, List.setIfInBounds_toArray, List.set_cons_zero, List.set_cons_succ, i64_w, i32_w]
      rfl
     refine pure_ (i := 11) (N := some 48) (v := ?_) (a' := ?_) #[true, true, true, true, true, true, true, true, true, true, true, true, false, false, false, false, false, false, false, false, false, false, false, false, false, false, false] rfl rfl (by kernel_rfl) (fun _ _ _ h => h) (Or.inl ⟨by rfl, ?_⟩) ?_ ?_
     rotate_left
     ·intro w'
      go_simp
      with_reducible rfl
     rotate_left
     ·simp only [Act.put, List.setIfInBounds_toArray, List.set_cons_zero, List.set_cons_succ, i64_w, i32_w]
      rfl
     refine pure_ (i := 12) (N := some 49) (v := ?_) (a' := ?_) #[true, true, true, true, true, true, true, true, true, true, true, true, true, false, false, false, false, false, false, false, false, false, false, false, false, false, false] rfl rfl (by kernel_rfl) (fun _ _ _ h => h) (Or.inl ⟨by rfl, ?_⟩) ?_ ?_
     rotate_left
     ·intro w'
      go_simp
      with_reducible rfl
     rotate_left
     ·simp only [Act.put, List.setIfInBounds_toArray, List.set_cons_zero, List.set_cons_succ, i64_w, i32_w]
      rfl
     refine take_ (i := 13) (N := some 50) (v := ?_) (a' := ?_) #[true, true, true, true, true, true, true, true, true, true, true, true, true, true, false, false, false, false, false, false, false, false, false, false, false, false, false] rfl rfl (by kernel_rfl) (fun _ _ _ h => h) (Or.inl ⟨by rfl, ?_⟩) hHeld ?_ ?_
     rotate_left
     ·rintro w' ⟨s0, s1, s2, s3, s4, s5, s6, s7⟩
      go_simp
      with_reducible rfl
     rotate_left
     ·simp only [Act.put, List.setIfInBounds_toArray, List.set_cons_zero, List.set_cons_succ, i64_w, i32_w]
      rfl
     refine pure_ (i := 14) (N := some 51) (v := ?_) (a' := ?_) #[true, true, true, true, true, true, true, true, true, true, true, true, true, true, true, false, false, false, false, false, false, false, false, false, false, false, false] rfl rfl (by kernel_rfl) (fun _ _ _ h => h) (Or.inl ⟨by rfl, ?_⟩) ?_ ?_
     rotate_left
     ·intro w'
      go_simp
      with_reducible rfl
     rotate_left
     ·simp only [Act.put, List.setIfInBounds_toArray, List.set_cons_zero, List.set_cons_succ, i64_w, i32_w]
      rfl
     refine pure_ (i := 15) (N := some 52) (v := ?_) (a' := ?_) #[true, true, true, true, true, true, true, true, true, true, true, true, true, true, true, true, false, false, false, false, false, false, false, false, false, false, false] rfl rfl (by kernel_rfl) (fun _ _ _ h => h) (Or.inl ⟨by rfl, ?_⟩) ?_ ?_
     rotate_left
     ·intro w'
      go_simp
      with_reducible rfl
     rotate_left
     ·simp only [Act.put, List.setIfInBounds_toArray, List.set_cons_zero, List.set_cons_succ, i64_w, i32_w]
      rfl
     refine pure_ (i := 16) (N := some 53) (v := ?_) (a' := ?_) #[true, true, true, true, true, true, true, true, true, true, true, true, true, true, true, true, true, false, false, false, false, false, false, false, false, false, false] rfl rfl (by kernel_rfl) (fun _ _ _ h => h) (Or.inl ⟨by rfl, ?_⟩) ?_ ?_
     rotate_left
     ·intro w'
      go_simp
      with_reducible rfl
     rotate_left
     ·simp only [Act.put, List.setIfInBounds_toArray, List.set_cons_zero, List.set_cons_succ, i64_w, i32_w]
      rfl
     refine take_ (i := 17) (N := some 54) (v := ?_) (a' := ?_) #[true, true, true, true, true, true, true, true, true, true, true, true, true, true, true, true, true, true, false, false, false, false, false, false, false, false, false] rfl rfl (by kernel_rfl) (fun _ _ _ h => h) (Or.inl ⟨by rfl, ?_⟩) hHeld ?_ ?_
     rotate_left
     ·rintro w' ⟨s0, s1, s2, s3, s4, s5, s6, s7⟩
      go_simp
      with_reducible rfl
     rotate_left
     ·simp only [Act.put, List.setIfInBounds_toArray, List.set_cons_zero, List.set_cons_succ, i64_w, i32_w]
      rfl
     refine pure_ (i := 18) (N := some 55) (v := ?_) (a' := ?_) #[true, true, true, true, true, true, true, true, true, true, true, true, true, true, true, true, true, true, true, false, false, false, false, false, false, false, false] rfl rfl (by kernel_rfl) (fun _ _ _ h => h) (Or.inl ⟨by rfl, ?_⟩) ?_ ?_
     rotate_left
     ·intro w'
      go_simp
      with_reducible rfl
     rotate_left
     ·simp only [Act.put, List.setIfInBounds_toArray, List.set_cons_zero, List.set_cons_succ, i64_w, i32_w]
      rfl
     refine pure_ (i := 19) (N := some 56) (v := ?_) (a' := ?_) #[true, true, true, true, true, true, true, true, true, true, true, true, true, true, true, true, true, true, true, true, false, false, false, false, false, false, false] rfl rfl (by kernel_rfl) (fun _ _ _ h => h) (Or.inl ⟨by rfl, ?_⟩) ?_ ?_
     rotate_left
     ·intro w'
      go_simp
      with_reducible rfl
     rotate_left
     ·simp only [Act.put, List.setIfInBounds_toArray, List.set_cons_zero, List.set_cons_succ, i64_w, i32_w]
      rfl
     refine pure_ (i := 20) (N := some 57) (v := ?_) (a' := ?_) #[true, true, true, true, true, true, true, true, true, true, true, true, true, true, true, true, true, true, true, true, true, false, false, false, false, false, false] rfl rfl (by kernel_rfl) (fun _ _ _ h => h) (Or.inl ⟨by rfl, ?_⟩) ?_ ?_
     rotate_left
     ·intro w'
      go_simp
      with_reducible rfl
     rotate_left
     ·simp only [Act.put, List.setIfInBounds_toArray, List.set_cons_zero, List.set_cons_succ, i64_w, i32_w]
      rfl
     refine take_ (i := 21) (N := some 58) (v := ?_) (a' := ?_) #[true, true, true, true, true, true, true, true, true, true, true, true, true, true, true, true, true, true, true, true, true, true, false, false, false, false, false] rfl rfl (by kernel_rfl) (fun _ _ _ h => h) (Or.inl ⟨by rfl, ?_⟩) hHeld ?_ ?_
     rotate_left
     ·rintro w' ⟨s0, s1, s2, s3, s4, s5, s6, s7⟩
      go_simp
      with_reducible rfl
     rotate_left
     ·simp only [Act.put, List.setIfInBounds_toArray, List.set_cons_zero, List.set_cons_succ, i64_w, i32_w]
      rfl
     refine one_ (i := 22) (N := some 59) #[true, true, true, true, true, true, true, true, true, true, true, true, true, true, true, true, true, true, true, true, true, true, true, false, false, false, false] rfl rfl (by kernel_rfl) (by decide) (fun K hK => ?_)
     refine goes_ Tryd.func59 (by kernel_rfl) rfl #[.slice Ab m.f4.length cb] (by rfl) rfl rfl (by first | rfl | (simp [Act.eval]; done)) ?_
     refine (Clone_calls Ab cb m.f4 wq (by rw [← hwq]; exact Kd.C_drew HCB.out) (HZ.out m (List.mem_of_getElem? HM.out))).mono ?_
     rintro e w5 ⟨v5, rfl, hR5, hb5⟩
     obtain ⟨Av, cv, rfl, hlv, hCv⟩ := Kd.R_reads hR5
     refine ⟨_, rfl, ?_⟩
     refine hK.out _ _ ⟨fkeep hb5 hHeld.1, fkeep hb5 hHeld.2.1, fkeep hb5 hHeld.2.2.1, fkeep hb5 hHeld.2.2.2.1, fkeep hb5 hHeld.2.2.2.2.1, fkeep hb5 hHeld.2.2.2.2.2.1, fkeep hb5 hHeld.2.2.2.2.2.2.1, fkeep hb5 hHeld.2.2.2.2.2.2.2⟩ (fun hHeld2 => ?_)
     clear hK K
     have HR5 := Aside0.mk hR5
     have HB5 := Aside0.mk hb5
     have HLV := Aside0.mk hlv
     clear hR5 hCv hlv
     refine norm_ (a' := ?_) ?_ ?_
     rotate_left
     ·show Act.put _ (some 59) _ = _
      simp only [Act.put, List.setIfInBounds_toArray, List.set_cons_zero, List.set_cons_succ, i64_w, i32_w]
      rfl
     refine pure_ (i := 23) (N := some 60) (v := ?_) (a' := ?_) #[true, true, true, true, true, true, true, true, true, true, true, true, true, true, true, true, true, true, true, true, true, true, true, true, false, false, false] rfl rfl (by kernel_rfl) (fun _ _ _ h => h) (Or.inl ⟨by rfl, ?_⟩) ?_ ?_
     rotate_left
     ·intro w'
      go_simp
      with_reducible rfl
     rotate_left
     ·simp only [Act.put, List.setIfInBounds_toArray, List.set_cons_zero, List.set_cons_succ, i64_w, i32_w]
      rfl
     refine one_ (i := 24) (N := some 61) #[true, true, true, true, true, true, true, true, true, true, true, true, true, true, true, true, true, true, true, true, true, true, true, true, true, false, false] rfl rfl (by kernel_rfl) (by decide) (fun K hK => ?_)
     refine value_ (w1 := ?_) (v := ?_) (by rfl) rfl ?_ ?_
     rotate_left 2
     ·go_simp
      constructor
      ·rfl
      ·rfl
     refine hK.out _ _ ⟨fcell hHeld2.1 _, fcell hHeld2.2.1 _, fcell hHeld2.2.2.1 _, fcell hHeld2.2.2.2.1 _, fcell hHeld2.2.2.2.2.1 _, fcell hHeld2.2.2.2.2.2.1 _, fcell hHeld2.2.2.2.2.2.2.1 _, fcell hHeld2.2.2.2.2.2.2.2 _⟩ (fun hHeld3 => ?_)
     clear hK K
     refine norm_ (a' := ?_) ?_ ?_
     rotate_left
     ·show Act.put _ (some 61) _ = _
      simp only [Act.put, List.setIfInBounds_toArray, List.set_cons_zero, List.set_cons_succ, i64_w, i32_w]
      rfl
     refine one_ (i := 25) (N := some 62) #[true, true, true, true, true, true, true, true, true, true, true, true, true, true, true, true, true, true, true, true, true, true, true, true, true, true, false] rfl rfl (by kernel_rfl) (by decide) (fun K hK => ?_)
     refine Kd.N_append_step k40 (w0 := W) (W := w5) base (by rfl) (.tmp 37) (.tmp 61) 22 40 (.agg #[(.string ⟨#[]⟩), (.string ⟨#[]⟩), (.string ⟨#[]⟩), (.int .u8 0), (.int .i64 0), (.int .i64 0), (.int .i64 0), (.int .i64 0), (.slice none 0 0)]) 112 rfl Tryd.underlying22 info40 rfl (by decide) (by decide) (.slice Ao out.length co) out (⟨q.1, m.f1, ldn, m.f2, m.f3, m.f4⟩ : Node) [.string q.1, .string m.f1, .string ldn, .int .u8 m.f2, .int .i64 m.f3.f0, .int .i64 m.f3.f1, .int .i64 m.f3.f2, .int .i64 m.f3.f3, .slice Av m.f4.length cv] (fun k => W.heap.size ≤ k) (fun k => wq.heap.size ≤ k ∧ k < w5.heap.size) (by rfl) rfl (k40_mkF w5 _ _ HLV.out (Kd.R_F (Kd.R_mono (Kd.R_bound HR5.out) (fun k hk => ⟨hk.2.1, hk.2.2.1⟩)))) (fun k hk => ⟨by have := hk.1; omega, fun e => by have := HOB.out k e.symm; have := hk.1; omega⟩) (fun k hk => by have := HB5.out.size; omega) (Kd.N_below HNQ.out HB5.out) (HBQ.out.trans (HB5.out.mono (by omega))) (by have := HB5.out.size; omega) (by rw [HOL.out]; omega) ?_
     intro v6 w6 hN6 hB6 hg6 hat6
     have HN6 := Aside0.mk hN6
     have HB6 := Aside0.mk hB6
     have HG6 := Aside0.mk hg6
     clear hN6 hB6 hat6
     refine hK.out _ _ ⟨rcell' hg6 (HNE.out _ HB5.out) hHeld2.1, rcell' hg6 (HNE.out _ HB5.out) hHeld2.2.1, rcell' hg6 (HNE.out _ HB5.out) hHeld2.2.2.1, rcell' hg6 (HNE.out _ HB5.out) hHeld2.2.2.2.1, rcell' hg6 (HNE.out _ HB5.out) hHeld2.2.2.2.2.1, rcell' hg6 (HNE.out _ HB5.out) hHeld2.2.2.2.2.2.1, rcell' hg6 (HNE.out _ HB5.out) hHeld2.2.2.2.2.2.2.1, rcell' hg6 (HNE.out _ HB5.out) hHeld2.2.2.2.2.2.2.2⟩ (fun hHeld4 => ?_)
     clear hK K hg6 hHeld hHeld2 hHeld3 hb5
     refine norm_ (a' := ?_) ?_ ?_
     rotate_left
     ·show Act.put _ (some 62) _ = _
      simp only [Act.put, List.setIfInBounds_toArray, List.set_cons_zero, List.set_cons_succ, i64_w, i32_w]
      rfl
     refine pure_ (i := 26) (N := some 3) (v := ?_) (a' := ?_) #[true, true, true, true, true, true, true, true, true, true, true, true, true, true, true, true, true, true, true, true, true, true, true, true, true, true, true] rfl rfl (by kernel_rfl) (fun _ _ _ h => h) (Or.inl ⟨by rfl, ?_⟩) ?_ ?_
     rotate_left
     ·intro w'
      go_simp
      with_reducible rfl
     rotate_left
     ·simp only [Act.put, List.setIfInBounds_toArray, List.set_cons_zero, List.set_cons_succ, i64_w, i32_w]
      rfl
     refine done_ (by kernel_rfl) ?_
     have hfin : NodRel l s base d B W (.slice (some ad) (sortP s).length cq) (n + 1) v6 w6 := by
      refine mid_next h0 hnl HOUT.out HMM.out ((drew_below hwq).trans (HB5.out.mono (by rw [← hwq]; exact Nat.le_refl _))) HG6.out hdlt hbase (by omega) ?_ HB6.out
      ·have e := HND.out
       rw [HTK.out, HLN.out] at e
       rw [HQE.out, e]
       exact HN6.out
     have HFIN := Aside0.mk hfin
     clear hfin HN6 HB6 HG6 HB5 HR5 HNQ HBQ hHeld4 j0 j1 j2 j3 j4 j5 j6 j7
     go_wp2_with (fail)
     go_roundw
     case rel => exact ⟨n + 1, by go_num, HFIN⟩
     case measure => simp [intOf]; omega
    | false =>
     have hem : ld0.toList = [] := by rw [← HLD.out]; exact HLF.out.2 ha
     have hem2 : (ld0.toList == []) = true := by simpa using hem
     obtain ⟨hmid, hwz⟩ := HMID.out _ (.inr ⟨rfl, H48.out, ha⟩)
     have HMM := Aside0.mk hmid
     clear ha hmid
     go_upto_region 8 with (fail)
     obtain ⟨_, vb, hbm, hRm⟩ := HMM.out.2.1 q.2 m HM.out H49.out
     obtain ⟨Ab, cb, rfl, hlb, hCb⟩ := Kd.R_reads hRm
     rw [HTK.out] at hbm
     generalize hldn : ldF m ((sortP s).take n.toNat ++ [q]) q.2 = ldn at hbm
     obtain ⟨j0, j1, j2, j3, j4, j5, j6, j7⟩ := thing_cells hbm
     have HCB := Aside0.mk hCb
     have HLB := Aside0.mk hlb
     have HLN := Aside0.mk hldn
     have HBM := Aside0.mk hbm
     have hwlt : W.heap.size ≤ wr.heap.size := HW.out
     clear hRm hCb hlb hldn hbm hk0 hk1 hk2 hk3 hk4 hk5 hk6 hk7
     refine start_ (n := 27) (S := fun w' => w'.cell? ⟨B q.2, 0, none⟩ = some (.int .u8 m.f2) ∧ w'.cell? ⟨B q.2, 1, none⟩ = some (.int .i64 m.f3.f0) ∧ w'.cell? ⟨B q.2, 2, none⟩ = some (.int .i64 m.f3.f1) ∧ w'.cell? ⟨B q.2, 3, none⟩ = some (.int .i64 m.f3.f2) ∧ w'.cell? ⟨B q.2, 4, none⟩ = some (.int .i64 m.f3.f3) ∧ w'.cell? ⟨B q.2, 5, none⟩ = some (.string m.f1) ∧ w'.cell? ⟨B q.2, 6, none⟩ = some (.slice Ab m.f4.length cb) ∧ w'.cell? ⟨B q.2, 7, none⟩ = some (.string ldn)) (ds := []) #[false, false, false, false, false, false, false, false, false, false, false, false, false, false, false, false, false, false, false, false, false, false, false, false, false, false, false] (by kernel_rfl) rfl rfl ⟨j0, j1, j2, j3, j4, j5, j6, j7⟩ (fun hHeld => ?_)
     generalize hwq : World.drew _ = wq at hHeld ⊢
     have hzq : wr.heap.size = wq.heap.size := by rw [← hwq]; exact hwz
     have HNQ : Aside0 (Kd.N k40 40 wq base (fun k => W.heap.size ≤ k) (.slice Ao out.length co) out) := ⟨by rw [← hwq]; exact Kd.N_drew HMM.out.2.2.1⟩
     have HBQ : Aside0 (Below base W wq) := ⟨by rw [← hwq]; exact below_drew HMM.out.2.2.2.2⟩
     have HOB := Aside0.mk (Kd.N_lt HNQ.out)
     have HNE : Aside0 (∀ w5 : World, Below wq.heap.size wq w5 → some (B q.2) ≠ (Value.slice Ao out.length co).ownBlock) := ⟨fun w5 hb => Kd.N_ne (cells := thingCells m (.slice Ab m.f4.length cb) ldn) (t := 94) HNQ.out (by rw [← hwq]; exact HBM.out) (by decide)⟩
     refine pure_ (i := 0) (N := some 37) (v := ?_) (a' := ?_) #[true, false, false, false, false, false, false, false, false, false, false, false, false, false, false, false, false, false, false, false, false, false, false, false, false, false, false] rfl rfl (by kernel_rfl) (fun _ _ _ h => h) (Or.inl ⟨by rfl, ?_⟩) ?_ ?_
     rotate_left
     ·intro w'
      go_simp
      with_reducible rfl
     rotate_left
     ·simp only [Act.put, List.setIfInBounds_toArray, List.set_cons_zero, List.set_cons_succ, i64_w, i32_w]
      rfl
     refine pure_ (i := 1) (N := some 38) (v := ?_) (a' := ?_) #[true, true, false, false, false, false, false, false, false, false, false, false, false, false, false, false, false, false, false, false, false, false, false, false, false, false, false] rfl rfl (by kernel_rfl) (fun _ _ _ h => h) (Or.inl ⟨by rfl, ?_⟩) ?_ ?_
     rotate_left
     ·intro w'
      go_simp
      with_reducible rfl
     rotate_left
     ·simp only [Act.put, List.setIfInBounds_toArray, List.set_cons_zero, List.set_cons_succ, i64_w, i32_w]
      rfl
     refine pure_ (i := 2) (N := some 39) (v := ?_) (a' := ?_) #[true, true, true, false, false, false, false, false, false, false, false, false, false, false, false, false, false, false, false, false, false, false, false, false, false, false, false] rfl rfl (by kernel_rfl) (fun _ _ _ h => h) (Or.inl ⟨by rfl, ?_⟩) ?_ ?_
     rotate_left
     ·intro w'
      go_simp
      with_reducible rfl
     rotate_left
     ·simp only [Act.put, List.setIfInBounds_toArray, List.set_cons_zero, List.set_cons_succ, i64_w, i32_w]
      rfl
     refine pure_ (i := 3) (N := some 40) (v := ?_) (a' := ?_) #[true, true, true, true, false, false, false, false, false, false, false, false, false, false, false, false, false, false, false, false, false, false, false, false, false, false, false] rfl rfl (by kernel_rfl) (fun _ _ _ h => h) (Or.inl ⟨by rfl, ?_⟩) ?_ ?_
     rotate_left
     ·intro w'
      go_simp
      with_reducible rfl
     rotate_left
     ·simp only [Act.put, List.setIfInBounds_toArray, List.set_cons_zero, List.set_cons_succ, i64_w, i32_w]
      rfl
     refine pure_ (i := 4) (N := some 41) (v := ?_) (a' := ?_) #[true, true, true, true, true, false, false, false, false, false, false, false, false, false, false, false, false, false, false, false, false, false, false, false, false, false, false] rfl rfl (by kernel_rfl) (fun _ _ _ h => h) (Or.inl ⟨by rfl, ?_⟩) ?_ ?_
     rotate_left
     ·intro w'
      go_simp
      with_reducible rfl
     rotate_left
     ·simp only [Act.put, List.setIfInBounds_toArray, List.set_cons_zero, List.set_cons_succ, i64_w, i32_w]
      rfl
     refine take_ (i := 5) (N := some 42) (v := ?_) (a' := ?_) #[true, true, true, true, true, true, false, false, false, false, false, false, false, false, false, false, false, false, false, false, false, false, false, false, false, false, false] rfl rfl (by kernel_rfl) (fun _ _ _ h => h) (Or.inl ⟨by rfl, ?_⟩) hHeld ?_ ?_
     rotate_left
     ·rintro w' ⟨s0, s1, s2, s3, s4, s5, s6, s7⟩
      go_simp
      with_reducible rfl
     rotate_left
     ·simp only [Act.put, List.setIfInBounds_toArray, List.set_cons_zero, List.set_cons_succ, i64_w, i32_w]
      rfl
     refine pure_ (i := 6) (N := some 43) (v := ?_) (a' := ?_) #[true, true, true, true, true, true, true, false, false, false, false, false, false, false, false, false, false, false, false, false, false, false, false, false, false, false, false] rfl rfl (by kernel_rfl) (fun _ _ _ h => h) (Or.inl ⟨by rfl, ?_⟩) ?_ ?_
     rotate_left
     ·intro w'
      go_simp
      with_reducible rfl
     rotate_left
     ·simp only [Act.put, List.setIfInBounds_toArray, List.set_cons_zero, List.set_cons_succ, i64_w, i32_w]
      rfl
     refine pure_ (i := 7) (N := some 44) (v := ?_) (a' := ?_) #[true, true, true, true, true, true, true, true, false, false, false, false, false, false, false, false, false, false, false, false, false, false, false, false, false, false, false] rfl rfl (by kernel_rfl) (fun _ _ _ h => h) (Or.inl ⟨by rfl, ?_⟩) ?_ ?_
     rotate_left
     ·intro w'
      go_simp
      with_reducible rfl
     rotate_left
     ·simp only [Act.put, List.setIfInBounds_toArray, List.set_cons_zero, List.set_cons_succ, i64_w, i32_w]
      rfl
     refine pure_ (i := 8) (N := some 45) (v := ?_) (a' := ?_) #[true, true, true, true, true, true, true, true, true, false, false, false, false, false, false, false, false, false, false, false, false, false, false, false, false, false, false] rfl rfl (by kernel_rfl) (fun _ _ _ h => h) (Or.inl ⟨by rfl, ?_⟩) ?_ ?_
     rotate_left
     ·intro w'
      go_simp
      with_reducible rfl
     rotate_left
     ·simp only [Act.put, List.setIfInBounds_toArray, List.set_cons_zero, List.set_cons_succ, i64_w, i32_w]
      rfl
     refine take_ (i := 9) (N := some 46) (v := ?_) (a' := ?_) #[true, true, true, true, true, true, true, true, true, true, false, false, false, false, false, false, false, false, false, false, false, false, false, false, false, false, false] rfl rfl (by kernel_rfl) (fun _ _ _ h => h) (Or.inl ⟨by rfl, ?_⟩) hHeld ?_ ?_
     rotate_left
     ·rintro w' ⟨s0, s1, s2, s3, s4, s5, s6, s7⟩
      go_simp
      with_reducible rfl
     rotate_left
     ·simp only [Act.put, List.setIfInBounds_toArray, List.set_cons_zero, List.set_cons_succ, i64_w, i32_w]
      rfl
     refine pure_ (i := 10) (N := some 47) (v := ?_) (a' := ?_) #[true, true, true, true, true, true, true, true, true, true, true, false, false, false, false, false, false, false, false, false, false, false, false, false, false, false, false] rfl rfl (by kernel_rfl) (fun _ _ _ h => h) (Or.inl ⟨by rfl, ?_⟩) ?_ ?_
     rotate_left
     ·intro w'
      go_simp
      with_reducible rfl
     rotate_left
     ·simp only [Act.put, List.setIfInBounds_toArray, List.set_cons_zero, List.set_cons_succ, i64_w, i32_w]
      rfl
     refine pure_ (i := 11) (N := some 48) (v := ?_) (a' := ?_) #[true, true, true, true, true, true, true, true, true, true, true, true, false, false, false, false, false, false, false, false, false, false, false, false, false, false, false] rfl rfl (by kernel_rfl) (fun _ _ _ h => h) (Or.inl ⟨by rfl, ?_⟩) ?_ ?_
     rotate_left
     ·intro w'
      go_simp
      with_reducible rfl
     rotate_left
     ·simp only [Act.put, List.setIfInBounds_toArray, List.set_cons_zero, List.set_cons_succ, i64_w, i32_w]
      rfl
     refine pure_ (i := 12) (N := some 49) (v := ?_) (a' := ?_) #[true, true, true, true, true, true, true, true, true, true, true, true, true, false, false, false, false, false, false, false, false, false, false, false, false, false, false] rfl rfl (by kernel_rfl) (fun _ _ _ h => h) (Or.inl ⟨by rfl, ?_⟩) ?_ ?_
     rotate_left
     ·intro w'
      go_simp
      with_reducible rfl
     rotate_left
     ·simp only [Act.put, List.setIfInBounds_toArray, List.set_cons_zero, List.set_cons_succ, i64_w, i32_w]
      rfl
     refine take_ (i := 13) (N := some 50) (v := ?_) (a' := ?_) #[true, true, true, true, true, true, true, true, true, true, true, true, true, true, false, false, false, false, false, false, false, false, false, false, false, false, false] rfl rfl (by kernel_rfl) (fun _ _ _ h => h) (Or.inl ⟨by rfl, ?_⟩) hHeld ?_ ?_
     rotate_left
     ·rintro w' ⟨s0, s1, s2, s3, s4, s5, s6, s7⟩
      go_simp
      with_reducible rfl
     rotate_left
     ·simp only [Act.put, List.setIfInBounds_toArray, List.set_cons_zero, List.set_cons_succ, i64_w, i32_w]
      rfl
     refine pure_ (i := 14) (N := some 51) (v := ?_) (a' := ?_) #[true, true, true, true, true, true, true, true, true, true, true, true, true, true, true, false, false, false, false, false, false, false, false, false, false, false, false] rfl rfl (by kernel_rfl) (fun _ _ _ h => h) (Or.inl ⟨by rfl, ?_⟩) ?_ ?_
     rotate_left
     ·intro w'
      go_simp
      with_reducible rfl
     rotate_left
     ·simp only [Act.put, List.setIfInBounds_toArray, List.set_cons_zero, List.set_cons_succ, i64_w, i32_w]
      rfl
     refine pure_ (i := 15) (N := some 52) (v := ?_) (a' := ?_) #[true, true, true, true, true, true, true, true, true, true, true, true, true, true, true, true, false, false, false, false, false, false, false, false, false, false, false] rfl rfl (by kernel_rfl) (fun _ _ _ h => h) (Or.inl ⟨by rfl, ?_⟩) ?_ ?_
     rotate_left
     ·intro w'
      go_simp
      with_reducible rfl
     rotate_left
     ·simp only [Act.put, List.setIfInBounds_toArray, List.set_cons_zero, List.set_cons_succ, i64_w, i32_w]
      rfl
     refine pure_ (i := 16) (N := some 53) (v := ?_) (a' := ?_) #[true, true, true, true, true, true, true, true, true, true, true, true, true, true, true, true, true, false, false, false, false, false, false, false, false, false, false] rfl rfl (by kernel_rfl) (fun _ _ _ h => h) (Or.inl ⟨by rfl, ?_⟩) ?_ ?_
     rotate_left
     ·intro w'
      go_simp
      with_reducible rfl
     rotate_left
     ·simp only [Act.put, List.setIfInBounds_toArray, List.set_cons_zero, List.set_cons_succ, i64_w, i32_w]
      rfl
     refine take_ (i := 17) (N := some 54) (v := ?_) (a' := ?_) #[true, true, true, true, true, true, true, true, true, true, true, true, true, true, true, true, true, true, false, false, false, false, false, false, false, false, false] rfl rfl (by kernel_rfl) (fun _ _ _ h => h) (Or.inl ⟨by rfl, ?_⟩) hHeld ?_ ?_
     rotate_left
     ·rintro w' ⟨s0, s1, s2, s3, s4, s5, s6, s7⟩
      go_simp
      with_reducible rfl
     rotate_left
     ·simp only [Act.put, List.setIfInBounds_toArray, List.set_cons_zero, List.set_cons_succ, i64_w, i32_w]
      rfl
     refine pure_ (i := 18) (N := some 55) (v := ?_) (a' := ?_) #[true, true, true, true, true, true, true, true, true, true, true, true, true, true, true, true, true, true, true, false, false, false, false, false, false, false, false] rfl rfl (by kernel_rfl) (fun _ _ _ h => h) (Or.inl ⟨by rfl, ?_⟩) ?_ ?_
     rotate_left
     ·intro w'
      go_simp
      with_reducible rfl
     rotate_left
     ·simp only [Act.put, List.setIfInBounds_toArray, List.set_cons_zero, List.set_cons_succ, i64_w, i32_w]
      rfl
     refine pure_ (i := 19) (N := some 56) (v := ?_) (a' := ?_) #[true, true, true, true, true, true, true, true, true, true, true, true, true, true, true, true, true, true, true, true, false, false, false, false, false, false, false] rfl rfl (by kernel_rfl) (fun _ _ _ h => h) (Or.inl ⟨by rfl, ?_⟩) ?_ ?_
     rotate_left
     ·intro w'
      go_simp
      with_reducible rfl
     rotate_left
     ·simp only [Act.put, List.setIfInBounds_toArray, List.set_cons_zero, List.set_cons_succ, i64_w, i32_w]
      rfl
     refine pure_ (i := 20) (N := some 57) (v := ?_) (a' := ?_) #[true, true, true, true, true, true, true, true, true, true, true, true, true, true, true, true, true, true, true, true, true, false, false, false, false, false, false] rfl rfl (by kernel_rfl) (fun _ _ _ h => h) (Or.inl ⟨by rfl, ?_⟩) ?_ ?_
     rotate_left
     ·intro w'
      go_simp
      with_reducible rfl
     rotate_left
     ·simp only [Act.put, List.setIfInBounds_toArray, List.set_cons_zero, List.set_cons_succ, i64_w, i32_w]
      rfl
     refine take_ (i := 21) (N := some 58) (v := ?_) (a' := ?_) #[true, true, true, true, true, true, true, true, true, true, true, true, true, true, true, true, true, true, true, true, true, true, false, false, false, false, false] rfl rfl (by kernel_rfl) (fun _ _ _ h => h) (Or.inl ⟨by rfl, ?_⟩) hHeld ?_ ?_
     rotate_left
     ·rintro w' ⟨s0, s1, s2, s3, s4, s5, s6, s7⟩
      go_simp
      with_reducible rfl
     rotate_left
     ·simp only [Act.put, List.setIfInBounds_toArray, List.set_cons_zero, List.set_cons_succ, i64_w, i32_w]
      rfl
     refine one_ (i := 22) (N := some 59) #[true, true, true, true, true, true, true, true, true, true, true, true, true, true, true, true, true, true, true, true, true, true, true, false, false, false, false] rfl rfl (by kernel_rfl) (by decide) (fun K hK => ?_)
     refine goes_ Tryd.func59 (by kernel_rfl) rfl #[.slice Ab m.f4.length cb] (by rfl) rfl rfl (by first | rfl | (simp [Act.eval]; done)) ?_
     refine (Clone_calls Ab cb m.f4 wq (by rw [← hwq]; exact Kd.C_drew HCB.out) (HZ.out m (List.mem_of_getElem? HM.out))).mono ?_
     rintro e w5 ⟨v5, rfl, hR5, hb5⟩
     obtain ⟨Av, cv, rfl, hlv, hCv⟩ := Kd.R_reads hR5
     refine ⟨_, rfl, ?_⟩
     refine hK.out _ _ ⟨fkeep hb5 hHeld.1, fkeep hb5 hHeld.2.1, fkeep hb5 hHeld.2.2.1, fkeep hb5 hHeld.2.2.2.1, fkeep hb5 hHeld.2.2.2.2.1, fkeep hb5 hHeld.2.2.2.2.2.1, fkeep hb5 hHeld.2.2.2.2.2.2.1, fkeep hb5 hHeld.2.2.2.2.2.2.2⟩ (fun hHeld2 => ?_)
     clear hK K
     have HR5 := Aside0.mk hR5
     have HB5 := Aside0.mk hb5
     have HLV := Aside0.mk hlv
     clear hR5 hCv hlv
     refine norm_ (a' := ?_) ?_ ?_
     rotate_left
     ·show Act.put _ (some 59) _ = _
      simp only [Act.put, List.setIfInBounds_toArray, List.set_cons_zero, List.set_cons_succ, i64_w, i32_w]
      rfl
     refine pure_ (i := 23) (N := some 60) (v := ?_) (a' := ?_) #[true, true, true, true, true, true, true, true, true, true, true, true, true, true, true, true, true, true, true, true, true, true, true, true, false, false, false] rfl rfl (by kernel_rfl) (fun _ _ _ h => h) (Or.inl ⟨by rfl, ?_⟩) ?_ ?_
     rotate_left
     ·intro w'
      go_simp
      with_reducible rfl
     rotate_left
     ·simp only [Act.put, List.setIfInBounds_toArray, List.set_cons_zero, List.set_cons_succ, i64_w, i32_w]
      rfl
     refine one_ (i := 24) (N := some 61) #[true, true, true, true, true, true, true, true, true, true, true, true, true, true, true, true, true, true, true, true, true, true, true, true, true, false, false] rfl rfl (by kernel_rfl) (by decide) (fun K hK => ?_)
     refine value_ (w1 := ?_) (v := ?_) (by rfl) rfl ?_ ?_
     rotate_left 2
     ·go_simp
      constructor
      ·rfl
      ·rfl
     refine hK.out _ _ ⟨fcell hHeld2.1 _, fcell hHeld2.2.1 _, fcell hHeld2.2.2.1 _, fcell hHeld2.2.2.2.1 _, fcell hHeld2.2.2.2.2.1 _, fcell hHeld2.2.2.2.2.2.1 _, fcell hHeld2.2.2.2.2.2.2.1 _, fcell hHeld2.2.2.2.2.2.2.2 _⟩ (fun hHeld3 => ?_)
     clear hK K
     refine norm_ (a' := ?_) ?_ ?_
     rotate_left
     ·show Act.put _ (some 61) _ = _
      simp only [Act.put, List.setIfInBounds_toArray, List.set_cons_zero, List.set_cons_succ, i64_w, i32_w]
      rfl
     refine one_ (i := 25) (N := some 62) #[true, true, true, true, true, true, true, true, true, true, true, true, true, true, true, true, true, true, true, true, true, true, true, true, true, true, false] rfl rfl (by kernel_rfl) (by decide) (fun K hK => ?_)
     refine Kd.N_append_step k40 (w0 := W) (W := w5) base (by rfl) (.tmp 37) (.tmp 61) 22 40 (.agg #[(.string ⟨#[]⟩), (.string ⟨#[]⟩), (.string ⟨#[]⟩), (.int .u8 0), (.int .i64 0), (.int .i64 0), (.int .i64 0), (.int .i64 0), (.slice none 0 0)]) 112 rfl Tryd.underlying22 info40 rfl (by decide) (by decide) (.slice Ao out.length co) out (⟨q.1, m.f1, ldn, m.f2, m.f3, m.f4⟩ : Node) [.string q.1, .string m.f1, .string ldn, .int .u8 m.f2, .int .i64 m.f3.f0, .int .i64 m.f3.f1, .int .i64 m.f3.f2, .int .i64 m.f3.f3, .slice Av m.f4.length cv] (fun k => W.heap.size ≤ k) (fun k => wq.heap.size ≤ k ∧ k < w5.heap.size) (by rfl) rfl (k40_mkF w5 _ _ HLV.out (Kd.R_F (Kd.R_mono (Kd.R_bound HR5.out) (fun k hk => ⟨hk.2.1, hk.2.2.1⟩)))) (fun k hk => ⟨by have := hk.1; omega, fun e => by have := HOB.out k e.symm; have := hk.1; omega⟩) (fun k hk => by have := HB5.out.size; omega) (Kd.N_below HNQ.out HB5.out) (HBQ.out.trans (HB5.out.mono (by omega))) (by have := HB5.out.size; omega) (by rw [HOL.out]; omega) ?_
     intro v6 w6 hN6 hB6 hg6 hat6
     have HN6 := Aside0.mk hN6
     have HB6 := Aside0.mk hB6
     have HG6 := Aside0.mk hg6
     clear hN6 hB6 hat6
     refine hK.out _ _ ⟨rcell' hg6 (HNE.out _ HB5.out) hHeld2.1, rcell' hg6 (HNE.out _ HB5.out) hHeld2.2.1, rcell' hg6 (HNE.out _ HB5.out) hHeld2.2.2.1, rcell' hg6 (HNE.out _ HB5.out) hHeld2.2.2.2.1, rcell' hg6 (HNE.out _ HB5.out) hHeld2.2.2.2.2.1, rcell' hg6 (HNE.out _ HB5.out) hHeld2.2.2.2.2.2.1, rcell' hg6 (HNE.out _ HB5.out) hHeld2.2.2.2.2.2.2.1, rcell' hg6 (HNE.out _ HB5.out) hHeld2.2.2.2.2.2.2.2⟩ (fun hHeld4 => ?_)
     clear hK K hg6 hHeld hHeld2 hHeld3 hb5
     refine norm_ (a' := ?_) ?_ ?_
     rotate_left
     ·show Act.put _ (some 62) _ = _
      simp only [Act.put, List.setIfInBounds_toArray, List.set_cons_zero, List.set_cons_succ, i64_w, i32_w]
      rfl
     refine pure_ (i := 26) (N := some 3) (v := ?_) (a' := ?_) #[true, true, true, true, true, true, true, true, true, true, true, true, true, true, true, true, true, true, true, true, true, true, true, true, true, true, true] rfl rfl (by kernel_rfl) (fun _ _ _ h => h) (Or.inl ⟨by rfl, ?_⟩) ?_ ?_
     rotate_left
     ·intro w'
      go_simp
      with_reducible rfl
     rotate_left
     ·simp only [Act.put, List.setIfInBounds_toArray, List.set_cons_zero, List.set_cons_succ, i64_w, i32_w]
      rfl
     refine done_ (by kernel_rfl) ?_
     have hfin : NodRel l s base d B W (.slice (some ad) (sortP s).length cq) (n + 1) v6 w6 := by
      refine mid_next h0 hnl HOUT.out HMM.out ((drew_below hwq).trans (HB5.out.mono (by rw [← hwq]; exact Nat.le_refl _))) HG6.out hdlt hbase (by omega) ?_ HB6.out
      ·have e := HND.out
       rw [HTK.out, HLN.out] at e
       rw [HQE.out, e]
       exact HN6.out
     have HFIN := Aside0.mk hfin
     clear hfin HN6 HB6 HG6 HB5 HR5 HNQ HBQ hHeld4 j0 j1 j2 j3 j4 j5 j6 j7
     go_wp2_with (fail)
     go_roundw
     case rel => exact ⟨n + 1, by go_num, HFIN⟩
     case measure => simp [intOf]; omega
   ·have e48 : (m.f2 == 48) = false := beq_eq_false_iff_ne.2 h48
    obtain ⟨hmid, hwz⟩ := HMID.out wr (.inl ⟨rfl, fun h => absurd h h48⟩)
    have HMM := Aside0.mk hmid
    clear h48 hmid
    go_upto_region 8 with (fail)
    obtain ⟨_, vb, hbm, hRm⟩ := HMM.out.2.1 q.2 m HM.out H49.out
    obtain ⟨Ab, cb, rfl, hlb, hCb⟩ := Kd.R_reads hRm
    rw [HTK.out] at hbm
    generalize hldn : ldF m ((sortP s).take n.toNat ++ [q]) q.2 = ldn at hbm
    obtain ⟨j0, j1, j2, j3, j4, j5, j6, j7⟩ := thing_cells hbm
    have HCB := Aside0.mk hCb
    have HLB := Aside0.mk hlb
    have HLN := Aside0.mk hldn
    have HBM := Aside0.mk hbm
    have hwlt : W.heap.size ≤ wr.heap.size := HW.out
    clear hRm hCb hlb hldn hbm hk0 hk1 hk2 hk3 hk4 hk5 hk6 hk7
    refine start_ (n := 27) (S := fun w' => w'.cell? ⟨B q.2, 0, none⟩ = some (.int .u8 m.f2) ∧ w'.cell? ⟨B q.2, 1, none⟩ = some (.int .i64 m.f3.f0) ∧ w'.cell? ⟨B q.2, 2, none⟩ = some (.int .i64 m.f3.f1) ∧ w'.cell? ⟨B q.2, 3, none⟩ = some (.int .i64 m.f3.f2) ∧ w'.cell? ⟨B q.2, 4, none⟩ = some (.int .i64 m.f3.f3) ∧ w'.cell? ⟨B q.2, 5, none⟩ = some (.string m.f1) ∧ w'.cell? ⟨B q.2, 6, none⟩ = some (.slice Ab m.f4.length cb) ∧ w'.cell? ⟨B q.2, 7, none⟩ = some (.string ldn)) (ds := []) #[false, false, false, false, false, false, false, false, false, false, false, false, false, false, false, false, false, false, false, false, false, false, false, false, false, false, false] (by kernel_rfl) rfl rfl ⟨j0, j1, j2, j3, j4, j5, j6, j7⟩ (fun hHeld => ?_)
    generalize hwq : World.drew _ = wq at hHeld ⊢
    have hzq : wr.heap.size = wq.heap.size := by rw [← hwq]; exact hwz
    have HNQ : Aside0 (Kd.N k40 40 wq base (fun k => W.heap.size ≤ k) (.slice Ao out.length co) out) := ⟨by rw [← hwq]; exact Kd.N_drew HMM.out.2.2.1⟩
    have HBQ : Aside0 (Below base W wq) := ⟨by rw [← hwq]; exact below_drew HMM.out.2.2.2.2⟩
    have HOB := Aside0.mk (Kd.N_lt HNQ.out)
    have HNE : Aside0 (∀ w5 : World, Below wq.heap.size wq w5 → some (B q.2) ≠ (Value.slice Ao out.length co).ownBlock) := ⟨fun w5 hb => Kd.N_ne (cells := thingCells m (.slice Ab m.f4.length cb) ldn) (t := 94) HNQ.out (by rw [← hwq]; exact HBM.out) (by decide)⟩
    refine pure_ (i := 0) (N := some 37) (v := ?_) (a' := ?_) #[true, false, false, false, false, false, false, false, false, false, false, false, false, false, false, false, false, false, false, false, false, false, false, false, false, false, false] rfl rfl (by kernel_rfl) (fun _ _ _ h => h) (Or.inl ⟨by rfl, ?_⟩) ?_ ?_
    rotate_left
    ·intro w'
     go_simp
     with_reducible rfl
    rotate_left
    ·simp only [Act.put, List.setIfInBounds_toArray, List.set_cons_zero, List.set_cons_succ, i64_w, i32_w]
     rfl
    refine pure_ (i := 1) (N := some 38) (v := ?_) (a' := ?_) #[true, true, false, false, false, false, false, false, false, false, false, false, false, false, false, false, false, false, false, false, false, false, false, false, false, false, false] rfl rfl (by kernel_rfl) (fun _ _ _ h => h) (Or.inl ⟨by rfl, ?_⟩) ?_ ?_
    rotate_left
    ·intro w'
     go_simp
     with_reducible rfl
    rotate_left
    ·simp only [Act.put, List.setIfInBounds_toArray, List.set_cons_zero, List.set_cons_succ, i64_w, i32_w]
     rfl
    refine pure_ (i := 2) (N := some 39) (v := ?_) (a' := ?_) #[true, true, true, false, false, false, false, false, false, false, false, false, false, false, false, false, false, false, false, false, false, false, false, false, false, false, false] rfl rfl (by kernel_rfl) (fun _ _ _ h => h) (Or.inl ⟨by rfl, ?_⟩) ?_ ?_
    rotate_left
    ·intro w'
     go_simp
     with_reducible rfl
    rotate_left
    ·simp only [Act.put, List.setIfInBounds_toArray, List.set_cons_zero, List.set_cons_succ, i64_w, i32_w]
     rfl
    refine pure_ (i := 3) (N := some 40) (v := ?_) (a' := ?_) #[true, true, true, true, false, false, false, false, false, false, false, false, false, false, false, false, false, false, false, false, false, false, false, false, false, false, false] rfl rfl (by kernel_rfl) (fun _ _ _ h => h) (Or.inl ⟨by rfl, ?_⟩) ?_ ?_
    rotate_left
    ·intro w'
     go_simp
     with_reducible rfl
    rotate_left
    ·simp only [Act.put, List.setIfInBounds_toArray, List.set_cons_zero, List.set_cons_succ, i64_w, i32_w]
     rfl
    refine pure_ (i := 4) (N := some 41) (v := ?_) (a' := ?_) #[true, true, true, true, true, false, false, false, false, false, false, false, false, false, false, false, false, false, false, false, false, false, false, false, false, false, false] rfl rfl (by kernel_rfl) (fun _ _ _ h => h) (Or.inl ⟨by rfl, ?_⟩) ?_ ?_
    rotate_left
    ·intro w'
     go_simp
     with_reducible rfl
    rotate_left
    ·simp only [Act.put, List.setIfInBounds_toArray, List.set_cons_zero, List.set_cons_succ, i64_w, i32_w]
     rfl
    refine take_ (i := 5) (N := some 42) (v := ?_) (a' := ?_) #[true, true, true, true, true, true, false, false, false, false, false, false, false, false, false, false, false, false, false, false, false, false, false, false, false, false, false] rfl rfl (by kernel_rfl) (fun _ _ _ h => h) (Or.inl ⟨by rfl, ?_⟩) hHeld ?_ ?_
    rotate_left
    ·rintro w' ⟨s0, s1, s2, s3, s4, s5, s6, s7⟩
     go_simp
     with_reducible rfl
    rotate_left
    ·simp only [Act.put, List.setIfInBounds_toArray, List.set_cons_zero, List.set_cons_succ, i64_w, i32_w]
     rfl
    refine pure_ (i := 6) (N := some 43) (v := ?_) (a' := ?_) #[true, true, true, true, true, true, true, false, false, false, false, false, false, false, false, false, false, false, false, false, false, false, false, false, false, false, false] rfl rfl (by kernel_rfl) (fun _ _ _ h => h) (Or.inl ⟨by rfl, ?_⟩) ?_ ?_
    rotate_left
    ·intro w'
     go_simp
     with_reducible rfl
    rotate_left
    ·simp only [Act.put, List.setIfInBounds_toArray, List.set_cons_zero, List.set_cons_succ, i64_w, i32_w]
     rfl
    refine pure_ (i := 7) (N := some 44) (v := ?_) (a' := ?_) #[true, true, true, true, true, true, true, true, false, false, false, false, false, false, false, false, false, false, false, false, false, false, false, false, false, false, false] rfl rfl (by kernel_rfl) (fun _ _ _ h => h) (Or.inl ⟨by rfl, ?_⟩) ?_ ?_
    rotate_left
    ·intro w'
     go_simp
     with_reducible rfl
    rotate_left
    ·simp only [Act.put, List.setIfInBounds_toArray, List.set_cons_zero, List.set_cons_succ, i64_w, i32_w]
     rfl
    refine pure_ (i := 8) (N := some 45) (v := ?_) (a' := ?_) #[true, true, true, true, true, true, true, true, true, false, false, false, false, false, false, false, false, false, false, false, false, false, false, false, false, false, false] rfl rfl (by kernel_rfl) (fun _ _ _ h => h) (Or.inl ⟨by rfl, ?_⟩) ?_ ?_
    rotate_left
    ·intro w'
     go_simp
     with_reducible rfl
    rotate_left
    ·simp only [Act.put, List.setIfInBounds_toArray, List.set_cons_zero, List.set_cons_succ, i64_w, i32_w]
     rfl
    refine take_ (i := 9) (N := some 46) (v := ?_) (a' := ?_) #[true, true, true, true, true, true, true, true, true, true, false, false, false, false, false, false, false, false, false, false, false, false, false, false, false, false, false] rfl rfl (by kernel_rfl) (fun _ _ _ h => h) (Or.inl ⟨by rfl, ?_⟩) hHeld ?_ ?_
    rotate_left
    ·rintro w' ⟨s0, s1, s2, s3, s4, s5, s6, s7⟩
     go_simp
     with_reducible rfl
    rotate_left
    ·simp only [Act.put, List.setIfInBounds_toArray, List.set_cons_zero, List.set_cons_succ, i64_w, i32_w]
     rfl
    refine pure_ (i := 10) (N := some 47) (v := ?_) (a' := ?_) #[true, true, true, true, true, true, true, true, true, true, true, false, false, false, false, false, false, false, false, false, false, false, false, false, false, false, false] rfl rfl (by kernel_rfl) (fun _ _ _ h => h) (Or.inl ⟨by rfl, ?_⟩) ?_ ?_
    rotate_left
    ·intro w'
     go_simp
     with_reducible rfl
    rotate_left
    ·simp only [Act.put, List.setIfInBounds_toArray, List.set_cons_zero, List.set_cons_succ, i64_w, i32_w]
     rfl
    refine pure_ (i := 11) (N := some 48) (v := ?_) (a' := ?_) #[true, true, true, true, true, true, true, true, true, true, true, true, false, false, false, false, false, false, false, false, false, false, false, false, false, false, false] rfl rfl (by kernel_rfl) (fun _ _ _ h => h) (Or.inl ⟨by rfl, ?_⟩) ?_ ?_
    rotate_left
    ·intro w'
     go_simp
     with_reducible rfl
    rotate_left
    ·simp only [Act.put, List.setIfInBounds_toArray, List.set_cons_zero, List.set_cons_succ, i64_w, i32_w]
     rfl
    refine pure_ (i := 12) (N := some 49) (v := ?_) (a' := ?_) #[true, true, true, true, true, true, true, true, true, true, true, true, true, false, false, false, false, false, false, false, false, false, false, false, false, false, false] rfl rfl (by kernel_rfl) (fun _ _ _ h => h) (Or.inl ⟨by rfl, ?_⟩) ?_ ?_
    rotate_left
    ·intro w'
     go_simp
     with_reducible rfl
    rotate_left
    ·simp only [Act.put, List.setIfInBounds_toArray, List.set_cons_zero, List.set_cons_succ, i64_w, i32_w]
     rfl
    refine take_ (i := 13) (N := some 50) (v := ?_) (a' := ?_) #[true, true, true, true, true, true, true, true, true, true, true, true, true, true, false, false, false, false, false, false, false, false, false, false, false, false, false] rfl rfl (by kernel_rfl) (fun _ _ _ h => h) (Or.inl ⟨by rfl, ?_⟩) hHeld ?_ ?_
    rotate_left
    ·rintro w' ⟨s0, s1, s2, s3, s4, s5, s6, s7⟩
     go_simp
     with_reducible rfl
    rotate_left
    ·simp only [Act.put, List.setIfInBounds_toArray, List.set_cons_zero, List.set_cons_succ, i64_w, i32_w]
     rfl
    refine pure_ (i := 14) (N := some 51) (v := ?_) (a' := ?_) #[true, true, true, true, true, true, true, true, true, true, true, true, true, true, true, false, false, false, false, false, false, false, false, false, false, false, false] rfl rfl (by kernel_rfl) (fun _ _ _ h => h) (Or.inl ⟨by rfl, ?_⟩) ?_ ?_
    rotate_left
    ·intro w'
     go_simp
     with_reducible rfl
    rotate_left
    ·simp only [Act.put, List.setIfInBounds_toArray, List.set_cons_zero, List.set_cons_succ, i64_w, i32_w]
     rfl
    refine pure_ (i := 15) (N := some 52) (v := ?_) (a' := ?_) #[true, true, true, true, true, true, true, true, true, true, true, true, true, true, true, true, false, false, false, false, false, false, false, false, false, false, false] rfl rfl (by kernel_rfl) (fun _ _ _ h => h) (Or.inl ⟨by rfl, ?_⟩) ?_ ?_
    rotate_left
    ·intro w'
     go_simp
     with_reducible rfl
    rotate_left
    ·simp only [Act.put, List.setIfInBounds_toArray, List.set_cons_zero, List.set_cons_succ, i64_w, i32_w]
     rfl
    refine pure_ (i := 16) (N := some 53) (v := ?_) (a' := ?_) #[true, true, true, true, true, true, true, true, true, true, true, true, true, true, true, true, true, false, false, false, false, false, false, false, false, false, false] rfl rfl (by kernel_rfl) (fun _ _ _ h => h) (Or.inl ⟨by rfl, ?_⟩) ?_ ?_
    rotate_left
    ·intro w'
     go_simp
     with_reducible rfl
    rotate_left
    ·simp only [Act.put, List.setIfInBounds_toArray, List.set_cons_zero, List.set_cons_succ, i64_w, i32_w]
     rfl
    refine take_ (i := 17) (N := some 54) (v := ?_) (a' := ?_) #[true, true, true, true, true, true, true, true, true, true, true, true, true, true, true, true, true, true, false, false, false, false, false, false, false, false, false] rfl rfl (by kernel_rfl) (fun _ _ _ h => h) (Or.inl ⟨by rfl, ?_⟩) hHeld ?_ ?_
    rotate_left
    ·rintro w' ⟨s0, s1, s2, s3, s4, s5, s6, s7⟩
     go_simp
     with_reducible rfl
    rotate_left
    ·simp only [Act.put, List.setIfInBounds_toArray, List.set_cons_zero, List.set_cons_succ, i64_w, i32_w]
     rfl
    refine pure_ (i := 18) (N := some 55) (v := ?_) (a' := ?_) #[true, true, true, true, true, true, true, true, true, true, true, true, true, true, true, true, true, true, true, false, false, false, false, false, false, false, false] rfl rfl (by kernel_rfl) (fun _ _ _ h => h) (Or.inl ⟨by rfl, ?_⟩) ?_ ?_
    rotate_left
    ·intro w'
     go_simp
     with_reducible rfl
    rotate_left
    ·simp only [Act.put, List.setIfInBounds_toArray, List.set_cons_zero, List.set_cons_succ, i64_w, i32_w]
     rfl
    refine pure_ (i := 19) (N := some 56) (v := ?_) (a' := ?_) #[true, true, true, true, true, true, true, true, true, true, true, true, true, true, true, true, true, true, true, true, false, false, false, false, false, false, false] rfl rfl (by kernel_rfl) (fun _ _ _ h => h) (Or.inl ⟨by rfl, ?_⟩) ?_ ?_
    rotate_left
    ·intro w'
     go_simp
     with_reducible rfl
    rotate_left
    ·simp only [Act.put, List.setIfInBounds_toArray, List.set_cons_zero, List.set_cons_succ, i64_w, i32_w]
     rfl
    refine pure_ (i := 20) (N := some 57) (v := ?_) (a' := ?_) #[true, true, true, true, true, true, true, true, true, true, true, true, true, true, true, true, true, true, true, true, true, false, false, false, false, false, false] rfl rfl (by kernel_rfl) (fun _ _ _ h => h) (Or.inl ⟨by rfl, ?_⟩) ?_ ?_
    rotate_left
    ·intro w'
     go_simp
     with_reducible rfl
    rotate_left
    ·simp only [Act.put, List.setIfInBounds_toArray, List.set_cons_zero, List.set_cons_succ, i64_w, i32_w]
     rfl
    refine take_ (i := 21) (N := some 58) (v := ?_) (a' := ?_) #[true, true, true, true, true, true, true, true, true, true, true, true, true, true, true, true, true, true, true, true, true, true, false, false, false, false, false] rfl rfl (by kernel_rfl) (fun _ _ _ h => h) (Or.inl ⟨by rfl, ?_⟩) hHeld ?_ ?_
    rotate_left
    ·rintro w' ⟨s0, s1, s2, s3, s4, s5, s6, s7⟩
     go_simp
     with_reducible rfl
    rotate_left
    ·simp only [Act.put, List.setIfInBounds_toArray, List.set_cons_zero, List.set_cons_succ, i64_w, i32_w]
     rfl
    refine one_ (i := 22) (N := some 59) #[true, true, true, true, true, true, true, true, true, true, true, true, true, true, true, true, true, true, true, true, true, true, true, false, false, false, false] rfl rfl (by kernel_rfl) (by decide) (fun K hK => ?_)
    refine goes_ Tryd.func59 (by kernel_rfl) rfl #[.slice Ab m.f4.length cb] (by rfl) rfl rfl (by first | rfl | (simp [Act.eval]; done)) ?_
    refine (Clone_calls Ab cb m.f4 wq (by rw [← hwq]; exact Kd.C_drew HCB.out) (HZ.out m (List.mem_of_getElem? HM.out))).mono ?_
    rintro e w5 ⟨v5, rfl, hR5, hb5⟩
    obtain ⟨Av, cv, rfl, hlv, hCv⟩ := Kd.R_reads hR5
    refine ⟨_, rfl, ?_⟩
    refine hK.out _ _ ⟨fkeep hb5 hHeld.1, fkeep hb5 hHeld.2.1, fkeep hb5 hHeld.2.2.1, fkeep hb5 hHeld.2.2.2.1, fkeep hb5 hHeld.2.2.2.2.1, fkeep hb5 hHeld.2.2.2.2.2.1, fkeep hb5 hHeld.2.2.2.2.2.2.1, fkeep hb5 hHeld.2.2.2.2.2.2.2⟩ (fun hHeld2 => ?_)
    clear hK K
    have HR5 := Aside0.mk hR5
    have HB5 := Aside0.mk hb5
    have HLV := Aside0.mk hlv
    clear hR5 hCv hlv
    refine norm_ (a' := ?_) ?_ ?_
    rotate_left
    ·show Act.put _ (some 59) _ = _
     simp only [Act.put, List.setIfInBounds_toArray, List.set_cons_zero, List.set_cons_succ, i64_w, i32_w]
     rfl
    refine pure_ (i := 23) (N := some 60) (v := ?_) (a' := ?_) #[true, true, true, true, true, true, true, true, true, true, true, true, true, true, true, true, true, true, true, true, true, true, true, true, false, false, false] rfl rfl (by kernel_rfl) (fun _ _ _ h => h) (Or.inl ⟨by rfl, ?_⟩) ?_ ?_
    rotate_left
    ·intro w'
     go_simp
     with_reducible rfl
    rotate_left
    ·simp only [Act.put, List.setIfInBounds_toArray, List.set_cons_zero, List.set_cons_succ, i64_w, i32_w]
     rfl
    refine one_ (i := 24) (N := some 61) #[true, true, true, true, true, true, true, true, true, true, true, true, true, true, true, true, true, true, true, true, true, true, true, true, true, false, false] rfl rfl (by kernel_rfl) (by decide) (fun K hK => ?_)
    refine value_ (w1 := ?_) (v := ?_) (by rfl) rfl ?_ ?_
    rotate_left 2
    ·go_simp
     constructor
     ·rfl
     ·rfl
    refine hK.out _ _ ⟨fcell hHeld2.1 _, fcell hHeld2.2.1 _, fcell hHeld2.2.2.1 _, fcell hHeld2.2.2.2.1 _, fcell hHeld2.2.2.2.2.1 _, fcell hHeld2.2.2.2.2.2.1 _, fcell hHeld2.2.2.2.2.2.2.1 _, fcell hHeld2.2.2.2.2.2.2.2 _⟩ (fun hHeld3 => ?_)
    clear hK K
    refine norm_ (a' := ?_) ?_ ?_
    rotate_left
    ·show Act.put _ (some 61) _ = _
     simp only [Act.put, List.setIfInBounds_toArray, List.set_cons_zero, List.set_cons_succ, i64_w, i32_w]
     rfl
    refine one_ (i := 25) (N := some 62) #[true, true, true, true, true, true, true, true, true, true, true, true, true, true, true, true, true, true, true, true, true, true, true, true, true, true, false] rfl rfl (by kernel_rfl) (by decide) (fun K hK => ?_)
    refine Kd.N_append_step k40 (w0 := W) (W := w5) base (by rfl) (.tmp 37) (.tmp 61) 22 40 (.agg #[(.string ⟨#[]⟩), (.string ⟨#[]⟩), (.string ⟨#[]⟩), (.int .u8 0), (.int .i64 0), (.int .i64 0), (.int .i64 0), (.int .i64 0), (.slice none 0 0)]) 112 rfl Tryd.underlying22 info40 rfl (by decide) (by decide) (.slice Ao out.length co) out (⟨q.1, m.f1, ldn, m.f2, m.f3, m.f4⟩ : Node) [.string q.1, .string m.f1, .string ldn, .int .u8 m.f2, .int .i64 m.f3.f0, .int .i64 m.f3.f1, .int .i64 m.f3.f2, .int .i64 m.f3.f3, .slice Av m.f4.length cv] (fun k => W.heap.size ≤ k) (fun k => wq.heap.size ≤ k ∧ k < w5.heap.size) (by rfl) rfl (k40_mkF w5 _ _ HLV.out (Kd.R_F (Kd.R_mono (Kd.R_bound HR5.out) (fun k hk => ⟨hk.2.1, hk.2.2.1⟩)))) (fun k hk => ⟨by have := hk.1; omega, fun e => by have := HOB.out k e.symm; have := hk.1; omega⟩) (fun k hk => by have := HB5.out.size; omega) (Kd.N_below HNQ.out HB5.out) (HBQ.out.trans (HB5.out.mono (by omega))) (by have := HB5.out.size; omega) (by rw [HOL.out]; omega) ?_
    intro v6 w6 hN6 hB6 hg6 hat6
    have HN6 := Aside0.mk hN6
    have HB6 := Aside0.mk hB6
    have HG6 := Aside0.mk hg6
    clear hN6 hB6 hat6
    refine hK.out _ _ ⟨rcell' hg6 (HNE.out _ HB5.out) hHeld2.1, rcell' hg6 (HNE.out _ HB5.out) hHeld2.2.1, rcell' hg6 (HNE.out _ HB5.out) hHeld2.2.2.1, rcell' hg6 (HNE.out _ HB5.out) hHeld2.2.2.2.1, rcell' hg6 (HNE.out _ HB5.out) hHeld2.2.2.2.2.1, rcell' hg6 (HNE.out _ HB5.out) hHeld2.2.2.2.2.2.1, rcell' hg6 (HNE.out _ HB5.out) hHeld2.2.2.2.2.2.2.1, rcell' hg6 (HNE.out _ HB5.out) hHeld2.2.2.2.2.2.2.2⟩ (fun hHeld4 => ?_)
    clear hK K hg6 hHeld hHeld2 hHeld3 hb5
    refine norm_ (a' := ?_) ?_ ?_
    rotate_left
    ·show Act.put _ (some 62) _ = _
     simp only [Act.put, List.setIfInBounds_toArray, List.set_cons_zero, List.set_cons_succ, i64_w, i32_w]
     rfl
    refine pure_ (i := 26) (N := some 3) (v := ?_) (a' := ?_) #[true, true, true, true, true, true, true, true, true, true, true, true, true, true, true, true, true, true, true, true, true, true, true, true, true, true, true] rfl rfl (by kernel_rfl) (fun _ _ _ h => h) (Or.inl ⟨by rfl, ?_⟩) ?_ ?_
    rotate_left
    ·intro w'
     go_simp
     with_reducible rfl
    rotate_left
    ·simp only [Act.put, List.setIfInBounds_toArray, List.set_cons_zero, List.set_cons_succ, i64_w, i32_w]
     rfl
    refine done_ (by kernel_rfl) ?_
    have hfin : NodRel l s base d B W (.slice (some ad) (sortP s).length cq) (n + 1) v6 w6 := by
     refine mid_next h0 hnl HOUT.out HMM.out ((drew_below hwq).trans (HB5.out.mono (by rw [← hwq]; exact Nat.le_refl _))) HG6.out hdlt hbase (by omega) ?_ HB6.out
     ·have e := HND.out
      rw [HTK.out, HLN.out] at e
      rw [HQE.out, e]
      exact HN6.out
    have HFIN := Aside0.mk hfin
    clear hfin HN6 HB6 HG6 HB5 HR5 HNQ HBQ hHeld4 j0 j1 j2 j3 j4 j5 j6 j7
    go_wp2_with (fail)
    go_roundw
    case rel => exact ⟨n + 1, by go_num, HFIN⟩
    case measure => simp [intOf]; omega
  ·have c1b : decide (n < ((sortP s).length : Int)) = false := decide_eq_false hlt
   go_wp2
   rw [← hQ.out]
   have hN := HNV.out
   rw [← HOUT.out, List.take_of_length_le (by omega)] at hN
   rw [← HOUT.out, List.take_of_length_le (by omega)]
   exact ⟨_, rfl, hN, HR.out.2.2.2.2.2.2⟩
end Go.Proofs.YtfljbidecljlcaaDoor

namespace Go.Proofs.YtfljbidecljlcaaDoor
open Go.RowKit Go.Maps Go.Proofs.YtfljbidecljlcaaDoor.Print Go.Proofs.YtfljbidecljlcaaDoorW.PrintWords Go.Proofs.YtfljbidecljlcaaDoorW.PrintLast Go.Proofs.YtfljbidecljlcaaDoorW.PrintMore
set_option linter.unusedVariables false
set_option linter.unusedSimpArgs false
theorem good_full {m : Mem} (h : goodM m = true) : m.f0.toList ≠ [] := by
 intro e
 have h1 := (goodM_clean h).1
 unfold cleanOk at h1
 simp only [Bool.and_eq_true, decide_eq_true_iff] at h1
 obtain ⟨h2, h3⟩ := h1
 rw [e] at h3
 unfold cleanF at h2 h3
 split at h2
 ·cases h2
 ·rename_i c1
  rw [if_neg c1] at h3
  split at h2
  ·cases h2
  ·rename_i c2
   rw [if_neg c2] at h3
   split at h2
   ·cases h2
   ·rename_i c3
    rw [if_neg c3] at h3
    split at h2
    ·cases h2
    ·rename_i c4
     rw [if_neg c4] at h3
     apply c4
     rw [← h3]
     rfl
theorem rcell'' {W w1 : World} {row : Option Nat} (hg : W.grownBy w1 row) {g o : Nat} (hlt : g < W.heap.size) (hne : some g ≠ row) : w1.cell? ⟨g, o, none⟩ = W.cell? ⟨g, o, none⟩ := World.cell?_of_block (a := ⟨g, o, none⟩) (hg.block g hlt hne)
theorem rfroz'' {W w1 : World} {row : Option Nat} (hg : W.grownBy w1 row) {g o : Nat} (hlt : g < W.heap.size) (hne : some g ≠ row) : w1.frozen? ⟨g, o, none⟩ = W.frozen? ⟨g, o, none⟩ := World.frozen?_of_block (a := ⟨g, o, none⟩) (hg.block g hlt hne)
theorem FoldBad_calls (x : Mem) (A : Option Addr) (c : Nat) (W : World) (hT : Tabs W) (hz : MemZ x) (hx : Kd.C (Kd.int .u8) W A x.f4.length x.f4) (hc : x.f4.length ≤ c) :
  Calls Tryd.prog 45 #[.agg (memCells x (.slice A x.f4.length c))] W fun e W' => e = .returned (.bool (!goodM x)) ∧ Below W.heap.size W W' := by
 obtain ⟨kg, hkg⟩ := Ev.rounds (member_Good_eq x hz)
 generalize goodM x = g at hkg
 have HK := Aside0.mk hkg
 have HTA := Aside0.mk (fun o => Tabs.below hT (below_alloc (Below.refl _ _) o))
 have HX := Aside0.mk (fun o => Kd.C_alloc hx o)
 clear hkg hT hx hz
 unfold memCells
 go_enter Tryd.func45, Tryd.ntmps45
 go_wp2_with (go_at_call 43; (with_reducible refine (member_Good.calls kg x.f0 x.f1 x.f2 x.f3.f0 x.f3.f1 x.f3.f2 x.f3.f3 A c x.f4 g _ ⟨HTA.out _⟩ (HX.out _) hc HK.out).mono ?_); rintro e w5 ⟨rfl, hb5⟩)
 go_ret
 exact ⟨rfl, ((Below.refl _ _).alloc (Nat.le_refl _) _).trans (hb5.mono (by simp))⟩
def BadRel (l : List Mem) (W : World) (i : Int) (wr : World) : Prop := 0 ≤ i ∧ i ≤ l.length ∧ (∀ (j : Nat) (hj : j < l.length), (j : Int) < i → goodM l[j] = true) ∧ Below W.heap.size W wr
def badAt (l : List Mem) : Int := match l.findIdx? (fun m => !goodM m) with
 | some i => (i : Int)
 | none => -1
theorem badAt_some {l : List Mem} {j : Nat} (hj : j < l.length) (h : ∀ (k : Nat) (hk : k < l.length), k < j → goodM l[k] = true) (hb : goodM l[j] = false) : badAt l = (j : Int) := by
 unfold badAt
 rw [List.findIdx?_eq_some_iff_getElem.2 ⟨hj, by rw [hb]; rfl, fun k hk => by rw [h k (by omega) hk]; simp⟩]
theorem badAt_none {l : List Mem} (h : ∀ (k : Nat) (hk : k < l.length), goodM l[k] = true) : badAt l = -1 := by
 unfold badAt
 rw [List.findIdx?_eq_none_iff.2 (fun x hx => by obtain ⟨i, hi, rfl⟩ := List.getElem_of_mem hx; rw [h i hi]; rfl)]
set_option maxRecDepth 100000 in
set_option maxHeartbeats 2000000 in
theorem Bad_calls (A0 : Option Addr) (c0 : Nat) (l : List Mem) (W : World) (hT : Tabs W) (hC : Kd.C k45 W A0 l.length l) (hz : MemsZ l) :
  Calls Tryd.prog 44 #[.slice A0 l.length c0, .func (.func 45) #[] #[]] W fun e W' => e = .returned (.int .i64 (badAt l)) ∧ Below W.heap.size W W' := by
 have HC := Aside0.mk hC
 have HZ := Aside0.mk hz
 have HT := Aside0.mk hT
 have hlen : (l.length : Int) ≤ 1000000000000 := by have := hz.1; omega
 clear hC hz hT
 generalize hpost : (fun (e : Ending) (W' : World) => e = .returned (.int .i64 (badAt l)) ∧ Below W.heap.size W W') = Q
 have hQ := Aside0.mk hpost
 clear hpost
 go_enter Tryd.func44, Tryd.ntmps44
 go_wp2
 go_loopw [8] (fun i wr => ∃ n : Int, i = .int .i64 n ∧ Aside0 (BadRel l W n wr)) (fun i _ => (l.length - (intOf i)).toNat)
 case atStart => exact ⟨0, rfl, ⟨⟨by omega, by omega, fun j hj h => absurd h (by omega), Below.refl _ _⟩⟩⟩
 case round =>
  obtain ⟨n, rfl, HR⟩ := hrel
  have h0 := HR.out.1
  have h1 := HR.out.2.1
  have HB := Aside0.mk HR.out.2.2.2
  by_cases hlt : n < (l.length : Int)
  ·have c1 : decide (n < (l.length : Int)) = true := decide_eq_true hlt
   have hnl : n.toNat < l.length := by omega
   obtain ⟨ad, A7, c7, rfl, x0, x1, x2, x3, x4, x5, x6, x7, hl7, hC7⟩ := at_T45 (Kd.C_below HC.out HB.out) n h0 hlt
   have hx := rdM_at l n h0 hlt
   have hxz : MemZ (rd_T45 l n) := by rw [hx]; exact HZ.out.2 _ (List.getElem_mem _)
   generalize rd_T45 l n = x at hx hxz x0 x1 x2 x3 x4 x5 x6 x7 hl7 hC7
   have hcl := FoldBad_calls x A7 c7 wr (Tabs.below HT.out HB.out) hxz hC7 hl7
   have HX := Aside0.mk hx
   have HNL := Aside0.mk hnl
   clear hx hC7 hl7 hnl hxz
   cases hb : goodM x with
   | true =>
    rw [hb, Bool.not_true] at hcl
    unfold memCells at hcl
    have HC2 := Aside0.mk hcl
    have HLB := Aside0.mk hb
    clear hcl hb
    go_wp2_with (go_at_call 45; refine HC2.out.mono ?_; rintro e w1 ⟨rfl, hb1⟩)
    have hfin : BadRel l W (n + 1) w1 := by
     refine ⟨by omega, by omega, fun j hj hjn => ?_, HB.out.trans (hb1.mono HB.out.size)⟩
     rcases Nat.lt_or_ge j n.toNat with h | h
     ·exact HR.out.2.2.1 j hj (by omega)
     ·obtain rfl : j = n.toNat := by omega
      rw [← HX.out]; exact HLB.out
    clear hb1
    go_roundw
    case rel => exact ⟨n + 1, by go_num, ⟨hfin⟩⟩
    case measure => simp [intOf]; omega
   | false =>
    rw [hb, Bool.not_false] at hcl
    unfold memCells at hcl
    have HC2 := Aside0.mk hcl
    have HLB := Aside0.mk hb
    clear hcl hb
    go_wp2_with (go_at_call 45; refine HC2.out.mono ?_; rintro e w1 ⟨rfl, hb1⟩)
    rw [← hQ.out]
    refine ⟨?_, HB.out.trans (hb1.mono HB.out.size)⟩
    rw [badAt_some HNL.out (fun k hk hkn => HR.out.2.2.1 k hk (by omega)) (by rw [← HX.out]; exact HLB.out)]
    rw [Int.toNat_of_nonneg h0]
    rfl
  ·have c1 : decide (n < (l.length : Int)) = false := decide_eq_false hlt
   go_wp2
   rw [← hQ.out]
   refine ⟨?_, HB.out⟩
   rw [badAt_none (fun j hj => HR.out.2.2.1 j hj (by omega))]
theorem badAt_neg {l : List Mem} (h : ¬ badAt l ≥ 0) : l.findIdx? (fun m => !goodM m) = none := by
 unfold badAt at h
 cases hf : l.findIdx? (fun m => !goodM m) with
 | none => rfl
 | some i => rw [hf] at h; dsimp only at h; omega
theorem badAt_pos {l : List Mem} (h : badAt l ≥ 0) : ∃ i, l.findIdx? (fun m => !goodM m) = some i ∧ badAt l = (i : Int) := by
 unfold badAt at h ⊢
 cases hf : l.findIdx? (fun m => !goodM m) with
 | none => rw [hf] at h; dsimp only at h; omega
 | some i => exact ⟨i, rfl, rfl⟩
def FoldRel (l : List Mem) (W : World) (d : Nat) (i : Int) (wr : World) : Prop :=
 0 ≤ i ∧ i ≤ l.length ∧ (∃ s B, stepsF l i.toNat = some s ∧ FInv l i.toNat s ∧ DirS wr (W.heap.size + 1) d i.toNat l s B) ∧ Below W.heap.size W wr ∧ wr.cell? ⟨W.heap.size, 0, none⟩ = some (.int .i64 0) ∧ wr.cell? ⟨W.heap.size, 1, none⟩ = some (.int .i64 0) ∧ wr.frozen? ⟨W.heap.size, 0, none⟩ = false ∧ wr.frozen? ⟨W.heap.size, 1, none⟩ = false
def FoldPost (l : List Mem) (W : World) (e : Ending) (W' : World) : Prop := ∃ v, e = .returned (.tuple #[v, .agg #[.int .i64 (foldF l).2.1, .int .i64 (foldF l).2.2]]) ∧ Kd.V k40 40 W' W.heap.size (fun k => W.heap.size ≤ k) v (foldF l).1 ∧ Below W.heap.size W W' ∧ (0 < (foldF l).1.length → ∃ g c, v = .slice (some ⟨g, 0, none⟩) (foldF l).1.length c)
set_option maxRecDepth 100000 in
set_option maxHeartbeats 4000000 in
theorem Fold_calls (A0 : Option Addr) (c0 : Nat) (l : List Mem) (W : World) (hT : Tabs W) (hC : Kd.C k45 W A0 l.length l) (hz : MemsZ l) :
  Calls Tryd.prog 27 #[.slice A0 l.length c0] W (FoldPost l W) := by
 have hmm := @run_makeMap Tryd.prog
 have HBC := Aside0.mk (fun o => Bad_calls A0 c0 l _ (Tabs.below hT (below_alloc (Below.refl _ _) o)) (Kd.C_alloc hC o) hz)
 have HC := Aside0.mk hC
 have HZ := Aside0.mk hz
 have hlen : (l.length : Int) ≤ 1000000000000 := by have := hz.1; omega
 clear hC hz hT
 generalize hpost : FoldPost l W = Q
 have hQ := Aside0.mk hpost
 clear hpost
 by_cases hbad : badAt l ≥ 0
 ·obtain ⟨i, hi, hbi⟩ := badAt_pos hbad
  have hb2 : decide (badAt l ≥ 0) = true := decide_eq_true hbad
  have hb3 : decide (0 ≤ badAt l) = true := decide_eq_true hbad
  have HI := Aside0.mk hi
  have HBI := Aside0.mk hbi
  clear hi hbi
  go_enter Tryd.func27, Tryd.ntmps27
  go_wp2_with (go_at_call 44; refine (HBC.out _).mono ?_; rintro e w1 ⟨rfl, hb1⟩; obtain ⟨hc1, hf1⟩ := bcell hb1; have hz1 : W.heap.size < w1.heap.size := Nat.lt_of_lt_of_le (by simp) hb1.size; have HB1 := Aside0.mk hb1; clear hb1)
  have hB1 := ((Below.refl W.heap.size W).alloc (Nat.le_refl _) (.cells #[.int .i64 0, .int .i64 0] 49)).trans (HB1.out.mono (by simp))
  refine bodyPost_ret (v := .tuple #[.slice none 0 0, .agg #[.int .i64 1, .int .i64 (badAt l)]]) (by simp [results, Tryd.results27, go_sem, hc1, hz1]) rfl ?_
  rw [← hQ.out]
  refine ⟨.slice none 0 0, by rw [foldF_bad HI.out, HBI.out], by rw [foldF_bad HI.out]; exact Kd.V_nil _ _ _ _ _, ?_, by rw [foldF_bad HI.out]; intro h; cases h⟩
  repeat (with_reducible refine below_put ?_ _ _ (Nat.le_refl _) _)
  exact hB1
 ·have hg := badAt_neg hbad
  have hb2 : decide (badAt l ≥ 0) = false := decide_eq_false hbad
  have hb3 : decide (0 ≤ badAt l) = false := decide_eq_false hbad
  have HG := Aside0.mk hg
  clear hg
  go_enter Tryd.func27, Tryd.ntmps27
  go_wp2_with (go_at_call 44; refine (HBC.out _).mono ?_; rintro e w1 ⟨rfl, hb1⟩; obtain ⟨hc1, hf1⟩ := bcell hb1; have hz1 : W.heap.size < w1.heap.size := Nat.lt_of_lt_of_le (by simp) hb1.size; have HB1 := Aside0.mk hb1; clear hb1)
  have hB1 : Below W.heap.size W w1 := ((Below.refl W.heap.size W).alloc (Nat.le_refl _) (.cells #[.int .i64 0, .int .i64 0] 49)).trans (HB1.out.mono (by simp))
  have hstart : FoldRel l W w1.heap.size 0 (w1.alloc (.map #[] 0)) := by
   refine ⟨by omega, by omega, ⟨[], fun _ => 0, rfl, FInv.start l, DirS.start _ _ _ _⟩, hB1.alloc hB1.size _, ?_, ?_, ?_, ?_⟩
   ·exact fcell ((hc1 W.heap.size 0 (by simp)).trans (by simp)) _
   ·exact fcell ((hc1 W.heap.size 1 (by simp)).trans (by simp)) _
   ·exact ((below_alloc (Below.refl _ _) _).frozen (p := ⟨W.heap.size, 0, none⟩) hz1).trans ((hf1 W.heap.size 0 (by simp)).trans (by simp))
   ·exact ((below_alloc (Below.refl _ _) _).frozen (p := ⟨W.heap.size, 1, none⟩) hz1).trans ((hf1 W.heap.size 1 (by simp)).trans (by simp))
  have HST := Aside0.mk hstart
  have HDZ : Aside0 (W.heap.size < w1.heap.size) := ⟨hz1⟩
  clear hstart hB1 hc1 hf1 HB1
  go_loopw [17] (fun i wr => ∃ n : Int, i = .int .i64 n ∧ Aside0 (FoldRel l W w1.heap.size n wr)) (fun i _ => (l.length - (intOf i)).toNat)
  case atStart => exact ⟨0, rfl, HST⟩
  case round =>
   obtain ⟨n, rfl, HR⟩ := hrel
   have h0 := HR.out.1
   have h1 := HR.out.2.1
   obtain ⟨s, B, hs, hI, hD⟩ := HR.out.2.2.1
   have HB := Aside0.mk HR.out.2.2.2.1
   obtain ⟨f0, f1, f2, f3⟩ := HR.out.2.2.2.2
   have hwz := HB.out.size
   have hwlt : W.heap.size < wr.heap.size := World.block_lt_of_cell? wr _ f0
   have HS := Aside0.mk hs
   have HI := Aside0.mk hI
   have HD := Aside0.mk hD
   clear hs hI hD
   by_cases hlt : n < (l.length : Int)
   ·have c1b : decide (n < (l.length : Int)) = true := decide_eq_true hlt
    have hnl : n.toNat < l.length := by omega
    obtain ⟨ad, A7, c7, rfl, x0, x1, x2, x3, x4, x5, x6, x7, hl7, hC7⟩ := at_T45 (Kd.C_below HC.out HB.out) n h0 hlt
    have hx := rdM_at l n h0 hlt
    have hxz : MemZ (rd_T45 l n) := by rw [hx]; exact HZ.out.2 _ (List.getElem_mem _)
    have hxg : goodM (rd_T45 l n) = true := by rw [hx]; exact all_good HG.out (List.getElem_mem _)
    generalize rd_T45 l n = x at hx hxz hxg x0 x1 x2 x3 x4 x5 x6 x7 hl7 hC7
    have HLC := Aside0.mk (fun o => Lay_calls (W.heap.size + 1) w1.heap.size n.toNat l s B x A7 c7 (wr.alloc o) (by rw [hx, List.getElem?_eq_getElem hnl]) (by omega) hxz (HD.out.below (below_alloc (Below.refl _ _) o)) HI.out (by rw [World.size_alloc]; omega) (Kd.C_alloc hC7 o))
    have HX := Aside0.mk hx
    have HXZ := Aside0.mk hxz
    have HXG := Aside0.mk hxg
    have HNL := Aside0.mk hnl
    clear hx hxz hxg hnl hC7 hl7
    unfold memCells at HLC
    have hdn : ¬ W.heap.size = w1.heap.size := by have := HDZ.out; omega
    have hdlt : w1.heap.size < wr.heap.size := HD.out.1.lt
    go_wp2_with (go_at_call 46; refine (HLC.out _).mono ?_; rintro e w2 ⟨(⟨hno, rfl⟩ | ⟨s', B', hst, rfl, hD'⟩), hg2⟩; all_goals (have hc2 : ∀ j, w2.cell? ⟨W.heap.size, j, none⟩ = wr.cell? ⟨W.heap.size, j, none⟩ := (fun j => (rcell'' hg2 (by simp; omega) (fun e => by injection e with e; exact hdn e)).trans (World.cell?_of_block (a := ⟨W.heap.size, j, none⟩) ((below_alloc (Below.refl _ _) _).block _ hwlt))); have hf2 : ∀ j, w2.frozen? ⟨W.heap.size, j, none⟩ = wr.frozen? ⟨W.heap.size, j, none⟩ := (fun j => (rfroz'' hg2 (by simp; omega) (fun e => by injection e with e; exact hdn e)).trans (World.frozen?_of_block (a := ⟨W.heap.size, j, none⟩) ((below_alloc (Below.refl _ _) _).block _ hwlt))); have hz2 := hg2.size; simp only [World.size_alloc] at hz2; have HG2 := Aside0.mk hg2; clear hg2))
    ·rw [← hQ.out]
     have hB2 : Below W.heap.size W w2 := (HB.out.alloc HB.out.size _).grown HG2.out (by rw [World.size_alloc]; omega) (fun j hj => by cases hj; omega)
     have hst := foldF_stop HG.out HNL.out HS.out hno
     rw [Int.toNat_of_nonneg h0] at hst
     refine bodyPost_ret (v := .tuple #[.slice none 0 0, .agg #[.int .i64 7, .int .i64 n]]) (by simp [results, Tryd.results27, go_sem, hc2, f0, f1, hz2]) rfl ?_
     refine ⟨.slice none 0 0, by rw [hst], by rw [hst]; exact Kd.V_nil _ _ _ _ _, ?_, by rw [hst]; intro h; cases h⟩
     repeat (with_reducible refine below_put ?_ _ _ (Nat.le_refl _) _)
     exact hB2
    ·have hB2 : Below W.heap.size W w2 := (HB.out.alloc HB.out.size _).grown HG2.out (by rw [World.size_alloc]; omega) (fun j hj => by cases hj; omega)
     have hxe : l[n.toNat]'HNL.out = x := HX.out.symm
     have hfin : FoldRel l W w1.heap.size (n + 1) w2 := by
      refine ⟨by omega, by have := HNL.out; omega, ⟨s', B', ?_, ?_, ?_⟩, hB2, (hc2 0).trans f0, (hc2 1).trans f1, (hf2 0).trans f2, (hf2 1).trans f3⟩
      ·rw [show (n + 1).toNat = n.toNat + 1 from by omega, stepsF_succ HS.out]; exact hst
      ·rw [show (n + 1).toNat = n.toNat + 1 from by omega]
       exact HI.out.step HNL.out (by rw [hxe]; exact good_full HXG.out) (by rw [hxe]; exact HXZ.out.1) hst
      ·rw [show (n + 1).toNat = n.toNat + 1 from by omega]; exact hD'
     have HF := Aside0.mk hfin
     clear hfin hB2 hxe hst hD' hc2 hf2
     go_roundw
     case rel => exact ⟨n + 1, by go_num, HF⟩
     case measure => simp [intOf]; have := HNL.out; omega
   ·have c1b : decide (n < (l.length : Int)) = false := decide_eq_false hlt
    have hnl : n.toNat = l.length := by omega
    have hs := HS.out
    have hI := HI.out
    have hD := HD.out
    rw [hnl] at hs hI hD
    have hNC := Nodes_calls (W.heap.size + 1) w1.heap.size l s B wr (by omega) (fun m hm => (HZ.out.2 m hm).2.2) hD hI (by omega)
    have HNC := Aside0.mk hNC
    have HSS := Aside0.mk hs
    clear hs hI hD hNC hnl
    go_wp2_with (go_at_call 47; refine HNC.out.mono ?_; rintro e w3 ⟨v, rfl, hN, hb3⟩; obtain ⟨Av, cv, rfl⟩ := Kd.N_slice hN; have hc3 : ∀ j, w3.cell? ⟨W.heap.size, j, none⟩ = wr.cell? ⟨W.heap.size, j, none⟩ := (fun j => hb3.cell (p := ⟨W.heap.size, j, none⟩) (Nat.lt_succ_self _)); have hf3 : ∀ j, w3.frozen? ⟨W.heap.size, j, none⟩ = wr.frozen? ⟨W.heap.size, j, none⟩ := (fun j => hb3.frozen (p := ⟨W.heap.size, j, none⟩) (Nat.lt_succ_self _)); have hz3 : W.heap.size < w3.heap.size := Nat.lt_of_lt_of_le hwlt hb3.size; have HN3 := Aside0.mk hN; have HB3 := Aside0.mk hb3; clear hN hb3)
    have hst := foldF_end HG.out HSS.out
    refine bodyPost_ret (v := .tuple #[.slice Av ((sortP s).map (nodeOf l (sortP s))).length cv, .agg #[.int .i64 0, .int .i64 0]]) (by simp [results, Tryd.results27, go_sem, hc3, f0, f1, hz3]) rfl ?_
    rw [← hQ.out]
    refine ⟨_, by rw [hst], ?_, ?_, ?_⟩
    ·rw [hst]
     refine Kd.V_mono (ok := fun k => wr.heap.size ≤ k) ?_ (fun k hk => by omega)
     repeat (with_reducible refine Kd.V_far ?_ (fun k hk e => by have e' : k = W.heap.size := e; omega) _)
     exact Kd.N_V HN3.out
    ·repeat (with_reducible refine below_put ?_ _ _ (Nat.le_refl _) _)
     exact HB.out.trans (HB3.out.mono (by omega))
    ·rw [hst]
     intro hp
     obtain ⟨g, cap, he, _⟩ := Kd.N_form HN3.out hp
     exact ⟨g, cap, he⟩
end Go.Proofs.YtfljbidecljlcaaDoor

namespace Go.Proofs.YtfljbidecljlcaaDoor.Print
open Go.RowKit Go.Proofs.YtfljbidecljlcaaDoor Go.Proofs.YtfljbidecljlcaaDoorW.PrintWords Go.Proofs.YtfljbidecljlcaaDoorW.PrintLast Go.Proofs.YtfljbidecljlcaaDoorW.PrintMore
set_option linter.unusedVariables false
def tree_Fold.f (l : List S45) : Option (List S40 × Int × Int) := if memsZ l = true then some (foldF l) else none
theorem tree_Fold.calls (A0 : Option Addr) (c0 : Nat) (l0 : List S45) (r1 : List S40) (r2 r3 : Int) (w : World) (hT : Aside0 (Tabs w)) (hr0 : Kd.C k45 w A0 l0.length l0) (hc0 : l0.length ≤ c0) (h : tree_Fold.f l0 = some (r1, r2, r3)) :
  Calls Tryd.prog 27 #[.slice A0 l0.length c0] w fun e w' => ∃ v0_ : Value, e = .returned (.tuple #[v0_, .agg #[.int .i64 r2, .int .i64 r3]]) ∧ Kd.V k40 40 w' w.heap.size (fun k_ => w.heap.size ≤ k_) v0_ r1 ∧ Below w.heap.size w w' := by
 unfold tree_Fold.f at h
 split at h
 ·rename_i hc
  simp only [Option.some.injEq] at h
  refine (Fold_calls A0 c0 l0 w hT.out hr0 ((memsZ_iff l0).1 hc)).mono ?_
  rintro e w' ⟨v, rfl, hV, hB, _⟩
  rw [h] at hV ⊢
  exact ⟨v, rfl, hV, hB⟩
 ·cases h
end Go.Proofs.YtfljbidecljlcaaDoor.Print

namespace Go.Proofs.YtfljbidecljlcaaDoor.Print
open Go.RowKit Go.Proofs.YtfljbidecljlcaaDoor Go.Proofs.YtfljbidecljlcaaDoorW.PrintWords Go.Proofs.YtfljbidecljlcaaDoorW.PrintLast Go.Proofs.YtfljbidecljlcaaDoorW.PrintMore
set_option linter.unusedVariables false
def tree_Find.f (l : List S40) (p : ByteArray) : Option (ByteArray × ByteArray × ByteArray × Int × Int × Int × Int × Int × List Int × Bool) :=
 if riseB l = true ∧ nodesZ l = true then some (tupN (findF l p)) else none
theorem tree_Find.calls (A0 : Option Addr) (c0 : Nat) (l0 : List S40) (a1 : ByteArray) (r1 r2 r3 : ByteArray) (r4 r5 r6 r7 r8 : Int) (r9 : List Int) (r10 : Bool) (w : World) (hr0 : Kd.C k40 w A0 l0.length l0) (hc0 : l0.length ≤ c0) (h : tree_Find.f l0 a1 = some (r1, r2, r3, r4, r5, r6, r7, r8, r9, r10)) :
  Calls Tryd.prog 36 #[.slice A0 l0.length c0, .string a1] w fun e w' => ∃ v8_ : Value, e = .returned (.tuple #[.agg #[.string r1, .string r2, .string r3, .int .u8 r4, .int .i64 r5, .int .i64 r6, .int .i64 r7, .int .i64 r8, v8_], .bool r10]) ∧ Kd.V (Kd.int .u8) 5 w' w.heap.size (fun k_ => w.heap.size ≤ k_) v8_ r9 ∧ Below w.heap.size w w' := by
 unfold tree_Find.f at h
 split at h
 ·rename_i hc
  refine (Find_calls A0 c0 l0 a1 w hr0 hc.1 ((nodesZ_iff l0).1 hc.2)).mono ?_
  rintro e w' ⟨x, b, v, hm, rfl, hR, hB⟩
  have hV := Kd.R_V (base' := w.heap.size) (Kd.R_mono (ok' := fun k_ => w.heap.size ≤ k_) (Kd.R_bound hR) (fun k hk => hk.2.1))
  cases hf : findF l0 a1 with
  | none =>
   rw [hf] at hm h
   obtain ⟨rfl, rfl⟩ := hm
   simp only [tupN, Option.some.injEq, Prod.mk.injEq] at h
   obtain ⟨rfl, rfl, rfl, rfl, rfl, rfl, rfl, rfl, rfl, rfl⟩ := h
   exact ⟨v, rfl, hV, hB⟩
  | some y =>
   rw [hf] at hm h
   obtain ⟨rfl, rfl⟩ := hm
   simp only [tupN, Option.some.injEq, Prod.mk.injEq] at h
   obtain ⟨rfl, rfl, rfl, rfl, rfl, rfl, rfl, rfl, rfl, rfl⟩ := h
   exact ⟨v, rfl, hV, hB⟩
 ·cases h
end Go.Proofs.YtfljbidecljlcaaDoor.Print

namespace Go.Proofs.YtfljbidecljlcaaDoor
open Go.RowKit
theorem binOp_leq_less (t : TypeId) (a b : ByteArray) : binOp .leq t (.string a) (.string b) = pure (.bool !(Op.bytesLess b.toList a.toList)) := by
 rw [binOp_string_leq]
 congr 2
 rcases less_tri a.toList b.toList with h | h | h
 ·rw [h]
  cases h2 : Op.bytesLess b.toList a.toList with
  | false => rfl
  | true =>
   have := less_trans _ _ _ h h2
   rw [less_irr] at this
   cases this
 ·rw [h, less_irr]; simp
 ·rw [h]
  cases h2 : Op.bytesLess a.toList b.toList with
  | true =>
   have := less_trans _ _ _ h h2
   rw [less_irr] at this
   cases this
  | false =>
   cases h3 : (a.toList == b.toList) with
   | false => rfl
   | true =>
    rw [beq_iff_eq] at h3
    rw [h3, less_irr] at h
    cases h
end Go.Proofs.YtfljbidecljlcaaDoor

namespace Go.Proofs.YtfljbidecljlcaaDoor.Print
open Go.RowKit Go.Proofs.YtfljbidecljlcaaDoorW.PrintWords Go.Proofs.YtfljbidecljlcaaDoorW.PrintLast Go.Proofs.YtfljbidecljlcaaDoorW.PrintMore
attribute [local go_sem] max2_int min2_int max_two min_two max_three min_three max_four min_four   -- for this text's walks alone
set_option linter.unusedVariables false
set_option linter.unusedSimpArgs false
attribute [local go_sem high] eqA38
attribute [local go_sem high] binOp_leq_less
def tree_led.f (l0 : List (S40)) (a1_0 : ByteArray) (a1_1 : ByteArray) (a1_2 : ByteArray) (a1_3 : Int) (a1_4 : Int) (a1_5 : Int) (a1_6 : Int) (a1_7 : Int) (l1_8 : List Int) : Option (Bool) := if a1_3 = 48 then ((tree_Find.f l0 a1_2).bind fun bt604 => (if bt604.2.2.2.2.2.2.2.2.2 = true then (if bt604.2.2.2.1 = 48 then (if bt604.2.2.1.toList = bt604.1.toList then (if ((Op.bytesLess a1_0.toList bt604.1.toList) = true) then (some false) else (if (bt604.2.2.2.2.1 == a1_4 && (bt604.2.2.2.2.2.1 == a1_5 && (bt604.2.2.2.2.2.2.1 == a1_6 && (bt604.2.2.2.2.2.2.2.1 == a1_7)))) = true then ((bytes_Equal.f bt604.2.2.2.2.2.2.2.2.1 l1_8).bind fun t617 => (some t617)) else (some false))) else (some false)) else (some false)) else (some false))) else (some (a1_2.toList == ([] : List UInt8)))
set_option maxHeartbeats 8000000 in
set_option maxRecDepth 100000 in
theorem tree_led.calls (A0 : Option Addr) (c0 : Nat) (l0 : List (S40)) (a1_0 : ByteArray) (a1_1 : ByteArray) (a1_2 : ByteArray) (a1_3 : Int) (a1_4 : Int) (a1_5 : Int) (a1_6 : Int) (a1_7 : Int) (A1_8 : Option Addr) (c1_8 : Nat) (l1_8 : List Int) (r : Bool) (w : World) (hr0 : Kd.C k40 w A0 l0.length l0) (hc0 : l0.length ≤ c0) (hr1_8 : Kd.C (Kd.int .u8) w A1_8 l1_8.length l1_8) (hc1_8 : l1_8.length ≤ c1_8) (h : tree_led.f l0 a1_0 a1_1 a1_2 a1_3 a1_4 a1_5 a1_6 a1_7 l1_8 = some r) :
  Calls Tryd.prog 52 #[.slice A0 l0.length c0, .agg #[.string a1_0, .string a1_1, .string a1_2, .int .u8 a1_3, .int .i64 a1_4, .int .i64 a1_5, .int .i64 a1_6, .int .i64 a1_7, .slice A1_8 l1_8.length c1_8]] w fun e w' => e = .returned (.bool r) ∧ Below w.heap.size w w' := by
 have hu40 := Tryd.underlying40
 have hu38 := Tryd.underlying38
 have HR0 := A0_ hr0
 have HC0 := A0_ hc0
 clear hr0 hc0
 have HR1_8 := A0_ hr1_8
 have HC1_8 := A0_ hc1_8
 clear hr1_8 hc1_8
 have HB := A0_ (Below.refl w.heap.size w)
 have H : (if a1_3 = 48 then ((tree_Find.f l0 a1_2).bind fun bt604 => (if bt604.2.2.2.2.2.2.2.2.2 = true then (if bt604.2.2.2.1 = 48 then (if bt604.2.2.1.toList = bt604.1.toList then (if ((Op.bytesLess a1_0.toList bt604.1.toList) = true) then (some false) else (if (bt604.2.2.2.2.1 == a1_4 && (bt604.2.2.2.2.2.1 == a1_5 && (bt604.2.2.2.2.2.2.1 == a1_6 && (bt604.2.2.2.2.2.2.2.1 == a1_7)))) = true then ((bytes_Equal.f bt604.2.2.2.2.2.2.2.2.1 l1_8).bind fun t617 => (some t617)) else (some false))) else (some false)) else (some false)) else (some false))) else (some (a1_2.toList == ([] : List UInt8)))) = some r := h
 clear h
 by_cases c3 : a1_3 = 48
 rotate_left
 ·rw [if_neg c3] at H
  have c3b0 : (a1_3 == 48) = false := beq_eq_false_iff_ne.mpr c3
  have c3b1 : (a1_3 != 48) = true := bne_iff_ne.mpr c3
  obtain rfl := Option.some.inj H
  go_enter Tryd.func52, Tryd.ntmps52
  go_wp2_with (first | ((with_reducible refine gate_dst (N := 3) rfl ?_); refine box_event ?hg (N := 3) ?hd (cs := #[.string a1_0, .string a1_1, .string a1_2, .int .u8 a1_3, .int .i64 a1_4, .int .i64 a1_5, .int .i64 a1_6, .int .i64 a1_7, .slice A1_8 l1_8.length c1_8]) (t := 40) ?hr ?_; (case hd => rfl); (case hg => rfl); (case hr => first | (go_simp; done) | (go_simp; rfl)); intro gb603 hg w56 hbox hb; have n0_ := A0_ (below_step (wb_ HB.out) hb); have n1_ := A0_ (hbox); have n2_ := A0_ ((by rw [hg]; exact (below_size (wb_ HB.out)) : w.heap.size ≤ gb603)); have n3_ := A0_ ((by rw [hg]; exact (below_size (wb_ HB.out)) : w.heap.size ≤ gb603)); clear HB; have HB := n0_; have BK603 := n1_; have GW603 := n2_; have GE603 := n3_; clear n0_ n1_ n2_ n3_; clear hb hbox hg; have hcz57_0 : w56.cell? ⟨gb603, 0, none⟩ = some (.string a1_0) := (bc_ BK603.out 0).trans rfl; have hcz57_1 : w56.cell? ⟨gb603, 1, none⟩ = some (.string a1_1) := (bc_ BK603.out 1).trans rfl; have hcz57_2 : w56.cell? ⟨gb603, 2, none⟩ = some (.string a1_2) := (bc_ BK603.out 2).trans rfl; have hcz57_3 : w56.cell? ⟨gb603, 3, none⟩ = some (.int .u8 a1_3) := (bc_ BK603.out 3).trans rfl; have hcz57_4 : w56.cell? ⟨gb603, 4, none⟩ = some (.int .i64 a1_4) := (bc_ BK603.out 4).trans rfl; have hcz57_5 : w56.cell? ⟨gb603, 5, none⟩ = some (.int .i64 a1_5) := (bc_ BK603.out 5).trans rfl; have hcz57_6 : w56.cell? ⟨gb603, 6, none⟩ = some (.int .i64 a1_6) := (bc_ BK603.out 6).trans rfl; have hcz57_7 : w56.cell? ⟨gb603, 7, none⟩ = some (.int .i64 a1_7) := (bc_ BK603.out 7).trans rfl; have hcz57_8 : w56.cell? ⟨gb603, 8, none⟩ = some (.slice A1_8 l1_8.length c1_8) := (bc_ BK603.out 8).trans rfl; have hfz57_0 := bf_ BK603.out 0; have hfz57_1 := bf_ BK603.out 1; have hfz57_2 := bf_ BK603.out 2; have hfz57_3 := bf_ BK603.out 3; have hfz57_4 := bf_ BK603.out 4; have hfz57_5 := bf_ BK603.out 5; have hfz57_6 := bf_ BK603.out 6; have hfz57_7 := bf_ BK603.out 7; have hfz57_8 := bf_ BK603.out 8))
  go_ret
  exact ⟨we_, wb1_ HB.out GE603.out⟩
 rw [if_pos c3] at H
 have c3b0 : (a1_3 == 48) = true := beq_iff_eq.mpr c3
 have c3b1 : (a1_3 != 48) = false := bne_eq_false_iff_eq.mpr c3
 clear c3
 replace H := Option.bind_eq_some_iff.mp H
 obtain ⟨⟨t604, t605, t606, t607, t608, t609, t610, t611, t612, t615⟩, A40, H⟩ := H
 replace H : (if t615 = true then (if t607 = 48 then (if t606.toList = t604.toList then (if ((Op.bytesLess a1_0.toList t604.toList) = true) then (some false) else (if (t608 == a1_4 && (t609 == a1_5 && (t610 == a1_6 && (t611 == a1_7)))) = true then ((bytes_Equal.f t612 l1_8).bind fun t617 => (some t617)) else (some false))) else (some false)) else (some false)) else (some false)) = some r := H
 have A4 := A0_ A40
 clear A40
 by_cases c5 : t615 = true
 rotate_left
 ·replace c5 := Bool.eq_false_iff.mpr c5
  subst c5
  have H1 : (some false) = some r := by rw [if_neg (show ¬ (false = true) by decide)] at H; exact H
  clear H
  have H := H1
  clear H1
  obtain rfl := Option.some.inj H
  go_enter Tryd.func52, Tryd.ntmps52
  go_wp2_with (first | ((with_reducible refine gate_dst (N := 3) rfl ?_); refine box_event ?hg (N := 3) ?hd (cs := #[.string a1_0, .string a1_1, .string a1_2, .int .u8 a1_3, .int .i64 a1_4, .int .i64 a1_5, .int .i64 a1_6, .int .i64 a1_7, .slice A1_8 l1_8.length c1_8]) (t := 40) ?hr ?_; (case hd => rfl); (case hg => rfl); (case hr => first | (go_simp; done) | (go_simp; rfl)); intro gb603 hg w49 hbox hb; have n0_ := A0_ (below_step (wb_ HB.out) hb); have n1_ := A0_ (hbox); have n2_ := A0_ ((by rw [hg]; exact (below_size (wb_ HB.out)) : w.heap.size ≤ gb603)); have n3_ := A0_ ((by rw [hg]; exact (below_size (wb_ HB.out)) : w.heap.size ≤ gb603)); clear HB; have HB := n0_; have BK603 := n1_; have GW603 := n2_; have GE603 := n3_; clear n0_ n1_ n2_ n3_; clear hb hbox hg; have hcz50_0 : w49.cell? ⟨gb603, 0, none⟩ = some (.string a1_0) := (bc_ BK603.out 0).trans rfl; have hcz50_1 : w49.cell? ⟨gb603, 1, none⟩ = some (.string a1_1) := (bc_ BK603.out 1).trans rfl; have hcz50_2 : w49.cell? ⟨gb603, 2, none⟩ = some (.string a1_2) := (bc_ BK603.out 2).trans rfl; have hcz50_3 : w49.cell? ⟨gb603, 3, none⟩ = some (.int .u8 a1_3) := (bc_ BK603.out 3).trans rfl; have hcz50_4 : w49.cell? ⟨gb603, 4, none⟩ = some (.int .i64 a1_4) := (bc_ BK603.out 4).trans rfl; have hcz50_5 : w49.cell? ⟨gb603, 5, none⟩ = some (.int .i64 a1_5) := (bc_ BK603.out 5).trans rfl; have hcz50_6 : w49.cell? ⟨gb603, 6, none⟩ = some (.int .i64 a1_6) := (bc_ BK603.out 6).trans rfl; have hcz50_7 : w49.cell? ⟨gb603, 7, none⟩ = some (.int .i64 a1_7) := (bc_ BK603.out 7).trans rfl; have hcz50_8 : w49.cell? ⟨gb603, 8, none⟩ = some (.slice A1_8 l1_8.length c1_8) := (bc_ BK603.out 8).trans rfl; have hfz50_0 := bf_ BK603.out 0; have hfz50_1 := bf_ BK603.out 1; have hfz50_2 := bf_ BK603.out 2; have hfz50_3 := bf_ BK603.out 3; have hfz50_4 := bf_ BK603.out 4; have hfz50_5 := bf_ BK603.out 5; have hfz50_6 := bf_ BK603.out 6; have hfz50_7 := bf_ BK603.out 7; have hfz50_8 := bf_ BK603.out 8) | ((with_reducible refine gate_callee (f := 36) rfl ?_); refine goesL_ (some 17) rfl rfl Tryd.func36 (by kernel_rfl) rfl #[.slice A0 l0.length c0, .string a1_2] rfl wm_ ?_; (with_reducible refine (tree_Find.calls _ _ l0 a1_2 t604 t605 t606 t607 t608 t609 t610 t611 t612 false _ ?side1 ?side2 A4.out).mono ?_); (case side1 => exact wc_ (Kd.C_below HR0.out HB.out)); (case side2 => exact HC0.out); rintro e w51 ⟨v613, rfl, ho0, hb⟩; refine ⟨_, rfl, ?_⟩; have n0_ := A0_ (Kd.V_lower (Kd.V_mono (ok' := fun k_ => k_ ≠ gb603) ho0 (fun k_ hk_ => (Kd.freshB (g := gb603) (o := .cells #[.string a1_0, .string a1_1, .string a1_2, .int .u8 a1_3, .int .i64 a1_4, .int .i64 a1_5, .int .i64 a1_6, .int .i64 a1_7, .slice A1_8 l1_8.length c1_8] 40 (0, 0)) (wB_ BK603.out) k_ hk_))) (below_size (wb1_ HB.out GE603.out))); have n1_ := A0_ (blk_below (g := gb603) (o := .cells #[.string a1_0, .string a1_1, .string a1_2, .int .u8 a1_3, .int .i64 a1_4, .int .i64 a1_5, .int .i64 a1_6, .int .i64 a1_7, .slice A1_8 l1_8.length c1_8] 40 (0, 0)) (wB_ BK603.out) hb); have n2_ := A0_ (below_step (wb1_ HB.out GE603.out) hb); clear BK603; clear HB; have HO614 := n0_; have BK603 := n1_; have HB := n2_; clear n0_ n1_ n2_; (try clear hb); (try clear hb2); (try clear hk); (try clear hi); (try clear ho0)) | ((with_reducible refine gate_dst (N := 5) rfl ?_); refine box_event ?hg (N := 5) ?hd (cs := #[.string (⟨#[]⟩ : ByteArray), .string (⟨#[]⟩ : ByteArray), .string (⟨#[]⟩ : ByteArray), .int .u8 0, .int .i64 0, .int .i64 0, .int .i64 0, .int .i64 0, .slice none 0 0]) (t := 40) ?hr ?_; (case hd => rfl); (case hg => rfl); (case hr => first | (go_simp; done) | (go_simp; rfl)); intro gb616 hg w52 hbox hb; have n0_ := A0_ (Vb_ (Kd.V_elderB (wV_ HO614.out) gb616 (Nat.le_of_eq hg.symm)) hb); have n1_ := A0_ (blk_below (g := gb603) (o := .cells #[.string a1_0, .string a1_1, .string a1_2, .int .u8 a1_3, .int .i64 a1_4, .int .i64 a1_5, .int .i64 a1_6, .int .i64 a1_7, .slice A1_8 l1_8.length c1_8] 40 (0, 0)) (wB_ BK603.out) hb); have n2_ := A0_ (below_step (wb1_ HB.out GE603.out) hb); have n3_ := A0_ (hbox); have n4_ := A0_ ((by rw [hg]; exact (below_size (wb1_ HB.out GE603.out)) : w.heap.size ≤ gb616)); have n5_ := A0_ ((by rw [hg]; exact (below_size (wb1_ HB.out GE603.out)) : w.heap.size ≤ gb616)); have n6_ := A0_ ((by rw [hg]; exact Nat.ne_of_lt (blk_lt (g := gb603) (o := .cells #[.string a1_0, .string a1_1, .string a1_2, .int .u8 a1_3, .int .i64 a1_4, .int .i64 a1_5, .int .i64 a1_6, .int .i64 a1_7, .slice A1_8 l1_8.length c1_8] 40 (0, 0)) (wB_ BK603.out)) : gb603 ≠ gb616)); have n7_ := A0_ ((by rw [hg]; exact Nat.ne_of_gt (blk_lt (g := gb603) (o := .cells #[.string a1_0, .string a1_1, .string a1_2, .int .u8 a1_3, .int .i64 a1_4, .int .i64 a1_5, .int .i64 a1_6, .int .i64 a1_7, .slice A1_8 l1_8.length c1_8] 40 (0, 0)) (wB_ BK603.out)) : gb616 ≠ gb603)); clear HO614; clear BK603; clear HB; have HO614 := n0_; have BK603 := n1_; have HB := n2_; have BK616 := n3_; have GW616 := n4_; have GE616 := n5_; have NB603_616 := n6_; have NB616_603 := n7_; clear n0_ n1_ n2_ n3_ n4_ n5_ n6_ n7_; clear hb hbox hg; have hnb53 := NB616_603.out; have hnc53 := NB603_616.out; have hcz54_0 : w52.cell? ⟨gb616, 0, none⟩ = some (.string (⟨#[]⟩ : ByteArray)) := (bc_ BK616.out 0).trans rfl; have hcz54_1 : w52.cell? ⟨gb616, 1, none⟩ = some (.string (⟨#[]⟩ : ByteArray)) := (bc_ BK616.out 1).trans rfl; have hcz54_2 : w52.cell? ⟨gb616, 2, none⟩ = some (.string (⟨#[]⟩ : ByteArray)) := (bc_ BK616.out 2).trans rfl; have hcz54_3 : w52.cell? ⟨gb616, 3, none⟩ = some (.int .u8 0) := (bc_ BK616.out 3).trans rfl; have hcz54_4 : w52.cell? ⟨gb616, 4, none⟩ = some (.int .i64 0) := (bc_ BK616.out 4).trans rfl; have hcz54_5 : w52.cell? ⟨gb616, 5, none⟩ = some (.int .i64 0) := (bc_ BK616.out 5).trans rfl; have hcz54_6 : w52.cell? ⟨gb616, 6, none⟩ = some (.int .i64 0) := (bc_ BK616.out 6).trans rfl; have hcz54_7 : w52.cell? ⟨gb616, 7, none⟩ = some (.int .i64 0) := (bc_ BK616.out 7).trans rfl; have hcz54_8 : w52.cell? ⟨gb616, 8, none⟩ = some (.slice none 0 0) := (bc_ BK616.out 8).trans rfl; have hfz54_0 := bf_ BK616.out 0; have hfz54_1 := bf_ BK616.out 1; have hfz54_2 := bf_ BK616.out 2; have hfz54_3 := bf_ BK616.out 3; have hfz54_4 := bf_ BK616.out 4; have hfz54_5 := bf_ BK616.out 5; have hfz54_6 := bf_ BK616.out 6; have hfz54_7 := bf_ BK616.out 7; have hfz54_8 := bf_ BK616.out 8; obtain ⟨Ao55, co55, eo55⟩ := Kd.V_slice HO614.out; subst eo55))
  go_ret
  exact ⟨we_, wb2_ HB.out GE603.out GE616.out⟩
 subst c5
 have H1 : (if t607 = 48 then (if t606.toList = t604.toList then (if ((Op.bytesLess a1_0.toList t604.toList) = true) then (some false) else (if (t608 == a1_4 && (t609 == a1_5 && (t610 == a1_6 && (t611 == a1_7)))) = true then ((bytes_Equal.f t612 l1_8).bind fun t617 => (some t617)) else (some false))) else (some false)) else (some false)) = some r := by rw [if_pos rfl] at H; exact H
 clear H
 have H := H1
 clear H1
 by_cases c6 : t607 = 48
 rotate_left
 ·rw [if_neg c6] at H
  have c6b0 : (t607 == 48) = false := beq_eq_false_iff_ne.mpr c6
  have c6b1 : (t607 != 48) = true := bne_iff_ne.mpr c6
  obtain rfl := Option.some.inj H
  go_enter Tryd.func52, Tryd.ntmps52
  go_wp2_with (first | ((with_reducible refine gate_dst (N := 3) rfl ?_); refine box_event ?hg (N := 3) ?hd (cs := #[.string a1_0, .string a1_1, .string a1_2, .int .u8 a1_3, .int .i64 a1_4, .int .i64 a1_5, .int .i64 a1_6, .int .i64 a1_7, .slice A1_8 l1_8.length c1_8]) (t := 40) ?hr ?_; (case hd => rfl); (case hg => rfl); (case hr => first | (go_simp; done) | (go_simp; rfl)); intro gb603 hg w42 hbox hb; have n0_ := A0_ (below_step (wb_ HB.out) hb); have n1_ := A0_ (hbox); have n2_ := A0_ ((by rw [hg]; exact (below_size (wb_ HB.out)) : w.heap.size ≤ gb603)); have n3_ := A0_ ((by rw [hg]; exact (below_size (wb_ HB.out)) : w.heap.size ≤ gb603)); clear HB; have HB := n0_; have BK603 := n1_; have GW603 := n2_; have GE603 := n3_; clear n0_ n1_ n2_ n3_; clear hb hbox hg; have hcz43_0 : w42.cell? ⟨gb603, 0, none⟩ = some (.string a1_0) := (bc_ BK603.out 0).trans rfl; have hcz43_1 : w42.cell? ⟨gb603, 1, none⟩ = some (.string a1_1) := (bc_ BK603.out 1).trans rfl; have hcz43_2 : w42.cell? ⟨gb603, 2, none⟩ = some (.string a1_2) := (bc_ BK603.out 2).trans rfl; have hcz43_3 : w42.cell? ⟨gb603, 3, none⟩ = some (.int .u8 a1_3) := (bc_ BK603.out 3).trans rfl; have hcz43_4 : w42.cell? ⟨gb603, 4, none⟩ = some (.int .i64 a1_4) := (bc_ BK603.out 4).trans rfl; have hcz43_5 : w42.cell? ⟨gb603, 5, none⟩ = some (.int .i64 a1_5) := (bc_ BK603.out 5).trans rfl; have hcz43_6 : w42.cell? ⟨gb603, 6, none⟩ = some (.int .i64 a1_6) := (bc_ BK603.out 6).trans rfl; have hcz43_7 : w42.cell? ⟨gb603, 7, none⟩ = some (.int .i64 a1_7) := (bc_ BK603.out 7).trans rfl; have hcz43_8 : w42.cell? ⟨gb603, 8, none⟩ = some (.slice A1_8 l1_8.length c1_8) := (bc_ BK603.out 8).trans rfl; have hfz43_0 := bf_ BK603.out 0; have hfz43_1 := bf_ BK603.out 1; have hfz43_2 := bf_ BK603.out 2; have hfz43_3 := bf_ BK603.out 3; have hfz43_4 := bf_ BK603.out 4; have hfz43_5 := bf_ BK603.out 5; have hfz43_6 := bf_ BK603.out 6; have hfz43_7 := bf_ BK603.out 7; have hfz43_8 := bf_ BK603.out 8) | ((with_reducible refine gate_callee (f := 36) rfl ?_); refine goesL_ (some 17) rfl rfl Tryd.func36 (by kernel_rfl) rfl #[.slice A0 l0.length c0, .string a1_2] rfl wm_ ?_; (with_reducible refine (tree_Find.calls _ _ l0 a1_2 t604 t605 t606 t607 t608 t609 t610 t611 t612 true _ ?side1 ?side2 A4.out).mono ?_); (case side1 => exact wc_ (Kd.C_below HR0.out HB.out)); (case side2 => exact HC0.out); rintro e w44 ⟨v613, rfl, ho0, hb⟩; refine ⟨_, rfl, ?_⟩; have n0_ := A0_ (Kd.V_lower (Kd.V_mono (ok' := fun k_ => k_ ≠ gb603) ho0 (fun k_ hk_ => (Kd.freshB (g := gb603) (o := .cells #[.string a1_0, .string a1_1, .string a1_2, .int .u8 a1_3, .int .i64 a1_4, .int .i64 a1_5, .int .i64 a1_6, .int .i64 a1_7, .slice A1_8 l1_8.length c1_8] 40 (0, 0)) (wB_ BK603.out) k_ hk_))) (below_size (wb1_ HB.out GE603.out))); have n1_ := A0_ (blk_below (g := gb603) (o := .cells #[.string a1_0, .string a1_1, .string a1_2, .int .u8 a1_3, .int .i64 a1_4, .int .i64 a1_5, .int .i64 a1_6, .int .i64 a1_7, .slice A1_8 l1_8.length c1_8] 40 (0, 0)) (wB_ BK603.out) hb); have n2_ := A0_ (below_step (wb1_ HB.out GE603.out) hb); clear BK603; clear HB; have HO614 := n0_; have BK603 := n1_; have HB := n2_; clear n0_ n1_ n2_; (try clear hb); (try clear hb2); (try clear hk); (try clear hi); (try clear ho0)) | ((with_reducible refine gate_dst (N := 5) rfl ?_); refine box_event ?hg (N := 5) ?hd (cs := #[.string (⟨#[]⟩ : ByteArray), .string (⟨#[]⟩ : ByteArray), .string (⟨#[]⟩ : ByteArray), .int .u8 0, .int .i64 0, .int .i64 0, .int .i64 0, .int .i64 0, .slice none 0 0]) (t := 40) ?hr ?_; (case hd => rfl); (case hg => rfl); (case hr => first | (go_simp; done) | (go_simp; rfl)); intro gb616 hg w45 hbox hb; have n0_ := A0_ (Vb_ (Kd.V_elderB (wV_ HO614.out) gb616 (Nat.le_of_eq hg.symm)) hb); have n1_ := A0_ (blk_below (g := gb603) (o := .cells #[.string a1_0, .string a1_1, .string a1_2, .int .u8 a1_3, .int .i64 a1_4, .int .i64 a1_5, .int .i64 a1_6, .int .i64 a1_7, .slice A1_8 l1_8.length c1_8] 40 (0, 0)) (wB_ BK603.out) hb); have n2_ := A0_ (below_step (wb1_ HB.out GE603.out) hb); have n3_ := A0_ (hbox); have n4_ := A0_ ((by rw [hg]; exact (below_size (wb1_ HB.out GE603.out)) : w.heap.size ≤ gb616)); have n5_ := A0_ ((by rw [hg]; exact (below_size (wb1_ HB.out GE603.out)) : w.heap.size ≤ gb616)); have n6_ := A0_ ((by rw [hg]; exact Nat.ne_of_lt (blk_lt (g := gb603) (o := .cells #[.string a1_0, .string a1_1, .string a1_2, .int .u8 a1_3, .int .i64 a1_4, .int .i64 a1_5, .int .i64 a1_6, .int .i64 a1_7, .slice A1_8 l1_8.length c1_8] 40 (0, 0)) (wB_ BK603.out)) : gb603 ≠ gb616)); have n7_ := A0_ ((by rw [hg]; exact Nat.ne_of_gt (blk_lt (g := gb603) (o := .cells #[.string a1_0, .string a1_1, .string a1_2, .int .u8 a1_3, .int .i64 a1_4, .int .i64 a1_5, .int .i64 a1_6, .int .i64 a1_7, .slice A1_8 l1_8.length c1_8] 40 (0, 0)) (wB_ BK603.out)) : gb616 ≠ gb603)); clear HO614; clear BK603; clear HB; have HO614 := n0_; have BK603 := n1_; have HB := n2_; have BK616 := n3_; have GW616 := n4_; have GE616 := n5_; have NB603_616 := n6_; have NB616_603 := n7_; clear n0_ n1_ n2_ n3_ n4_ n5_ n6_ n7_; clear hb hbox hg; have hnb46 := NB616_603.out; have hnc46 := NB603_616.out; have hcz47_0 : w45.cell? ⟨gb616, 0, none⟩ = some (.string (⟨#[]⟩ : ByteArray)) := (bc_ BK616.out 0).trans rfl; have hcz47_1 : w45.cell? ⟨gb616, 1, none⟩ = some (.string (⟨#[]⟩ : ByteArray)) := (bc_ BK616.out 1).trans rfl; have hcz47_2 : w45.cell? ⟨gb616, 2, none⟩ = some (.string (⟨#[]⟩ : ByteArray)) := (bc_ BK616.out 2).trans rfl; have hcz47_3 : w45.cell? ⟨gb616, 3, none⟩ = some (.int .u8 0) := (bc_ BK616.out 3).trans rfl; have hcz47_4 : w45.cell? ⟨gb616, 4, none⟩ = some (.int .i64 0) := (bc_ BK616.out 4).trans rfl; have hcz47_5 : w45.cell? ⟨gb616, 5, none⟩ = some (.int .i64 0) := (bc_ BK616.out 5).trans rfl; have hcz47_6 : w45.cell? ⟨gb616, 6, none⟩ = some (.int .i64 0) := (bc_ BK616.out 6).trans rfl; have hcz47_7 : w45.cell? ⟨gb616, 7, none⟩ = some (.int .i64 0) := (bc_ BK616.out 7).trans rfl; have hcz47_8 : w45.cell? ⟨gb616, 8, none⟩ = some (.slice none 0 0) := (bc_ BK616.out 8).trans rfl; have hfz47_0 := bf_ BK616.out 0; have hfz47_1 := bf_ BK616.out 1; have hfz47_2 := bf_ BK616.out 2; have hfz47_3 := bf_ BK616.out 3; have hfz47_4 := bf_ BK616.out 4; have hfz47_5 := bf_ BK616.out 5; have hfz47_6 := bf_ BK616.out 6; have hfz47_7 := bf_ BK616.out 7; have hfz47_8 := bf_ BK616.out 8; obtain ⟨Ao48, co48, eo48⟩ := Kd.V_slice HO614.out; subst eo48))
  go_ret
  exact ⟨we_, wb2_ HB.out GE603.out GE616.out⟩
 rw [if_pos c6] at H
 have c6b0 : (t607 == 48) = true := beq_iff_eq.mpr c6
 have c6b1 : (t607 != 48) = false := bne_eq_false_iff_eq.mpr c6
 clear c6
 by_cases c7 : t606.toList = t604.toList
 rotate_left
 ·rw [if_neg c7] at H
  have c7b0 : (t606.toList == t604.toList) = false := beq_eq_false_iff_ne.mpr c7
  have c7b1 : (t606.toList != t604.toList) = true := bne_iff_ne.mpr c7
  obtain rfl := Option.some.inj H
  go_enter Tryd.func52, Tryd.ntmps52
  go_wp2_with (first | ((with_reducible refine gate_dst (N := 3) rfl ?_); refine box_event ?hg (N := 3) ?hd (cs := #[.string a1_0, .string a1_1, .string a1_2, .int .u8 a1_3, .int .i64 a1_4, .int .i64 a1_5, .int .i64 a1_6, .int .i64 a1_7, .slice A1_8 l1_8.length c1_8]) (t := 40) ?hr ?_; (case hd => rfl); (case hg => rfl); (case hr => first | (go_simp; done) | (go_simp; rfl)); intro gb603 hg w35 hbox hb; have n0_ := A0_ (below_step (wb_ HB.out) hb); have n1_ := A0_ (hbox); have n2_ := A0_ ((by rw [hg]; exact (below_size (wb_ HB.out)) : w.heap.size ≤ gb603)); have n3_ := A0_ ((by rw [hg]; exact (below_size (wb_ HB.out)) : w.heap.size ≤ gb603)); clear HB; have HB := n0_; have BK603 := n1_; have GW603 := n2_; have GE603 := n3_; clear n0_ n1_ n2_ n3_; clear hb hbox hg; have hcz36_0 : w35.cell? ⟨gb603, 0, none⟩ = some (.string a1_0) := (bc_ BK603.out 0).trans rfl; have hcz36_1 : w35.cell? ⟨gb603, 1, none⟩ = some (.string a1_1) := (bc_ BK603.out 1).trans rfl; have hcz36_2 : w35.cell? ⟨gb603, 2, none⟩ = some (.string a1_2) := (bc_ BK603.out 2).trans rfl; have hcz36_3 : w35.cell? ⟨gb603, 3, none⟩ = some (.int .u8 a1_3) := (bc_ BK603.out 3).trans rfl; have hcz36_4 : w35.cell? ⟨gb603, 4, none⟩ = some (.int .i64 a1_4) := (bc_ BK603.out 4).trans rfl; have hcz36_5 : w35.cell? ⟨gb603, 5, none⟩ = some (.int .i64 a1_5) := (bc_ BK603.out 5).trans rfl; have hcz36_6 : w35.cell? ⟨gb603, 6, none⟩ = some (.int .i64 a1_6) := (bc_ BK603.out 6).trans rfl; have hcz36_7 : w35.cell? ⟨gb603, 7, none⟩ = some (.int .i64 a1_7) := (bc_ BK603.out 7).trans rfl; have hcz36_8 : w35.cell? ⟨gb603, 8, none⟩ = some (.slice A1_8 l1_8.length c1_8) := (bc_ BK603.out 8).trans rfl; have hfz36_0 := bf_ BK603.out 0; have hfz36_1 := bf_ BK603.out 1; have hfz36_2 := bf_ BK603.out 2; have hfz36_3 := bf_ BK603.out 3; have hfz36_4 := bf_ BK603.out 4; have hfz36_5 := bf_ BK603.out 5; have hfz36_6 := bf_ BK603.out 6; have hfz36_7 := bf_ BK603.out 7; have hfz36_8 := bf_ BK603.out 8) | ((with_reducible refine gate_callee (f := 36) rfl ?_); refine goesL_ (some 17) rfl rfl Tryd.func36 (by kernel_rfl) rfl #[.slice A0 l0.length c0, .string a1_2] rfl wm_ ?_; (with_reducible refine (tree_Find.calls _ _ l0 a1_2 t604 t605 t606 t607 t608 t609 t610 t611 t612 true _ ?side1 ?side2 A4.out).mono ?_); (case side1 => exact wc_ (Kd.C_below HR0.out HB.out)); (case side2 => exact HC0.out); rintro e w37 ⟨v613, rfl, ho0, hb⟩; refine ⟨_, rfl, ?_⟩; have n0_ := A0_ (Kd.V_lower (Kd.V_mono (ok' := fun k_ => k_ ≠ gb603) ho0 (fun k_ hk_ => (Kd.freshB (g := gb603) (o := .cells #[.string a1_0, .string a1_1, .string a1_2, .int .u8 a1_3, .int .i64 a1_4, .int .i64 a1_5, .int .i64 a1_6, .int .i64 a1_7, .slice A1_8 l1_8.length c1_8] 40 (0, 0)) (wB_ BK603.out) k_ hk_))) (below_size (wb1_ HB.out GE603.out))); have n1_ := A0_ (blk_below (g := gb603) (o := .cells #[.string a1_0, .string a1_1, .string a1_2, .int .u8 a1_3, .int .i64 a1_4, .int .i64 a1_5, .int .i64 a1_6, .int .i64 a1_7, .slice A1_8 l1_8.length c1_8] 40 (0, 0)) (wB_ BK603.out) hb); have n2_ := A0_ (below_step (wb1_ HB.out GE603.out) hb); clear BK603; clear HB; have HO614 := n0_; have BK603 := n1_; have HB := n2_; clear n0_ n1_ n2_; (try clear hb); (try clear hb2); (try clear hk); (try clear hi); (try clear ho0)) | ((with_reducible refine gate_dst (N := 5) rfl ?_); refine box_event ?hg (N := 5) ?hd (cs := #[.string (⟨#[]⟩ : ByteArray), .string (⟨#[]⟩ : ByteArray), .string (⟨#[]⟩ : ByteArray), .int .u8 0, .int .i64 0, .int .i64 0, .int .i64 0, .int .i64 0, .slice none 0 0]) (t := 40) ?hr ?_; (case hd => rfl); (case hg => rfl); (case hr => first | (go_simp; done) | (go_simp; rfl)); intro gb616 hg w38 hbox hb; have n0_ := A0_ (Vb_ (Kd.V_elderB (wV_ HO614.out) gb616 (Nat.le_of_eq hg.symm)) hb); have n1_ := A0_ (blk_below (g := gb603) (o := .cells #[.string a1_0, .string a1_1, .string a1_2, .int .u8 a1_3, .int .i64 a1_4, .int .i64 a1_5, .int .i64 a1_6, .int .i64 a1_7, .slice A1_8 l1_8.length c1_8] 40 (0, 0)) (wB_ BK603.out) hb); have n2_ := A0_ (below_step (wb1_ HB.out GE603.out) hb); have n3_ := A0_ (hbox); have n4_ := A0_ ((by rw [hg]; exact (below_size (wb1_ HB.out GE603.out)) : w.heap.size ≤ gb616)); have n5_ := A0_ ((by rw [hg]; exact (below_size (wb1_ HB.out GE603.out)) : w.heap.size ≤ gb616)); have n6_ := A0_ ((by rw [hg]; exact Nat.ne_of_lt (blk_lt (g := gb603) (o := .cells #[.string a1_0, .string a1_1, .string a1_2, .int .u8 a1_3, .int .i64 a1_4, .int .i64 a1_5, .int .i64 a1_6, .int .i64 a1_7, .slice A1_8 l1_8.length c1_8] 40 (0, 0)) (wB_ BK603.out)) : gb603 ≠ gb616)); have n7_ := A0_ ((by rw [hg]; exact Nat.ne_of_gt (blk_lt (g := gb603) (o := .cells #[.string a1_0, .string a1_1, .string a1_2, .int .u8 a1_3, .int .i64 a1_4, .int .i64 a1_5, .int .i64 a1_6, .int .i64 a1_7, .slice A1_8 l1_8.length c1_8] 40 (0, 0)) (wB_ BK603.out)) : gb616 ≠ gb603)); clear HO614; clear BK603; clear HB; have HO614 := n0_; have BK603 := n1_; have HB := n2_; have BK616 := n3_; have GW616 := n4_; have GE616 := n5_; have NB603_616 := n6_; have NB616_603 := n7_; clear n0_ n1_ n2_ n3_ n4_ n5_ n6_ n7_; clear hb hbox hg; have hnb39 := NB616_603.out; have hnc39 := NB603_616.out; have hcz40_0 : w38.cell? ⟨gb616, 0, none⟩ = some (.string (⟨#[]⟩ : ByteArray)) := (bc_ BK616.out 0).trans rfl; have hcz40_1 : w38.cell? ⟨gb616, 1, none⟩ = some (.string (⟨#[]⟩ : ByteArray)) := (bc_ BK616.out 1).trans rfl; have hcz40_2 : w38.cell? ⟨gb616, 2, none⟩ = some (.string (⟨#[]⟩ : ByteArray)) := (bc_ BK616.out 2).trans rfl; have hcz40_3 : w38.cell? ⟨gb616, 3, none⟩ = some (.int .u8 0) := (bc_ BK616.out 3).trans rfl; have hcz40_4 : w38.cell? ⟨gb616, 4, none⟩ = some (.int .i64 0) := (bc_ BK616.out 4).trans rfl; have hcz40_5 : w38.cell? ⟨gb616, 5, none⟩ = some (.int .i64 0) := (bc_ BK616.out 5).trans rfl; have hcz40_6 : w38.cell? ⟨gb616, 6, none⟩ = some (.int .i64 0) := (bc_ BK616.out 6).trans rfl; have hcz40_7 : w38.cell? ⟨gb616, 7, none⟩ = some (.int .i64 0) := (bc_ BK616.out 7).trans rfl; have hcz40_8 : w38.cell? ⟨gb616, 8, none⟩ = some (.slice none 0 0) := (bc_ BK616.out 8).trans rfl; have hfz40_0 := bf_ BK616.out 0; have hfz40_1 := bf_ BK616.out 1; have hfz40_2 := bf_ BK616.out 2; have hfz40_3 := bf_ BK616.out 3; have hfz40_4 := bf_ BK616.out 4; have hfz40_5 := bf_ BK616.out 5; have hfz40_6 := bf_ BK616.out 6; have hfz40_7 := bf_ BK616.out 7; have hfz40_8 := bf_ BK616.out 8; obtain ⟨Ao41, co41, eo41⟩ := Kd.V_slice HO614.out; subst eo41))
  go_ret
  exact ⟨we_, wb2_ HB.out GE603.out GE616.out⟩
 rw [if_pos c7] at H
 have c7b0 : (t606.toList == t604.toList) = true := beq_iff_eq.mpr c7
 have c7b1 : (t606.toList != t604.toList) = false := bne_eq_false_iff_eq.mpr c7
 clear c7
 by_cases c8 : ((Op.bytesLess a1_0.toList t604.toList) = true)
 ·rw [if_pos c8] at H
  have c8b0 : (Op.bytesLess a1_0.toList t604.toList) = true := c8
  clear c8
  obtain rfl := Option.some.inj H
  go_enter Tryd.func52, Tryd.ntmps52
  go_wp2_with (first | ((with_reducible refine gate_dst (N := 3) rfl ?_); refine box_event ?hg (N := 3) ?hd (cs := #[.string a1_0, .string a1_1, .string a1_2, .int .u8 a1_3, .int .i64 a1_4, .int .i64 a1_5, .int .i64 a1_6, .int .i64 a1_7, .slice A1_8 l1_8.length c1_8]) (t := 40) ?hr ?_; (case hd => rfl); (case hg => rfl); (case hr => first | (go_simp; done) | (go_simp; rfl)); intro gb603 hg w9 hbox hb; have n0_ := A0_ (below_step (wb_ HB.out) hb); have n1_ := A0_ (hbox); have n2_ := A0_ ((by rw [hg]; exact (below_size (wb_ HB.out)) : w.heap.size ≤ gb603)); have n3_ := A0_ ((by rw [hg]; exact (below_size (wb_ HB.out)) : w.heap.size ≤ gb603)); clear HB; have HB := n0_; have BK603 := n1_; have GW603 := n2_; have GE603 := n3_; clear n0_ n1_ n2_ n3_; clear hb hbox hg; have hcz10_0 : w9.cell? ⟨gb603, 0, none⟩ = some (.string a1_0) := (bc_ BK603.out 0).trans rfl; have hcz10_1 : w9.cell? ⟨gb603, 1, none⟩ = some (.string a1_1) := (bc_ BK603.out 1).trans rfl; have hcz10_2 : w9.cell? ⟨gb603, 2, none⟩ = some (.string a1_2) := (bc_ BK603.out 2).trans rfl; have hcz10_3 : w9.cell? ⟨gb603, 3, none⟩ = some (.int .u8 a1_3) := (bc_ BK603.out 3).trans rfl; have hcz10_4 : w9.cell? ⟨gb603, 4, none⟩ = some (.int .i64 a1_4) := (bc_ BK603.out 4).trans rfl; have hcz10_5 : w9.cell? ⟨gb603, 5, none⟩ = some (.int .i64 a1_5) := (bc_ BK603.out 5).trans rfl; have hcz10_6 : w9.cell? ⟨gb603, 6, none⟩ = some (.int .i64 a1_6) := (bc_ BK603.out 6).trans rfl; have hcz10_7 : w9.cell? ⟨gb603, 7, none⟩ = some (.int .i64 a1_7) := (bc_ BK603.out 7).trans rfl; have hcz10_8 : w9.cell? ⟨gb603, 8, none⟩ = some (.slice A1_8 l1_8.length c1_8) := (bc_ BK603.out 8).trans rfl; have hfz10_0 := bf_ BK603.out 0; have hfz10_1 := bf_ BK603.out 1; have hfz10_2 := bf_ BK603.out 2; have hfz10_3 := bf_ BK603.out 3; have hfz10_4 := bf_ BK603.out 4; have hfz10_5 := bf_ BK603.out 5; have hfz10_6 := bf_ BK603.out 6; have hfz10_7 := bf_ BK603.out 7; have hfz10_8 := bf_ BK603.out 8) | ((with_reducible refine gate_callee (f := 36) rfl ?_); refine goesL_ (some 17) rfl rfl Tryd.func36 (by kernel_rfl) rfl #[.slice A0 l0.length c0, .string a1_2] rfl wm_ ?_; (with_reducible refine (tree_Find.calls _ _ l0 a1_2 t604 t605 t606 t607 t608 t609 t610 t611 t612 true _ ?side1 ?side2 A4.out).mono ?_); (case side1 => exact wc_ (Kd.C_below HR0.out HB.out)); (case side2 => exact HC0.out); rintro e w11 ⟨v613, rfl, ho0, hb⟩; refine ⟨_, rfl, ?_⟩; have n0_ := A0_ (Kd.V_lower (Kd.V_mono (ok' := fun k_ => k_ ≠ gb603) ho0 (fun k_ hk_ => (Kd.freshB (g := gb603) (o := .cells #[.string a1_0, .string a1_1, .string a1_2, .int .u8 a1_3, .int .i64 a1_4, .int .i64 a1_5, .int .i64 a1_6, .int .i64 a1_7, .slice A1_8 l1_8.length c1_8] 40 (0, 0)) (wB_ BK603.out) k_ hk_))) (below_size (wb1_ HB.out GE603.out))); have n1_ := A0_ (blk_below (g := gb603) (o := .cells #[.string a1_0, .string a1_1, .string a1_2, .int .u8 a1_3, .int .i64 a1_4, .int .i64 a1_5, .int .i64 a1_6, .int .i64 a1_7, .slice A1_8 l1_8.length c1_8] 40 (0, 0)) (wB_ BK603.out) hb); have n2_ := A0_ (below_step (wb1_ HB.out GE603.out) hb); clear BK603; clear HB; have HO614 := n0_; have BK603 := n1_; have HB := n2_; clear n0_ n1_ n2_; (try clear hb); (try clear hb2); (try clear hk); (try clear hi); (try clear ho0)) | ((with_reducible refine gate_dst (N := 5) rfl ?_); refine box_event ?hg (N := 5) ?hd (cs := #[.string (⟨#[]⟩ : ByteArray), .string (⟨#[]⟩ : ByteArray), .string (⟨#[]⟩ : ByteArray), .int .u8 0, .int .i64 0, .int .i64 0, .int .i64 0, .int .i64 0, .slice none 0 0]) (t := 40) ?hr ?_; (case hd => rfl); (case hg => rfl); (case hr => first | (go_simp; done) | (go_simp; rfl)); intro gb616 hg w12 hbox hb; have n0_ := A0_ (Vb_ (Kd.V_elderB (wV_ HO614.out) gb616 (Nat.le_of_eq hg.symm)) hb); have n1_ := A0_ (blk_below (g := gb603) (o := .cells #[.string a1_0, .string a1_1, .string a1_2, .int .u8 a1_3, .int .i64 a1_4, .int .i64 a1_5, .int .i64 a1_6, .int .i64 a1_7, .slice A1_8 l1_8.length c1_8] 40 (0, 0)) (wB_ BK603.out) hb); have n2_ := A0_ (below_step (wb1_ HB.out GE603.out) hb); have n3_ := A0_ (hbox); have n4_ := A0_ ((by rw [hg]; exact (below_size (wb1_ HB.out GE603.out)) : w.heap.size ≤ gb616)); have n5_ := A0_ ((by rw [hg]; exact (below_size (wb1_ HB.out GE603.out)) : w.heap.size ≤ gb616)); have n6_ := A0_ ((by rw [hg]; exact Nat.ne_of_lt (blk_lt (g := gb603) (o := .cells #[.string a1_0, .string a1_1, .string a1_2, .int .u8 a1_3, .int .i64 a1_4, .int .i64 a1_5, .int .i64 a1_6, .int .i64 a1_7, .slice A1_8 l1_8.length c1_8] 40 (0, 0)) (wB_ BK603.out)) : gb603 ≠ gb616)); have n7_ := A0_ ((by rw [hg]; exact Nat.ne_of_gt (blk_lt (g := gb603) (o := .cells #[.string a1_0, .string a1_1, .string a1_2, .int .u8 a1_3, .int .i64 a1_4, .int .i64 a1_5, .int .i64 a1_6, .int .i64 a1_7, .slice A1_8 l1_8.length c1_8] 40 (0, 0)) (wB_ BK603.out)) : gb616 ≠ gb603)); clear HO614; clear BK603; clear HB; have HO614 := n0_; have BK603 := n1_; have HB := n2_; have BK616 := n3_; have GW616 := n4_; have GE616 := n5_; have NB603_616 := n6_; have NB616_603 := n7_; clear n0_ n1_ n2_ n3_ n4_ n5_ n6_ n7_; clear hb hbox hg; have hnb13 := NB616_603.out; have hnc13 := NB603_616.out; have hcz14_0 : w12.cell? ⟨gb616, 0, none⟩ = some (.string (⟨#[]⟩ : ByteArray)) := (bc_ BK616.out 0).trans rfl; have hcz14_1 : w12.cell? ⟨gb616, 1, none⟩ = some (.string (⟨#[]⟩ : ByteArray)) := (bc_ BK616.out 1).trans rfl; have hcz14_2 : w12.cell? ⟨gb616, 2, none⟩ = some (.string (⟨#[]⟩ : ByteArray)) := (bc_ BK616.out 2).trans rfl; have hcz14_3 : w12.cell? ⟨gb616, 3, none⟩ = some (.int .u8 0) := (bc_ BK616.out 3).trans rfl; have hcz14_4 : w12.cell? ⟨gb616, 4, none⟩ = some (.int .i64 0) := (bc_ BK616.out 4).trans rfl; have hcz14_5 : w12.cell? ⟨gb616, 5, none⟩ = some (.int .i64 0) := (bc_ BK616.out 5).trans rfl; have hcz14_6 : w12.cell? ⟨gb616, 6, none⟩ = some (.int .i64 0) := (bc_ BK616.out 6).trans rfl; have hcz14_7 : w12.cell? ⟨gb616, 7, none⟩ = some (.int .i64 0) := (bc_ BK616.out 7).trans rfl; have hcz14_8 : w12.cell? ⟨gb616, 8, none⟩ = some (.slice none 0 0) := (bc_ BK616.out 8).trans rfl; have hfz14_0 := bf_ BK616.out 0; have hfz14_1 := bf_ BK616.out 1; have hfz14_2 := bf_ BK616.out 2; have hfz14_3 := bf_ BK616.out 3; have hfz14_4 := bf_ BK616.out 4; have hfz14_5 := bf_ BK616.out 5; have hfz14_6 := bf_ BK616.out 6; have hfz14_7 := bf_ BK616.out 7; have hfz14_8 := bf_ BK616.out 8; obtain ⟨Ao15, co15, eo15⟩ := Kd.V_slice HO614.out; subst eo15; have hcz16_0 : w12.cell? ⟨gb603, 0, none⟩ = some (.string a1_0) := (bc_ BK603.out 0).trans rfl; have hcz16_1 : w12.cell? ⟨gb603, 1, none⟩ = some (.string a1_1) := (bc_ BK603.out 1).trans rfl; have hcz16_2 : w12.cell? ⟨gb603, 2, none⟩ = some (.string a1_2) := (bc_ BK603.out 2).trans rfl; have hcz16_3 : w12.cell? ⟨gb603, 3, none⟩ = some (.int .u8 a1_3) := (bc_ BK603.out 3).trans rfl; have hcz16_4 : w12.cell? ⟨gb603, 4, none⟩ = some (.int .i64 a1_4) := (bc_ BK603.out 4).trans rfl; have hcz16_5 : w12.cell? ⟨gb603, 5, none⟩ = some (.int .i64 a1_5) := (bc_ BK603.out 5).trans rfl; have hcz16_6 : w12.cell? ⟨gb603, 6, none⟩ = some (.int .i64 a1_6) := (bc_ BK603.out 6).trans rfl; have hcz16_7 : w12.cell? ⟨gb603, 7, none⟩ = some (.int .i64 a1_7) := (bc_ BK603.out 7).trans rfl; have hcz16_8 : w12.cell? ⟨gb603, 8, none⟩ = some (.slice A1_8 l1_8.length c1_8) := (bc_ BK603.out 8).trans rfl; have hfz16_0 := bf_ BK603.out 0; have hfz16_1 := bf_ BK603.out 1; have hfz16_2 := bf_ BK603.out 2; have hfz16_3 := bf_ BK603.out 3; have hfz16_4 := bf_ BK603.out 4; have hfz16_5 := bf_ BK603.out 5; have hfz16_6 := bf_ BK603.out 6; have hfz16_7 := bf_ BK603.out 7; have hfz16_8 := bf_ BK603.out 8))
  go_ret
  exact ⟨we_, wb2_ HB.out GE603.out GE616.out⟩
 rw [if_neg c8] at H
 have c8b0 : (Op.bytesLess a1_0.toList t604.toList) = false := by simpa using c8
 clear c8
 by_cases c17 : (t608 == a1_4 && (t609 == a1_5 && (t610 == a1_6 && (t611 == a1_7)))) = true
 rotate_left
 ·rw [if_neg c17] at H
  have c17b0 : (t608 == a1_4 && (t609 == a1_5 && (t610 == a1_6 && (t611 == a1_7)))) = false := by simpa using c17
  (try (have c17b1 : decide (t608 = a1_4 && (t609 == a1_5 && (t610 == a1_6 && (t611 == a1_7)))) = false := by simpa using c17))
  (try (have c17b2 : (t608 == a1_4 && (t609 == a1_5 && (t610 == a1_6 && (t611 == a1_7)))) = false := by simpa using c17))
  (try (have c17b3 : ¬ (t608 = a1_4 && (t609 == a1_5 && (t610 == a1_6 && (t611 == a1_7)))) := by simpa using c17))
  clear c17
  obtain rfl := Option.some.inj H
  go_enter Tryd.func52, Tryd.ntmps52
  go_wp2_with (first | ((with_reducible refine gate_dst (N := 3) rfl ?_); refine box_event ?hg (N := 3) ?hd (cs := #[.string a1_0, .string a1_1, .string a1_2, .int .u8 a1_3, .int .i64 a1_4, .int .i64 a1_5, .int .i64 a1_6, .int .i64 a1_7, .slice A1_8 l1_8.length c1_8]) (t := 40) ?hr ?_; (case hd => rfl); (case hg => rfl); (case hr => first | (go_simp; done) | (go_simp; rfl)); intro gb603 hg w27 hbox hb; have n0_ := A0_ (below_step (wb_ HB.out) hb); have n1_ := A0_ (hbox); have n2_ := A0_ ((by rw [hg]; exact (below_size (wb_ HB.out)) : w.heap.size ≤ gb603)); have n3_ := A0_ ((by rw [hg]; exact (below_size (wb_ HB.out)) : w.heap.size ≤ gb603)); clear HB; have HB := n0_; have BK603 := n1_; have GW603 := n2_; have GE603 := n3_; clear n0_ n1_ n2_ n3_; clear hb hbox hg; have hcz28_0 : w27.cell? ⟨gb603, 0, none⟩ = some (.string a1_0) := (bc_ BK603.out 0).trans rfl; have hcz28_1 : w27.cell? ⟨gb603, 1, none⟩ = some (.string a1_1) := (bc_ BK603.out 1).trans rfl; have hcz28_2 : w27.cell? ⟨gb603, 2, none⟩ = some (.string a1_2) := (bc_ BK603.out 2).trans rfl; have hcz28_3 : w27.cell? ⟨gb603, 3, none⟩ = some (.int .u8 a1_3) := (bc_ BK603.out 3).trans rfl; have hcz28_4 : w27.cell? ⟨gb603, 4, none⟩ = some (.int .i64 a1_4) := (bc_ BK603.out 4).trans rfl; have hcz28_5 : w27.cell? ⟨gb603, 5, none⟩ = some (.int .i64 a1_5) := (bc_ BK603.out 5).trans rfl; have hcz28_6 : w27.cell? ⟨gb603, 6, none⟩ = some (.int .i64 a1_6) := (bc_ BK603.out 6).trans rfl; have hcz28_7 : w27.cell? ⟨gb603, 7, none⟩ = some (.int .i64 a1_7) := (bc_ BK603.out 7).trans rfl; have hcz28_8 : w27.cell? ⟨gb603, 8, none⟩ = some (.slice A1_8 l1_8.length c1_8) := (bc_ BK603.out 8).trans rfl; have hfz28_0 := bf_ BK603.out 0; have hfz28_1 := bf_ BK603.out 1; have hfz28_2 := bf_ BK603.out 2; have hfz28_3 := bf_ BK603.out 3; have hfz28_4 := bf_ BK603.out 4; have hfz28_5 := bf_ BK603.out 5; have hfz28_6 := bf_ BK603.out 6; have hfz28_7 := bf_ BK603.out 7; have hfz28_8 := bf_ BK603.out 8) | ((with_reducible refine gate_callee (f := 36) rfl ?_); refine goesL_ (some 17) rfl rfl Tryd.func36 (by kernel_rfl) rfl #[.slice A0 l0.length c0, .string a1_2] rfl wm_ ?_; (with_reducible refine (tree_Find.calls _ _ l0 a1_2 t604 t605 t606 t607 t608 t609 t610 t611 t612 true _ ?side1 ?side2 A4.out).mono ?_); (case side1 => exact wc_ (Kd.C_below HR0.out HB.out)); (case side2 => exact HC0.out); rintro e w29 ⟨v613, rfl, ho0, hb⟩; refine ⟨_, rfl, ?_⟩; have n0_ := A0_ (Kd.V_lower (Kd.V_mono (ok' := fun k_ => k_ ≠ gb603) ho0 (fun k_ hk_ => (Kd.freshB (g := gb603) (o := .cells #[.string a1_0, .string a1_1, .string a1_2, .int .u8 a1_3, .int .i64 a1_4, .int .i64 a1_5, .int .i64 a1_6, .int .i64 a1_7, .slice A1_8 l1_8.length c1_8] 40 (0, 0)) (wB_ BK603.out) k_ hk_))) (below_size (wb1_ HB.out GE603.out))); have n1_ := A0_ (blk_below (g := gb603) (o := .cells #[.string a1_0, .string a1_1, .string a1_2, .int .u8 a1_3, .int .i64 a1_4, .int .i64 a1_5, .int .i64 a1_6, .int .i64 a1_7, .slice A1_8 l1_8.length c1_8] 40 (0, 0)) (wB_ BK603.out) hb); have n2_ := A0_ (below_step (wb1_ HB.out GE603.out) hb); clear BK603; clear HB; have HO614 := n0_; have BK603 := n1_; have HB := n2_; clear n0_ n1_ n2_; (try clear hb); (try clear hb2); (try clear hk); (try clear hi); (try clear ho0)) | ((with_reducible refine gate_dst (N := 5) rfl ?_); refine box_event ?hg (N := 5) ?hd (cs := #[.string (⟨#[]⟩ : ByteArray), .string (⟨#[]⟩ : ByteArray), .string (⟨#[]⟩ : ByteArray), .int .u8 0, .int .i64 0, .int .i64 0, .int .i64 0, .int .i64 0, .slice none 0 0]) (t := 40) ?hr ?_; (case hd => rfl); (case hg => rfl); (case hr => first | (go_simp; done) | (go_simp; rfl)); intro gb616 hg w30 hbox hb; have n0_ := A0_ (Vb_ (Kd.V_elderB (wV_ HO614.out) gb616 (Nat.le_of_eq hg.symm)) hb); have n1_ := A0_ (blk_below (g := gb603) (o := .cells #[.string a1_0, .string a1_1, .string a1_2, .int .u8 a1_3, .int .i64 a1_4, .int .i64 a1_5, .int .i64 a1_6, .int .i64 a1_7, .slice A1_8 l1_8.length c1_8] 40 (0, 0)) (wB_ BK603.out) hb); have n2_ := A0_ (below_step (wb1_ HB.out GE603.out) hb); have n3_ := A0_ (hbox); have n4_ := A0_ ((by rw [hg]; exact (below_size (wb1_ HB.out GE603.out)) : w.heap.size ≤ gb616)); have n5_ := A0_ ((by rw [hg]; exact (below_size (wb1_ HB.out GE603.out)) : w.heap.size ≤ gb616)); have n6_ := A0_ ((by rw [hg]; exact Nat.ne_of_lt (blk_lt (g := gb603) (o := .cells #[.string a1_0, .string a1_1, .string a1_2, .int .u8 a1_3, .int .i64 a1_4, .int .i64 a1_5, .int .i64 a1_6, .int .i64 a1_7, .slice A1_8 l1_8.length c1_8] 40 (0, 0)) (wB_ BK603.out)) : gb603 ≠ gb616)); have n7_ := A0_ ((by rw [hg]; exact Nat.ne_of_gt (blk_lt (g := gb603) (o := .cells #[.string a1_0, .string a1_1, .string a1_2, .int .u8 a1_3, .int .i64 a1_4, .int .i64 a1_5, .int .i64 a1_6, .int .i64 a1_7, .slice A1_8 l1_8.length c1_8] 40 (0, 0)) (wB_ BK603.out)) : gb616 ≠ gb603)); clear HO614; clear BK603; clear HB; have HO614 := n0_; have BK603 := n1_; have HB := n2_; have BK616 := n3_; have GW616 := n4_; have GE616 := n5_; have NB603_616 := n6_; have NB616_603 := n7_; clear n0_ n1_ n2_ n3_ n4_ n5_ n6_ n7_; clear hb hbox hg; have hnb31 := NB616_603.out; have hnc31 := NB603_616.out; have hcz32_0 : w30.cell? ⟨gb616, 0, none⟩ = some (.string (⟨#[]⟩ : ByteArray)) := (bc_ BK616.out 0).trans rfl; have hcz32_1 : w30.cell? ⟨gb616, 1, none⟩ = some (.string (⟨#[]⟩ : ByteArray)) := (bc_ BK616.out 1).trans rfl; have hcz32_2 : w30.cell? ⟨gb616, 2, none⟩ = some (.string (⟨#[]⟩ : ByteArray)) := (bc_ BK616.out 2).trans rfl; have hcz32_3 : w30.cell? ⟨gb616, 3, none⟩ = some (.int .u8 0) := (bc_ BK616.out 3).trans rfl; have hcz32_4 : w30.cell? ⟨gb616, 4, none⟩ = some (.int .i64 0) := (bc_ BK616.out 4).trans rfl; have hcz32_5 : w30.cell? ⟨gb616, 5, none⟩ = some (.int .i64 0) := (bc_ BK616.out 5).trans rfl; have hcz32_6 : w30.cell? ⟨gb616, 6, none⟩ = some (.int .i64 0) := (bc_ BK616.out 6).trans rfl; have hcz32_7 : w30.cell? ⟨gb616, 7, none⟩ = some (.int .i64 0) := (bc_ BK616.out 7).trans rfl; have hcz32_8 : w30.cell? ⟨gb616, 8, none⟩ = some (.slice none 0 0) := (bc_ BK616.out 8).trans rfl; have hfz32_0 := bf_ BK616.out 0; have hfz32_1 := bf_ BK616.out 1; have hfz32_2 := bf_ BK616.out 2; have hfz32_3 := bf_ BK616.out 3; have hfz32_4 := bf_ BK616.out 4; have hfz32_5 := bf_ BK616.out 5; have hfz32_6 := bf_ BK616.out 6; have hfz32_7 := bf_ BK616.out 7; have hfz32_8 := bf_ BK616.out 8; obtain ⟨Ao33, co33, eo33⟩ := Kd.V_slice HO614.out; subst eo33; have hcz34_0 : w30.cell? ⟨gb603, 0, none⟩ = some (.string a1_0) := (bc_ BK603.out 0).trans rfl; have hcz34_1 : w30.cell? ⟨gb603, 1, none⟩ = some (.string a1_1) := (bc_ BK603.out 1).trans rfl; have hcz34_2 : w30.cell? ⟨gb603, 2, none⟩ = some (.string a1_2) := (bc_ BK603.out 2).trans rfl; have hcz34_3 : w30.cell? ⟨gb603, 3, none⟩ = some (.int .u8 a1_3) := (bc_ BK603.out 3).trans rfl; have hcz34_4 : w30.cell? ⟨gb603, 4, none⟩ = some (.int .i64 a1_4) := (bc_ BK603.out 4).trans rfl; have hcz34_5 : w30.cell? ⟨gb603, 5, none⟩ = some (.int .i64 a1_5) := (bc_ BK603.out 5).trans rfl; have hcz34_6 : w30.cell? ⟨gb603, 6, none⟩ = some (.int .i64 a1_6) := (bc_ BK603.out 6).trans rfl; have hcz34_7 : w30.cell? ⟨gb603, 7, none⟩ = some (.int .i64 a1_7) := (bc_ BK603.out 7).trans rfl; have hcz34_8 : w30.cell? ⟨gb603, 8, none⟩ = some (.slice A1_8 l1_8.length c1_8) := (bc_ BK603.out 8).trans rfl; have hfz34_0 := bf_ BK603.out 0; have hfz34_1 := bf_ BK603.out 1; have hfz34_2 := bf_ BK603.out 2; have hfz34_3 := bf_ BK603.out 3; have hfz34_4 := bf_ BK603.out 4; have hfz34_5 := bf_ BK603.out 5; have hfz34_6 := bf_ BK603.out 6; have hfz34_7 := bf_ BK603.out 7; have hfz34_8 := bf_ BK603.out 8))
  go_ret
  exact ⟨we_, wb2_ HB.out GE603.out GE616.out⟩
 rw [if_pos c17] at H
 have c17b0 : (t608 == a1_4 && (t609 == a1_5 && (t610 == a1_6 && (t611 == a1_7)))) = true := c17
 (try (have c17b1 : decide (t608 = a1_4 && (t609 == a1_5 && (t610 == a1_6 && (t611 == a1_7)))) = true := by simpa using c17))
 (try (have c17b2 : (t608 == a1_4 && (t609 == a1_5 && (t610 == a1_6 && (t611 == a1_7)))) = true := by simpa using c17))
 clear c17
 replace H := Option.bind_eq_some_iff.mp H
 obtain ⟨t617, A180, H⟩ := H
 replace H : (some t617) = some r := H
 have A18 := A0_ A180
 clear A180
 obtain rfl := Option.some.inj H
 go_enter Tryd.func52, Tryd.ntmps52
 go_wp2_with (first | ((with_reducible refine gate_dst (N := 3) rfl ?_); refine box_event ?hg (N := 3) ?hd (cs := #[.string a1_0, .string a1_1, .string a1_2, .int .u8 a1_3, .int .i64 a1_4, .int .i64 a1_5, .int .i64 a1_6, .int .i64 a1_7, .slice A1_8 l1_8.length c1_8]) (t := 40) ?hr ?_; (case hd => rfl); (case hg => rfl); (case hr => first | (go_simp; done) | (go_simp; rfl)); intro gb603 hg w19 hbox hb; have n0_ := A0_ (below_step (wb_ HB.out) hb); have n1_ := A0_ (hbox); have n2_ := A0_ ((by rw [hg]; exact (below_size (wb_ HB.out)) : w.heap.size ≤ gb603)); have n3_ := A0_ ((by rw [hg]; exact (below_size (wb_ HB.out)) : w.heap.size ≤ gb603)); clear HB; have HB := n0_; have BK603 := n1_; have GW603 := n2_; have GE603 := n3_; clear n0_ n1_ n2_ n3_; clear hb hbox hg; have hcz20_0 : w19.cell? ⟨gb603, 0, none⟩ = some (.string a1_0) := (bc_ BK603.out 0).trans rfl; have hcz20_1 : w19.cell? ⟨gb603, 1, none⟩ = some (.string a1_1) := (bc_ BK603.out 1).trans rfl; have hcz20_2 : w19.cell? ⟨gb603, 2, none⟩ = some (.string a1_2) := (bc_ BK603.out 2).trans rfl; have hcz20_3 : w19.cell? ⟨gb603, 3, none⟩ = some (.int .u8 a1_3) := (bc_ BK603.out 3).trans rfl; have hcz20_4 : w19.cell? ⟨gb603, 4, none⟩ = some (.int .i64 a1_4) := (bc_ BK603.out 4).trans rfl; have hcz20_5 : w19.cell? ⟨gb603, 5, none⟩ = some (.int .i64 a1_5) := (bc_ BK603.out 5).trans rfl; have hcz20_6 : w19.cell? ⟨gb603, 6, none⟩ = some (.int .i64 a1_6) := (bc_ BK603.out 6).trans rfl; have hcz20_7 : w19.cell? ⟨gb603, 7, none⟩ = some (.int .i64 a1_7) := (bc_ BK603.out 7).trans rfl; have hcz20_8 : w19.cell? ⟨gb603, 8, none⟩ = some (.slice A1_8 l1_8.length c1_8) := (bc_ BK603.out 8).trans rfl; have hfz20_0 := bf_ BK603.out 0; have hfz20_1 := bf_ BK603.out 1; have hfz20_2 := bf_ BK603.out 2; have hfz20_3 := bf_ BK603.out 3; have hfz20_4 := bf_ BK603.out 4; have hfz20_5 := bf_ BK603.out 5; have hfz20_6 := bf_ BK603.out 6; have hfz20_7 := bf_ BK603.out 7; have hfz20_8 := bf_ BK603.out 8) | ((with_reducible refine gate_callee (f := 36) rfl ?_); refine goesL_ (some 17) rfl rfl Tryd.func36 (by kernel_rfl) rfl #[.slice A0 l0.length c0, .string a1_2] rfl wm_ ?_; (with_reducible refine (tree_Find.calls _ _ l0 a1_2 t604 t605 t606 t607 t608 t609 t610 t611 t612 true _ ?side1 ?side2 A4.out).mono ?_); (case side1 => exact wc_ (Kd.C_below HR0.out HB.out)); (case side2 => exact HC0.out); rintro e w21 ⟨v613, rfl, ho0, hb⟩; refine ⟨_, rfl, ?_⟩; have n0_ := A0_ (Kd.V_lower (Kd.V_mono (ok' := fun k_ => k_ ≠ gb603) ho0 (fun k_ hk_ => (Kd.freshB (g := gb603) (o := .cells #[.string a1_0, .string a1_1, .string a1_2, .int .u8 a1_3, .int .i64 a1_4, .int .i64 a1_5, .int .i64 a1_6, .int .i64 a1_7, .slice A1_8 l1_8.length c1_8] 40 (0, 0)) (wB_ BK603.out) k_ hk_))) (below_size (wb1_ HB.out GE603.out))); have n1_ := A0_ (blk_below (g := gb603) (o := .cells #[.string a1_0, .string a1_1, .string a1_2, .int .u8 a1_3, .int .i64 a1_4, .int .i64 a1_5, .int .i64 a1_6, .int .i64 a1_7, .slice A1_8 l1_8.length c1_8] 40 (0, 0)) (wB_ BK603.out) hb); have n2_ := A0_ (below_step (wb1_ HB.out GE603.out) hb); clear BK603; clear HB; have HO614 := n0_; have BK603 := n1_; have HB := n2_; clear n0_ n1_ n2_; (try clear hb); (try clear hb2); (try clear hk); (try clear hi); (try clear ho0)) | ((with_reducible refine gate_dst (N := 5) rfl ?_); refine box_event ?hg (N := 5) ?hd (cs := #[.string (⟨#[]⟩ : ByteArray), .string (⟨#[]⟩ : ByteArray), .string (⟨#[]⟩ : ByteArray), .int .u8 0, .int .i64 0, .int .i64 0, .int .i64 0, .int .i64 0, .slice none 0 0]) (t := 40) ?hr ?_; (case hd => rfl); (case hg => rfl); (case hr => first | (go_simp; done) | (go_simp; rfl)); intro gb616 hg w22 hbox hb; have n0_ := A0_ (Vb_ (Kd.V_elderB (wV_ HO614.out) gb616 (Nat.le_of_eq hg.symm)) hb); have n1_ := A0_ (blk_below (g := gb603) (o := .cells #[.string a1_0, .string a1_1, .string a1_2, .int .u8 a1_3, .int .i64 a1_4, .int .i64 a1_5, .int .i64 a1_6, .int .i64 a1_7, .slice A1_8 l1_8.length c1_8] 40 (0, 0)) (wB_ BK603.out) hb); have n2_ := A0_ (below_step (wb1_ HB.out GE603.out) hb); have n3_ := A0_ (hbox); have n4_ := A0_ ((by rw [hg]; exact (below_size (wb1_ HB.out GE603.out)) : w.heap.size ≤ gb616)); have n5_ := A0_ ((by rw [hg]; exact (below_size (wb1_ HB.out GE603.out)) : w.heap.size ≤ gb616)); have n6_ := A0_ ((by rw [hg]; exact Nat.ne_of_lt (blk_lt (g := gb603) (o := .cells #[.string a1_0, .string a1_1, .string a1_2, .int .u8 a1_3, .int .i64 a1_4, .int .i64 a1_5, .int .i64 a1_6, .int .i64 a1_7, .slice A1_8 l1_8.length c1_8] 40 (0, 0)) (wB_ BK603.out)) : gb603 ≠ gb616)); have n7_ := A0_ ((by rw [hg]; exact Nat.ne_of_gt (blk_lt (g := gb603) (o := .cells #[.string a1_0, .string a1_1, .string a1_2, .int .u8 a1_3, .int .i64 a1_4, .int .i64 a1_5, .int .i64 a1_6, .int .i64 a1_7, .slice A1_8 l1_8.length c1_8] 40 (0, 0)) (wB_ BK603.out)) : gb616 ≠ gb603)); clear HO614; clear BK603; clear HB; have HO614 := n0_; have BK603 := n1_; have HB := n2_; have BK616 := n3_; have GW616 := n4_; have GE616 := n5_; have NB603_616 := n6_; have NB616_603 := n7_; clear n0_ n1_ n2_ n3_ n4_ n5_ n6_ n7_; clear hb hbox hg; have hnb23 := NB616_603.out; have hnc23 := NB603_616.out; have hcz24_0 : w22.cell? ⟨gb616, 0, none⟩ = some (.string (⟨#[]⟩ : ByteArray)) := (bc_ BK616.out 0).trans rfl; have hcz24_1 : w22.cell? ⟨gb616, 1, none⟩ = some (.string (⟨#[]⟩ : ByteArray)) := (bc_ BK616.out 1).trans rfl; have hcz24_2 : w22.cell? ⟨gb616, 2, none⟩ = some (.string (⟨#[]⟩ : ByteArray)) := (bc_ BK616.out 2).trans rfl; have hcz24_3 : w22.cell? ⟨gb616, 3, none⟩ = some (.int .u8 0) := (bc_ BK616.out 3).trans rfl; have hcz24_4 : w22.cell? ⟨gb616, 4, none⟩ = some (.int .i64 0) := (bc_ BK616.out 4).trans rfl; have hcz24_5 : w22.cell? ⟨gb616, 5, none⟩ = some (.int .i64 0) := (bc_ BK616.out 5).trans rfl; have hcz24_6 : w22.cell? ⟨gb616, 6, none⟩ = some (.int .i64 0) := (bc_ BK616.out 6).trans rfl; have hcz24_7 : w22.cell? ⟨gb616, 7, none⟩ = some (.int .i64 0) := (bc_ BK616.out 7).trans rfl; have hcz24_8 : w22.cell? ⟨gb616, 8, none⟩ = some (.slice none 0 0) := (bc_ BK616.out 8).trans rfl; have hfz24_0 := bf_ BK616.out 0; have hfz24_1 := bf_ BK616.out 1; have hfz24_2 := bf_ BK616.out 2; have hfz24_3 := bf_ BK616.out 3; have hfz24_4 := bf_ BK616.out 4; have hfz24_5 := bf_ BK616.out 5; have hfz24_6 := bf_ BK616.out 6; have hfz24_7 := bf_ BK616.out 7; have hfz24_8 := bf_ BK616.out 8; obtain ⟨Ao25, co25, eo25⟩ := Kd.V_slice HO614.out; subst eo25; have hcz26_0 : w22.cell? ⟨gb603, 0, none⟩ = some (.string a1_0) := (bc_ BK603.out 0).trans rfl; have hcz26_1 : w22.cell? ⟨gb603, 1, none⟩ = some (.string a1_1) := (bc_ BK603.out 1).trans rfl; have hcz26_2 : w22.cell? ⟨gb603, 2, none⟩ = some (.string a1_2) := (bc_ BK603.out 2).trans rfl; have hcz26_3 : w22.cell? ⟨gb603, 3, none⟩ = some (.int .u8 a1_3) := (bc_ BK603.out 3).trans rfl; have hcz26_4 : w22.cell? ⟨gb603, 4, none⟩ = some (.int .i64 a1_4) := (bc_ BK603.out 4).trans rfl; have hcz26_5 : w22.cell? ⟨gb603, 5, none⟩ = some (.int .i64 a1_5) := (bc_ BK603.out 5).trans rfl; have hcz26_6 : w22.cell? ⟨gb603, 6, none⟩ = some (.int .i64 a1_6) := (bc_ BK603.out 6).trans rfl; have hcz26_7 : w22.cell? ⟨gb603, 7, none⟩ = some (.int .i64 a1_7) := (bc_ BK603.out 7).trans rfl; have hcz26_8 : w22.cell? ⟨gb603, 8, none⟩ = some (.slice A1_8 l1_8.length c1_8) := (bc_ BK603.out 8).trans rfl; have hfz26_0 := bf_ BK603.out 0; have hfz26_1 := bf_ BK603.out 1; have hfz26_2 := bf_ BK603.out 2; have hfz26_3 := bf_ BK603.out 3; have hfz26_4 := bf_ BK603.out 4; have hfz26_5 := bf_ BK603.out 5; have hfz26_6 := bf_ BK603.out 6; have hfz26_7 := bf_ BK603.out 7; have hfz26_8 := bf_ BK603.out 8) | (go_at_call 60; (with_reducible refine (bytes_Equal.calls _ _ t612 _ _ l1_8 t617 _ ?side1 ?side2 ?side3 ?side4 A18.out).mono ?_); (case side1 => refine (Kd.V_reads' (e := 5) (base := w.heap.size) (ok := fun k_ => (k_ ≠ gb603 ∧ k_ ≠ gb616)) (n := t612.length) (c := co25) ?_).2.2; exact (by (with_reducible repeat (first | apply Va_ | apply VN_ | apply V1_)); exact (Kd.V_mono (Kd.V_far (p := ⟨gb616, 8, none⟩) (Kd.V_far (p := ⟨gb616, 7, none⟩) (Kd.V_far (p := ⟨gb616, 6, none⟩) (Kd.V_far (p := ⟨gb616, 5, none⟩) (Kd.V_far (p := ⟨gb616, 4, none⟩) (Kd.V_far (p := ⟨gb616, 3, none⟩) (Kd.V_far (p := ⟨gb616, 2, none⟩) (Kd.V_far (p := ⟨gb616, 1, none⟩) (Kd.V_far (p := ⟨gb616, 0, none⟩) (Kd.V_mono HO614.out (fun k_ hk => (⟨hk, hk.2⟩ : _ ∧ k_ ≠ gb616))) (fun _ hk => hk.2) (.string t604)) (fun _ hk => hk.2) (.string t605)) (fun _ hk => hk.2) (.string t606)) (fun _ hk => hk.2) (.int .u8 t607)) (fun _ hk => hk.2) (.int .i64 t608)) (fun _ hk => hk.2) (.int .i64 t609)) (fun _ hk => hk.2) (.int .i64 t610)) (fun _ hk => hk.2) (.int .i64 t611)) (fun _ hk => hk.2) (.slice Ao25 t612.length co25)) (fun _ h_ => h_.1)))); (case side2 => exact (Kd.V_reads' HO614.out).2.1); (case side3 => exact Kd.C_below HR1_8.out (wb2_ HB.out GE603.out GE616.out)); (case side4 => exact HC1_8.out); rintro e w' ⟨rfl, ⟨nd, rfl⟩⟩))
 go_ret
 exact ⟨we_, wb2_ HB.out GE603.out GE616.out⟩
end Go.Proofs.YtfljbidecljlcaaDoor.Print

namespace Go.Proofs.YtfljbidecljlcaaDoor
open Go.RowKit Go.Proofs.YtfljbidecljlcaaDoor.Print Go.Proofs.YtfljbidecljlcaaDoorW.PrintWords
theorem led_f {l : List Node} (hr : riseB l = true) (hz : nodesZ l = true) (x : Node) : tree_led.f l x.f0 x.f1 x.f2 x.f3 x.f4.f0 x.f4.f1 x.f4.f2 x.f4.f3 x.f5 = some (ledB l x) := by
 unfold tree_led.f ledB
 by_cases h48 : x.f3 = 48
 ·rw [if_pos h48, if_pos h48]
  have hF : tree_Find.f l x.f2 = some (tupN (findF l x.f2)) := by unfold tree_Find.f; rw [if_pos ⟨hr, hz⟩]
  rw [hF, Option.bind_some]
  cases hf : findF l x.f2 with
  | none => rfl
  | some y =>
   refine (if_pos (c := (tupN (some y)).2.2.2.2.2.2.2.2.2 = true) rfl).trans ?_
   show (if y.f3 = 48 then (if y.f2.toList = y.f0.toList then (if Op.bytesLess x.f0.toList y.f0.toList = true then some false else (if (y.f4.f0 == x.f4.f0 && (y.f4.f1 == x.f4.f1 && (y.f4.f2 == x.f4.f2 && (y.f4.f3 == x.f4.f3)))) = true then (bytes_Equal.f y.f5 x.f5).bind fun t => some t else some false)) else some false) else some false) = some (decide (y.f3 = 48 ∧ y.f2.toList = y.f0.toList ∧ lt x.f0 y.f0 = false ∧ y.f4.f0 = x.f4.f0 ∧ y.f4.f1 = x.f4.f1 ∧ y.f4.f2 = x.f4.f2 ∧ y.f4.f3 = x.f4.f3 ∧ (strOfNums y.f5).toList = (strOfNums x.f5).toList))
   by_cases a : y.f3 = 48
   ·rw [if_pos a]
    by_cases b : y.f2.toList = y.f0.toList
    ·rw [if_pos b]
     by_cases c : Op.bytesLess x.f0.toList y.f0.toList = true
     ·rw [if_pos c, decide_eq_false]
      intro h
      have h2 := h.2.2.1
      unfold lt at h2
      rw [c] at h2
      cases h2
     ·rw [if_neg c]
      have c' : lt x.f0 y.f0 = false := by unfold lt; cases hb : Op.bytesLess x.f0.toList y.f0.toList with | true => exact absurd hb c | false => rfl
      by_cases d : (y.f4.f0 == x.f4.f0 && (y.f4.f1 == x.f4.f1 && (y.f4.f2 == x.f4.f2 && (y.f4.f3 == x.f4.f3)))) = true
      ·rw [if_pos d]
       simp only [Bool.and_eq_true, beq_iff_eq] at d
       unfold bytes_Equal.f
       rw [Option.bind_some]
       congr 1
       rw [Bool.eq_iff_iff, beq_iff_eq, decide_eq_true_iff]
       exact ⟨fun h => ⟨a, b, c', d.1, d.2.1, d.2.2.1, d.2.2.2, h⟩, fun h => h.2.2.2.2.2.2.2⟩
      ·rw [if_neg d, decide_eq_false]
       intro h
       apply d
       simp only [Bool.and_eq_true, beq_iff_eq]
       exact ⟨h.2.2.2.1, h.2.2.2.2.1, h.2.2.2.2.2.1, h.2.2.2.2.2.2.1⟩
    ·rw [if_neg b, decide_eq_false]
     exact fun h => b h.2.1
   ·rw [if_neg a, decide_eq_false]
    exact fun h => a h.1
 ·rw [if_neg h48, if_neg h48]
  congr 1
  rw [Bool.eq_iff_iff, beq_iff_eq, decide_eq_true_iff]
end Go.Proofs.YtfljbidecljlcaaDoor

namespace Go.Proofs.YtfljbidecljlcaaDoor
open Go.RowKit Go.Maps Go.Proofs.YtfljbidecljlcaaDoor.Print Go.Proofs.YtfljbidecljlcaaDoorW.PrintWords Go.Proofs.YtfljbidecljlcaaDoorW.PrintLast Go.Proofs.YtfljbidecljlcaaDoorW.PrintMore
set_option linter.unusedVariables false
set_option linter.unusedSimpArgs false
theorem acell {w : World} {p : Addr} {v : Value} (h : w.cell? p = some v) (o : Obj) : (w.alloc o).cell? p = some v := ((below_alloc (Below.refl _ _) o).cell (World.block_lt_of_cell? w _ h)).trans h
theorem bkeep {w w1 : World} {p : Addr} {v : Value} (hb : Below w.heap.size w w1) (h : w.cell? p = some v) : w1.cell? p = some v := (hb.cell (World.block_lt_of_cell? w _ h)).trans h
theorem Good1_calls (l : List Node) (hr : riseB l = true) (hz : nodesZ l = true) (A0 : Option Addr) (c0 : Nat) (hc0 : l.length ≤ c0) (B : Nat) (x : Node) (A : Option Addr) (c : Nat) (W : World) (hbox : W.cell? ⟨B, 0, none⟩ = some (.slice A0 l.length c0)) (hC : Kd.C k40 W A0 l.length l) (hx : Kd.C (Kd.int .u8) W A x.f5.length x.f5) (hc : x.f5.length ≤ c) :
  Calls Tryd.prog 51 #[.agg (nodeCells x (.slice A x.f5.length c)), .pointer (some ⟨B, 0, none⟩)] W fun e W' => e = .returned (.bool (!ledB l x)) ∧ Below W.heap.size W W' := by
 have hl := led_f hr hz x
 generalize ledB l x = b at hl
 have HL := Aside0.mk hl
 have HC := Aside0.mk hC
 have HX := Aside0.mk hx
 have hBlt : B < W.heap.size := World.block_lt_of_cell? W ⟨B, 0, none⟩ hbox
 have hbn := World.new_ne W ⟨B, 0, none⟩ hbox
 clear hl hC hx hr hz
 unfold nodeCells
 go_enter Tryd.func51, Tryd.ntmps51
 go_wp2_with (go_at_call 52; refine (tree_led.calls A0 c0 l x.f0 x.f1 x.f2 x.f3 x.f4.f0 x.f4.f1 x.f4.f2 x.f4.f3 A c x.f5 b _ (by first | exact Kd.C_alloc HC.out _ | exact HC.out) hc0 (by first | exact Kd.C_alloc HX.out _ | exact HX.out) hc HL.out).mono ?_; rintro e w1 ⟨rfl, hb⟩)
 go_ret
 exact ⟨rfl, by first | exact ((Below.refl _ _).alloc (Nat.le_refl _) _).trans (hb.mono (by simp)) | exact hb⟩
def IdxRel (l : List Node) (W : World) (i : Int) (wr : World) : Prop := 0 ≤ i ∧ i ≤ l.length ∧ (∀ (j : Nat) (hj : j < l.length), (j : Int) < i → ledB l l[j] = true) ∧ Below W.heap.size W wr
theorem all_led {l : List Node} (h : ∀ (j : Nat) (hj : j < l.length), ledB l l[j] = true) : l.all (ledB l) = true := by
 rw [List.all_eq_true]
 intro x hx
 obtain ⟨i, hi, rfl⟩ := List.getElem_of_mem hx
 exact h i hi
theorem not_led {l : List Node} {j : Nat} {hj : j < l.length} (h : ledB l l[j] = false) : l.all (ledB l) = false := by
 rw [Bool.eq_false_iff]
 intro h2
 rw [List.all_eq_true] at h2
 rw [h2 _ (List.getElem_mem hj)] at h
 cases h
set_option maxRecDepth 100000 in
set_option maxHeartbeats 2000000 in
theorem Index_calls (l : List Node) (hr : riseB l = true) (hz : nodesZ l = true) (A0 : Option Addr) (c0 : Nat) (hc0 : l.length ≤ c0) (B : Nat) (W : World) (hbox : W.cell? ⟨B, 0, none⟩ = some (.slice A0 l.length c0)) (hC : Kd.C k40 W A0 l.length l) :
  Calls Tryd.prog 68 #[.slice A0 l.length c0, .func (.func 51) #[] #[.pointer (some ⟨B, 0, none⟩)]] W fun e W' => ∃ n : Int, e = .returned (.int .i64 n) ∧ decide (n ≥ 0) = !(l.all (ledB l)) ∧ Below W.heap.size W W' := by
 have hcl := fun x A c W2 (hb : Below W.heap.size W W2) (h1 : Kd.C (Kd.int .u8) W2 A x.f5.length x.f5) (h2 : x.f5.length ≤ c) => Good1_calls l hr hz A0 c0 hc0 B x A c W2 (bkeep hb hbox) (Kd.C_below hC hb) h1 h2
 have HCL := Aside0.mk hcl
 have HC := Aside0.mk hC
 have hlen : (l.length : Int) ≤ 1000000000000 := by have := ((nodesZ_iff l).1 hz).1; omega
 clear hcl hC hr hz
 generalize hpost : (fun (e : Ending) (W' : World) => ∃ n : Int, e = .returned (.int .i64 n) ∧ decide (n ≥ 0) = !(l.all (ledB l)) ∧ Below W.heap.size W W') = Q
 have hQ := Aside0.mk hpost
 clear hpost
 go_enter Tryd.func68, Tryd.ntmps68
 go_wp2
 go_loopw [8] (fun i wr => ∃ n : Int, i = .int .i64 n ∧ Aside0 (IdxRel l W n wr)) (fun i _ => (l.length - (intOf i)).toNat)
 case atStart => exact ⟨0, rfl, ⟨⟨by omega, by omega, fun j hj h => absurd h (by omega), Below.refl _ _⟩⟩⟩
 case round =>
  obtain ⟨n, rfl, HR⟩ := hrel
  have h0 := HR.out.1
  have h1 := HR.out.2.1
  have HB := Aside0.mk HR.out.2.2.2
  by_cases hlt : n < (l.length : Int)
  ·have c1 : decide (n < (l.length : Int)) = true := decide_eq_true hlt
   have hnl : n.toNat < l.length := by omega
   obtain ⟨ad, A7, c7, rfl, x0, x1, x2, x3, x4, x5, x6, x7, x8, hl7, hC7⟩ := at_T40 (Kd.C_below HC.out HB.out) n h0 hlt
   have hx := rdN_at l n h0 hlt
   generalize rd_T40 l n = x at hx x0 x1 x2 x3 x4 x5 x6 x7 x8 hl7 hC7
   have HX := Aside0.mk hx
   have HC7 := Aside0.mk hC7
   have HL7 := Aside0.mk hl7
   have HNL := Aside0.mk hnl
   clear hx hC7 hl7 hnl
   have hcl2 := HCL.out x A7 c7 wr HB.out HC7.out HL7.out
   cases hb : ledB l x with
   | true =>
    rw [hb, Bool.not_true] at hcl2
    unfold nodeCells at hcl2
    have HC2 := Aside0.mk hcl2
    have HLB := Aside0.mk hb
    clear hcl2 hb
    go_wp2_with (go_at_call 51; refine HC2.out.mono ?_; rintro e w1 ⟨rfl, hb1⟩)
    have hfin : IdxRel l W (n + 1) w1 := by
     refine ⟨by omega, by omega, fun j hj hjn => ?_, HB.out.trans (hb1.mono HB.out.size)⟩
     rcases Nat.lt_or_ge j n.toNat with h | h
     ·exact HR.out.2.2.1 j hj (by omega)
     ·obtain rfl : j = n.toNat := by omega
      rw [← HX.out]; exact HLB.out
    clear hb1
    go_roundw
    case rel => exact ⟨n + 1, by go_num, ⟨hfin⟩⟩
    case measure => simp [intOf]; omega
   | false =>
    rw [hb, Bool.not_false] at hcl2
    unfold nodeCells at hcl2
    have HC2 := Aside0.mk hcl2
    have HLB := Aside0.mk hb
    clear hcl2 hb
    go_wp2_with (go_at_call 51; refine HC2.out.mono ?_; rintro e w1 ⟨rfl, hb1⟩)
    rw [← hQ.out]
    refine ⟨n, rfl, ?_, HB.out.trans (hb1.mono HB.out.size)⟩
    rw [not_led (j := n.toNat) (hj := HNL.out) (by rw [← HX.out]; exact HLB.out), decide_eq_true (show n ≥ 0 from h0)]
    rfl
  ·have c1 : decide (n < (l.length : Int)) = false := decide_eq_false hlt
   go_wp2
   rw [← hQ.out]
   refine ⟨-1, rfl, ?_, HB.out⟩
   rw [all_led (fun j hj => HR.out.2.2.1 j hj (by omega))]
   rfl
theorem Contains_calls (l : List Node) (hr : riseB l = true) (hz : nodesZ l = true) (A0 : Option Addr) (c0 : Nat) (hc0 : l.length ≤ c0) (B : Nat) (W : World) (hbox : W.cell? ⟨B, 0, none⟩ = some (.slice A0 l.length c0)) (hC : Kd.C k40 W A0 l.length l) :
  Calls Tryd.prog 50 #[.slice A0 l.length c0, .func (.func 51) #[] #[.pointer (some ⟨B, 0, none⟩)]] W fun e W' => e = .returned (.bool (!(l.all (ledB l)))) ∧ Below W.heap.size W W' := by
 have HI := Aside0.mk (Index_calls l hr hz A0 c0 hc0 B W hbox hC)
 clear hr hz hC
 go_enter Tryd.func50, Tryd.ntmps50
 go_wp2_with (go_at_call 68; refine HI.out.mono ?_; rintro e w1 ⟨n, rfl, hn, hb⟩; have HN := Aside0.mk hn; clear hn)
 go_ret
 exact ⟨by rw [← HN.out]; rfl, hb⟩
def headOk' (l : List Node) (i : Nat) (h : i < l.length) : Bool := (decide (i = 0) || lt (l[i - 1]'(by omega)).f0 l[i].f0) && !decide (l[i].f3 = 49) && goodM (memOf l[i])
def GRel (l : List Node) (W : World) (A0 : Option Addr) (c0 : Nat) (i : Int) (wr : World) : Prop := 0 ≤ i ∧ i ≤ l.length ∧ (∀ (j : Nat) (hj : j < l.length), (j : Int) < i → headOk' l j hj = true) ∧ Below W.heap.size W wr ∧ wr.cell? ⟨W.heap.size, 0, none⟩ = some (.slice A0 l.length c0)
theorem goodTree_head {l : List Node} (h : ∀ (i : Nat) (hi : i < l.length), headOk' l i hi = true) : riseB l = true ∧ goodTree l = (decide (l.length ≤ 4096) && l.all (ledB l)) := by
 have hp : ∀ (i : Nat) (hi : i < l.length), (i = 0 ∨ lt (l[i - 1]'(by omega)).f0 l[i].f0 = true) ∧ ¬ l[i].f3 = 49 ∧ goodM (memOf l[i]) = true := fun i hi => by
  have := h i hi
  unfold headOk' at this
  simp only [Bool.and_eq_true, Bool.or_eq_true, decide_eq_true_iff, Bool.not_eq_true', decide_eq_false_iff_not] at this
  exact ⟨this.1.1, this.1.2, this.2⟩
 have hr : riseB l = true := riseB_step (fun i hi => by
  have := (hp (i + 1) hi).1
  rcases this with h | h
  ·cases h
  ·exact h)
 refine ⟨hr, ?_⟩
 unfold goodTree
 have h1 : (l.all (fun x => !decide (x.f3 = 49) && goodM (memOf x))) = true := by
  rw [List.all_eq_true]
  intro x hx
  obtain ⟨i, hi, rfl⟩ := List.getElem_of_mem hx
  rw [Bool.and_eq_true, Bool.not_eq_true', decide_eq_false_iff_not]
  exact ⟨(hp i hi).2.1, (hp i hi).2.2⟩
 rw [hr, h1]
 rfl
theorem goodTree_nothead {l : List Node} (i : Nat) (hi : i < l.length) (h : headOk' l i hi = false) : goodTree l = false :=
 goodTree_not i hi (by show (headOk' l i hi && ledB (l.take (i + 1)) l[i]) = false; rw [h]; rfl)
theorem prev_lt' {l : List Node} {n j : Int} {h : j.toNat < l.length} {h' : n.toNat - 1 < l.length} {y0 x0 : ByteArray} {b : Bool} (hy : l[j.toNat].f0 = y0) (hj : j = n - 1) (hl : Op.bytesLess y0.toList x0.toList = b) : lt (l[n.toNat - 1]).f0 x0 = b := by
 subst hj
 unfold lt
 rw [← hl, ← hy]
 congr 4
 omega
theorem gRel_next {l : List Node} {W wr w1 : World} {A0 : Option Addr} {c0 : Nat} {n : Int} (h : GRel l W A0 c0 n wr) (hn : n.toNat < l.length) (h1 : headOk' l n.toNat hn = true) (hB : Below wr.heap.size wr w1) : GRel l W A0 c0 (n + 1) w1 := by
 have h0 := h.1
 refine ⟨by omega, by omega, fun q hq hqn => ?_, h.2.2.2.1.trans (hB.mono h.2.2.2.1.size), bkeep hB h.2.2.2.2⟩
 rcases Nat.lt_or_ge q n.toNat with hh | hh
 ·exact h.2.2.1 q hq (by omega)
 ·obtain rfl : q = n.toNat := by omega
  exact h1
def Mid4 (l : List Node) (n : Nat) (h : n < l.length) (b : Bool) (wr wx : World) : Prop := b = !(headOk' l n h) ∧ Below wr.heap.size wr wx
set_option maxRecDepth 100000 in
set_option maxHeartbeats 8000000 in
theorem Good_calls (A0 : Option Addr) (c0 : Nat) (l : List Node) (W : World) (hT : Tabs W) (hC : Kd.C k40 W A0 l.length l) (hc0 : l.length ≤ c0) (hz : NodesG l) :
  Calls Tryd.prog 31 #[.slice A0 l.length c0] W fun e W' => e = .returned (.bool (goodTree l)) ∧ Below W.heap.size W W' := by
 have HC := Aside0.mk hC
 have HZ := Aside0.mk hz
 have HC0 := Aside0.mk hc0
 have HT := Aside0.mk hT
 have hlen : (l.length : Int) ≤ 1000000000000 := by have := hz.1.1; omega
 clear hC hz hc0 hT
 generalize hpost : (fun (e : Ending) (W' : World) => e = .returned (.bool (goodTree l)) ∧ Below W.heap.size W W') = Q
 have hQ := Aside0.mk hpost
 clear hpost
 go_enter Tryd.func31, Tryd.ntmps31
 go_wp2
 go_loopg [7] (l.length) (fun g i wr => ∃ n : Int, i = .int .i64 n ∧ Aside0 (GRel l W A0 c0 n wr) ∧ Aside0 ((g : Int) + n = l.length))
 case atStart => exact ⟨0, rfl, ⟨⟨by omega, by omega, fun j hj h => absurd h (by omega), (Below.refl _ _).alloc (Nat.le_refl _) _, by simp⟩⟩, ⟨by omega⟩⟩
 case round =>
  obtain ⟨n, rfl, HR, HG⟩ := hrel
  have h0 := HR.out.1
  have h1 := HR.out.2.1
  have HB := Aside0.mk HR.out.2.2.2.1
  have hbox := HR.out.2.2.2.2
  by_cases hlt : n < (l.length : Int)
  ·have hnl : n.toNat < l.length := by omega
   obtain ⟨ad, A7, c7, rfl, x0, x1, x2, x3, x4, x5, x6, x7, x8, hl7, hC7⟩ := at_T40 (Kd.C_below HC.out HB.out) n h0 hlt
   have hx := rdN_at l n h0 hlt
   have hxz : NodeZ (rd_T40 l n) ∧ (rd_T40 l n).f0.size ≤ 8000000000000 ∧ (rd_T40 l n).f1.size ≤ 8000000000000 := by rw [hx]; exact ⟨HZ.out.1.2 _ (List.getElem_mem _), HZ.out.2 _ (List.getElem_mem _)⟩
   generalize rd_T40 l n = x at hx hxz x0 x1 x2 x3 x4 x5 x6 x7 x8 hl7 hC7
   have HX := Aside0.mk hx
   have HXZ := Aside0.mk hxz
   have HC7 := Aside0.mk hC7
   have c1b : decide (n < (l.length : Int)) = true := decide_eq_true hlt
   clear hx hxz hC7
   have hmr : MemZ (memOf x) := ⟨HXZ.out.2.1, HXZ.out.2.2, HXZ.out.1.2.2.2⟩
   obtain ⟨kg, hkg⟩ := Ev.rounds (member_Good_eq (memOf x) hmr)
   generalize hgd : goodM (memOf x) = gd at hkg
   have HGD := Aside0.mk hgd
   have HKG : Aside0 (member_Good.f kg x.f0 x.f1 x.f3 x.f4.f0 x.f4.f1 x.f4.f2 x.f4.f3 x.f5 = some gd) := ⟨hkg⟩
   have HCA := Aside0.mk (fun o => Kd.C_alloc HC7.out o)
   have HTA := Aside0.mk (Tabs.below HT.out HB.out)
   have hl7' : x.f5.length ≤ c7 := hl7
   have HNL := Aside0.mk hnl
   have hbn := World.new_ne wr ⟨W.heap.size, 0, none⟩ hbox
   clear hkg hmr hl7 hgd hnl
   go_upto_region 4 with (fail)
   go_cut [44] (fun v wx => ∃ b, v = .bool b ∧ Aside0 (Mid4 l n.toNat HNL.out b wr wx))
   case first =>
    by_cases h49 : x.f3 = 49
    ·have e49 : (x.f3 == 49) = true := beq_iff_eq.2 h49
     have H49 := Aside0.mk h49
     clear h49
     refine start_ (n := 33) (S := fun w' => w'.cell? ⟨wr.heap.size, 0, none⟩ = some (.string x.f0) ∧ w'.cell? ⟨wr.heap.size, 1, none⟩ = some (.string x.f1) ∧ w'.cell? ⟨wr.heap.size, 2, none⟩ = some (.string x.f2) ∧ w'.cell? ⟨wr.heap.size, 3, none⟩ = some (.int .u8 x.f3) ∧ w'.cell? ⟨wr.heap.size, 4, none⟩ = some (.int .i64 x.f4.f0) ∧ w'.cell? ⟨wr.heap.size, 5, none⟩ = some (.int .i64 x.f4.f1) ∧ w'.cell? ⟨wr.heap.size, 6, none⟩ = some (.int .i64 x.f4.f2) ∧ w'.cell? ⟨wr.heap.size, 7, none⟩ = some (.int .i64 x.f4.f3) ∧ w'.cell? ⟨wr.heap.size, 8, none⟩ = some (.slice A7 x.f5.length c7) ∧ w'.cell? ⟨W.heap.size, 0, none⟩ = some (.slice (some ad) l.length c0)) (ds := []) #[false, false, false, false, false, false, false, false, false, false, false, false, false, false, false, false, false, false, false, false, false, false, false, false, false, false, false, false, false, false, false, false, false] (by kernel_rfl) rfl rfl ⟨by simp, by simp, by simp, by simp, by simp, by simp, by simp, by simp, by simp, acell hbox _⟩ (fun hHeld => ?_)
     generalize hwq : (wr.alloc (.cells #[.string x.f0, .string x.f1, .string x.f2, .int .u8 x.f3, .int .i64 x.f4.f0, .int .i64 x.f4.f1, .int .i64 x.f4.f2, .int .i64 x.f4.f3, .slice A7 x.f5.length c7] 40)).drew = wq at hHeld ⊢
     refine pure_ (i := 0) (N := some 12) (v := ?_) (a' := ?_) #[true, false, false, false, false, false, false, false, false, false, false, false, false, false, false, false, false, false, false, false, false, false, false, false, false, false, false, false, false, false, false, false, false] rfl rfl (by kernel_rfl) (fun _ _ _ h => h) (Or.inl ⟨by rfl, ?_⟩) ?_ ?_
     rotate_left
     ·intro w'
      go_simp
      with_reducible rfl
     rotate_left
     ·simp only [Act.put, List.setIfInBounds_toArray, List.set_cons_zero, List.set_cons_succ, i64_w, i32_w]
      rfl
     refine take_ (i := 1) (N := some 13) (v := ?_) (a' := ?_) #[true, true, false, false, false, false, false, false, false, false, false, false, false, false, false, false, false, false, false, false, false, false, false, false, false, false, false, false, false, false, false, false, false] rfl rfl (by kernel_rfl) (fun _ _ _ h => h) (Or.inl ⟨by rfl, ?_⟩) hHeld ?_ ?_
     rotate_left
     ·rintro w' ⟨s0, s1, s2, s3, s4, s5, s6, s7, s8, s9⟩
      go_simp
      with_reducible rfl
     rotate_left
     ·simp only [Act.put, List.setIfInBounds_toArray, List.set_cons_zero, List.set_cons_succ, i64_w, i32_w]
      rfl
     refine pure_ (i := 2) (N := some 14) (v := ?_) (a' := ?_) #[true, true, true, false, false, false, false, false, false, false, false, false, false, false, false, false, false, false, false, false, false, false, false, false, false, false, false, false, false, false, false, false, false] rfl rfl (by kernel_rfl) (fun _ _ _ h => h) (Or.inl ⟨by rfl, ?_⟩) ?_ ?_
     rotate_left
     ·intro w'
      go_simp
      with_reducible rfl
     rotate_left
     ·simp only [Act.put, List.setIfInBounds_toArray, List.set_cons_zero, List.set_cons_succ, i64_w, i32_w]
      rfl
     refine pure_ (i := 3) (N := some 15) (v := ?_) (a' := ?_) #[true, true, true, true, false, false, false, false, false, false, false, false, false, false, false, false, false, false, false, false, false, false, false, false, false, false, false, false, false, false, false, false, false] rfl rfl (by kernel_rfl) (fun _ _ _ h => h) (Or.inl ⟨by rfl, ?_⟩) ?_ ?_
     rotate_left
     ·intro w'
      go_simp
      with_reducible rfl
     rotate_left
     ·simp only [Act.put, List.setIfInBounds_toArray, List.set_cons_zero, List.set_cons_succ, i64_w, i32_w]
      rfl
     refine pure_ (i := 4) (N := some 16) (v := undef) (a' := ?_) #[true, true, true, true, true, false, false, false, false, false, false, false, false, false, false, false, false, false, false, false, false, false, false, false, false, false, false, false, false, false, false, false, false] rfl rfl (by kernel_rfl) (fun _ _ _ h => h) (Or.inr ⟨by rfl, rfl⟩) ?_ ?_
     rotate_left
     ·simp only [Act.put, List.setIfInBounds_toArray, List.set_cons_zero, List.set_cons_succ, i64_w, i32_w]
      rfl
     refine pure_ (i := 5) (N := some 17) (v := undef) (a' := ?_) #[true, true, true, true, true, true, false, false, false, false, false, false, false, false, false, false, false, false, false, false, false, false, false, false, false, false, false, false, false, false, false, false, false] rfl rfl (by kernel_rfl) (fun _ _ _ h => h) (Or.inr ⟨by rfl, rfl⟩) ?_ ?_
     rotate_left
     ·simp only [Act.put, List.setIfInBounds_toArray, List.set_cons_zero, List.set_cons_succ, i64_w, i32_w]
      rfl
     refine pure_ (i := 6) (N := some 18) (v := undef) (a' := ?_) #[true, true, true, true, true, true, true, false, false, false, false, false, false, false, false, false, false, false, false, false, false, false, false, false, false, false, false, false, false, false, false, false, false] rfl rfl (by kernel_rfl) (fun _ _ _ h => h) (Or.inr ⟨by rfl, rfl⟩) ?_ ?_
     rotate_left
     ·simp only [Act.put, List.setIfInBounds_toArray, List.set_cons_zero, List.set_cons_succ, i64_w, i32_w]
      rfl
     refine pure_ (i := 7) (N := some 19) (v := undef) (a' := ?_) #[true, true, true, true, true, true, true, true, false, false, false, false, false, false, false, false, false, false, false, false, false, false, false, false, false, false, false, false, false, false, false, false, false] rfl rfl (by kernel_rfl) (fun _ _ _ h => h) (Or.inr ⟨by rfl, rfl⟩) ?_ ?_
     rotate_left
     ·simp only [Act.put, List.setIfInBounds_toArray, List.set_cons_zero, List.set_cons_succ, i64_w, i32_w]
      rfl
     refine pure_ (i := 8) (N := some 20) (v := undef) (a' := ?_) #[true, true, true, true, true, true, true, true, true, false, false, false, false, false, false, false, false, false, false, false, false, false, false, false, false, false, false, false, false, false, false, false, false] rfl rfl (by kernel_rfl) (fun _ _ _ h => h) (Or.inr ⟨by rfl, rfl⟩) ?_ ?_
     rotate_left
     ·simp only [Act.put, List.setIfInBounds_toArray, List.set_cons_zero, List.set_cons_succ, i64_w, i32_w]
      rfl
     refine pure_ (i := 9) (N := some 21) (v := undef) (a' := ?_) #[true, true, true, true, true, true, true, true, true, true, false, false, false, false, false, false, false, false, false, false, false, false, false, false, false, false, false, false, false, false, false, false, false] rfl rfl (by kernel_rfl) (fun _ _ _ h => h) (Or.inr ⟨by rfl, rfl⟩) ?_ ?_
     rotate_left
     ·simp only [Act.put, List.setIfInBounds_toArray, List.set_cons_zero, List.set_cons_succ, i64_w, i32_w]
      rfl
     refine pure_ (i := 10) (N := some 22) (v := undef) (a' := ?_) #[true, true, true, true, true, true, true, true, true, true, true, false, false, false, false, false, false, false, false, false, false, false, false, false, false, false, false, false, false, false, false, false, false] rfl rfl (by kernel_rfl) (fun _ _ _ h => h) (Or.inr ⟨by rfl, rfl⟩) ?_ ?_
     rotate_left
     ·simp only [Act.put, List.setIfInBounds_toArray, List.set_cons_zero, List.set_cons_succ, i64_w, i32_w]
      rfl
     refine pure_ (i := 11) (N := some 23) (v := undef) (a' := ?_) #[true, true, true, true, true, true, true, true, true, true, true, true, false, false, false, false, false, false, false, false, false, false, false, false, false, false, false, false, false, false, false, false, false] rfl rfl (by kernel_rfl) (fun _ _ _ h => h) (Or.inr ⟨by rfl, rfl⟩) ?_ ?_
     rotate_left
     ·simp only [Act.put, List.setIfInBounds_toArray, List.set_cons_zero, List.set_cons_succ, i64_w, i32_w]
      rfl
     refine pure_ (i := 12) (N := some 24) (v := undef) (a' := ?_) #[true, true, true, true, true, true, true, true, true, true, true, true, true, false, false, false, false, false, false, false, false, false, false, false, false, false, false, false, false, false, false, false, false] rfl rfl (by kernel_rfl) (fun _ _ _ h => h) (Or.inr ⟨by rfl, rfl⟩) ?_ ?_
     rotate_left
     ·simp only [Act.put, List.setIfInBounds_toArray, List.set_cons_zero, List.set_cons_succ, i64_w, i32_w]
      rfl
     refine pure_ (i := 13) (N := some 25) (v := undef) (a' := ?_) #[true, true, true, true, true, true, true, true, true, true, true, true, true, true, false, false, false, false, false, false, false, false, false, false, false, false, false, false, false, false, false, false, false] rfl rfl (by kernel_rfl) (fun _ _ _ h => h) (Or.inr ⟨by rfl, rfl⟩) ?_ ?_
     rotate_left
     ·simp only [Act.put, List.setIfInBounds_toArray, List.set_cons_zero, List.set_cons_succ, i64_w, i32_w]
      rfl
     refine pure_ (i := 14) (N := some 26) (v := undef) (a' := ?_) #[true, true, true, true, true, true, true, true, true, true, true, true, true, true, true, false, false, false, false, false, false, false, false, false, false, false, false, false, false, false, false, false, false] rfl rfl (by kernel_rfl) (fun _ _ _ h => h) (Or.inr ⟨by rfl, rfl⟩) ?_ ?_
     rotate_left
     ·simp only [Act.put, List.setIfInBounds_toArray, List.set_cons_zero, List.set_cons_succ, i64_w, i32_w]
      rfl
     refine pure_ (i := 15) (N := some 27) (v := undef) (a' := ?_) #[true, true, true, true, true, true, true, true, true, true, true, true, true, true, true, true, false, false, false, false, false, false, false, false, false, false, false, false, false, false, false, false, false] rfl rfl (by kernel_rfl) (fun _ _ _ h => h) (Or.inr ⟨by rfl, rfl⟩) ?_ ?_
     rotate_left
     ·simp only [Act.put, List.setIfInBounds_toArray, List.set_cons_zero, List.set_cons_succ, i64_w, i32_w]
      rfl
     refine pure_ (i := 16) (N := some 28) (v := undef) (a' := ?_) #[true, true, true, true, true, true, true, true, true, true, true, true, true, true, true, true, true, false, false, false, false, false, false, false, false, false, false, false, false, false, false, false, false] rfl rfl (by kernel_rfl) (fun _ _ _ h => h) (Or.inr ⟨by rfl, rfl⟩) ?_ ?_
     rotate_left
     ·simp only [Act.put, List.setIfInBounds_toArray, List.set_cons_zero, List.set_cons_succ, i64_w, i32_w]
      rfl
     refine pure_ (i := 17) (N := some 29) (v := ?_) (a' := ?_) #[true, true, true, true, true, true, true, true, true, true, true, true, true, true, true, true, true, true, false, false, false, false, false, false, false, false, false, false, false, false, false, false, false] rfl rfl (by kernel_rfl) (fun _ _ _ h => h) (Or.inl ⟨by rfl, ?_⟩) ?_ ?_
     rotate_left
     ·intro w'
      go_simp
      with_reducible rfl
     rotate_left
     ·simp only [Act.put, List.setIfInBounds_toArray, List.set_cons_zero, List.set_cons_succ, i64_w, i32_w]
      rfl
     refine pure_ (i := 18) (N := some 30) (v := ?_) (a' := ?_) #[true, true, true, true, true, true, true, true, true, true, true, true, true, true, true, true, true, true, true, false, false, false, false, false, false, false, false, false, false, false, false, false, false] rfl rfl (by kernel_rfl) (fun _ _ _ h => h) (Or.inl ⟨by rfl, ?_⟩) ?_ ?_
     rotate_left
     ·intro w'
      go_simp
      with_reducible rfl
     rotate_left
     ·simp only [Act.put, List.setIfInBounds_toArray, List.set_cons_zero, List.set_cons_succ, i64_w, i32_w]
      rfl
     refine pure_ (i := 19) (N := some 31) (v := undef) (a' := ?_) #[true, true, true, true, true, true, true, true, true, true, true, true, true, true, true, true, true, true, true, true, false, false, false, false, false, false, false, false, false, false, false, false, false] rfl rfl (by kernel_rfl) (fun _ _ _ h => h) (Or.inr ⟨by rfl, rfl⟩) ?_ ?_
     rotate_left
     ·simp only [Act.put, List.setIfInBounds_toArray, List.set_cons_zero, List.set_cons_succ, i64_w, i32_w]
      rfl
     refine pure_ (i := 20) (N := some 32) (v := undef) (a' := ?_) #[true, true, true, true, true, true, true, true, true, true, true, true, true, true, true, true, true, true, true, true, true, false, false, false, false, false, false, false, false, false, false, false, false] rfl rfl (by kernel_rfl) (fun _ _ _ h => h) (Or.inr ⟨by rfl, rfl⟩) ?_ ?_
     rotate_left
     ·simp only [Act.put, List.setIfInBounds_toArray, List.set_cons_zero, List.set_cons_succ, i64_w, i32_w]
      rfl
     refine pure_ (i := 21) (N := some 33) (v := undef) (a' := ?_) #[true, true, true, true, true, true, true, true, true, true, true, true, true, true, true, true, true, true, true, true, true, true, false, false, false, false, false, false, false, false, false, false, false] rfl rfl (by kernel_rfl) (fun _ _ _ h => h) (Or.inr ⟨by rfl, rfl⟩) ?_ ?_
     rotate_left
     ·simp only [Act.put, List.setIfInBounds_toArray, List.set_cons_zero, List.set_cons_succ, i64_w, i32_w]
      rfl
     refine pure_ (i := 22) (N := some 34) (v := undef) (a' := ?_) #[true, true, true, true, true, true, true, true, true, true, true, true, true, true, true, true, true, true, true, true, true, true, true, false, false, false, false, false, false, false, false, false, false] rfl rfl (by kernel_rfl) (fun _ _ _ h => h) (Or.inr ⟨by rfl, rfl⟩) ?_ ?_
     rotate_left
     ·simp only [Act.put, List.setIfInBounds_toArray, List.set_cons_zero, List.set_cons_succ, i64_w, i32_w]
      rfl
     refine pure_ (i := 23) (N := some 35) (v := undef) (a' := ?_) #[true, true, true, true, true, true, true, true, true, true, true, true, true, true, true, true, true, true, true, true, true, true, true, true, false, false, false, false, false, false, false, false, false] rfl rfl (by kernel_rfl) (fun _ _ _ h => h) (Or.inr ⟨by rfl, rfl⟩) ?_ ?_
     rotate_left
     ·simp only [Act.put, List.setIfInBounds_toArray, List.set_cons_zero, List.set_cons_succ, i64_w, i32_w]
      rfl
     refine pure_ (i := 24) (N := some 36) (v := undef) (a' := ?_) #[true, true, true, true, true, true, true, true, true, true, true, true, true, true, true, true, true, true, true, true, true, true, true, true, true, false, false, false, false, false, false, false, false] rfl rfl (by kernel_rfl) (fun _ _ _ h => h) (Or.inr ⟨by rfl, rfl⟩) ?_ ?_
     rotate_left
     ·simp only [Act.put, List.setIfInBounds_toArray, List.set_cons_zero, List.set_cons_succ, i64_w, i32_w]
      rfl
     refine pure_ (i := 25) (N := some 37) (v := undef) (a' := ?_) #[true, true, true, true, true, true, true, true, true, true, true, true, true, true, true, true, true, true, true, true, true, true, true, true, true, true, false, false, false, false, false, false, false] rfl rfl (by kernel_rfl) (fun _ _ _ h => h) (Or.inr ⟨by rfl, rfl⟩) ?_ ?_
     rotate_left
     ·simp only [Act.put, List.setIfInBounds_toArray, List.set_cons_zero, List.set_cons_succ, i64_w, i32_w]
      rfl
     refine pure_ (i := 26) (N := some 38) (v := undef) (a' := ?_) #[true, true, true, true, true, true, true, true, true, true, true, true, true, true, true, true, true, true, true, true, true, true, true, true, true, true, true, false, false, false, false, false, false] rfl rfl (by kernel_rfl) (fun _ _ _ h => h) (Or.inr ⟨by rfl, rfl⟩) ?_ ?_
     rotate_left
     ·simp only [Act.put, List.setIfInBounds_toArray, List.set_cons_zero, List.set_cons_succ, i64_w, i32_w]
      rfl
     refine pure_ (i := 27) (N := some 39) (v := undef) (a' := ?_) #[true, true, true, true, true, true, true, true, true, true, true, true, true, true, true, true, true, true, true, true, true, true, true, true, true, true, true, true, false, false, false, false, false] rfl rfl (by kernel_rfl) (fun _ _ _ h => h) (Or.inr ⟨by rfl, rfl⟩) ?_ ?_
     rotate_left
     ·simp only [Act.put, List.setIfInBounds_toArray, List.set_cons_zero, List.set_cons_succ, i64_w, i32_w]
      rfl
     refine pure_ (i := 28) (N := some 40) (v := undef) (a' := ?_) #[true, true, true, true, true, true, true, true, true, true, true, true, true, true, true, true, true, true, true, true, true, true, true, true, true, true, true, true, true, false, false, false, false] rfl rfl (by kernel_rfl) (fun _ _ _ h => h) (Or.inr ⟨by rfl, rfl⟩) ?_ ?_
     rotate_left
     ·simp only [Act.put, List.setIfInBounds_toArray, List.set_cons_zero, List.set_cons_succ, i64_w, i32_w]
      rfl
     refine pure_ (i := 29) (N := some 41) (v := undef) (a' := ?_) #[true, true, true, true, true, true, true, true, true, true, true, true, true, true, true, true, true, true, true, true, true, true, true, true, true, true, true, true, true, true, false, false, false] rfl rfl (by kernel_rfl) (fun _ _ _ h => h) (Or.inr ⟨by rfl, rfl⟩) ?_ ?_
     rotate_left
     ·simp only [Act.put, List.setIfInBounds_toArray, List.set_cons_zero, List.set_cons_succ, i64_w, i32_w]
      rfl
     refine pure_ (i := 30) (N := some 42) (v := undef) (a' := ?_) #[true, true, true, true, true, true, true, true, true, true, true, true, true, true, true, true, true, true, true, true, true, true, true, true, true, true, true, true, true, true, true, false, false] rfl rfl (by kernel_rfl) (fun _ _ _ h => h) (Or.inr ⟨by rfl, rfl⟩) ?_ ?_
     rotate_left
     ·simp only [Act.put, List.setIfInBounds_toArray, List.set_cons_zero, List.set_cons_succ, i64_w, i32_w]
      rfl
     refine pure_ (i := 31) (N := some 43) (v := undef) (a' := ?_) #[true, true, true, true, true, true, true, true, true, true, true, true, true, true, true, true, true, true, true, true, true, true, true, true, true, true, true, true, true, true, true, true, false] rfl rfl (by kernel_rfl) (fun _ _ _ h => h) (Or.inr ⟨by rfl, rfl⟩) ?_ ?_
     rotate_left
     ·simp only [Act.put, List.setIfInBounds_toArray, List.set_cons_zero, List.set_cons_succ, i64_w, i32_w]
      rfl
     refine pure_ (i := 32) (N := some 44) (v := ?_) (a' := ?_) #[true, true, true, true, true, true, true, true, true, true, true, true, true, true, true, true, true, true, true, true, true, true, true, true, true, true, true, true, true, true, true, true, true] rfl rfl (by kernel_rfl) (fun _ _ _ h => h) (Or.inl ⟨by rfl, ?_⟩) ?_ ?_
     rotate_left
     ·intro w'
      go_simp
      with_reducible rfl
     rotate_left
     ·simp only [Act.put, List.setIfInBounds_toArray, List.set_cons_zero, List.set_cons_succ, i64_w, i32_w]
      rfl
     refine done_ (by kernel_rfl) ?_
     go_wp2_with (fail)
     go_meet
     exact ⟨true, rfl, ⟨by unfold headOk'; rw [← HX.out, decide_eq_true H49.out]; simp, by rw [← hwq]; exact below_drew (below_alloc (Below.refl _ _) _)⟩⟩
    ·have e49 : (x.f3 == 49) = false := beq_eq_false_iff_ne.2 h49
     have H49 := Aside0.mk h49
     clear h49
     by_cases hn0 : n = 0
     ·have g1 : decide (0 < n) = false := decide_eq_false (by omega)
      have g2 : decide (n > 0) = false := decide_eq_false (by omega)
      have HN0 := Aside0.mk hn0
      clear hn0
      refine start_ (n := 33) (S := fun w' => w'.cell? ⟨wr.heap.size, 0, none⟩ = some (.string x.f0) ∧ w'.cell? ⟨wr.heap.size, 1, none⟩ = some (.string x.f1) ∧ w'.cell? ⟨wr.heap.size, 2, none⟩ = some (.string x.f2) ∧ w'.cell? ⟨wr.heap.size, 3, none⟩ = some (.int .u8 x.f3) ∧ w'.cell? ⟨wr.heap.size, 4, none⟩ = some (.int .i64 x.f4.f0) ∧ w'.cell? ⟨wr.heap.size, 5, none⟩ = some (.int .i64 x.f4.f1) ∧ w'.cell? ⟨wr.heap.size, 6, none⟩ = some (.int .i64 x.f4.f2) ∧ w'.cell? ⟨wr.heap.size, 7, none⟩ = some (.int .i64 x.f4.f3) ∧ w'.cell? ⟨wr.heap.size, 8, none⟩ = some (.slice A7 x.f5.length c7) ∧ w'.cell? ⟨W.heap.size, 0, none⟩ = some (.slice (some ad) l.length c0)) (ds := []) #[false, false, false, false, false, false, false, false, false, false, false, false, false, false, false, false, false, false, false, false, false, false, false, false, false, false, false, false, false, false, false, false, false] (by kernel_rfl) rfl rfl ⟨by simp, by simp, by simp, by simp, by simp, by simp, by simp, by simp, by simp, acell hbox _⟩ (fun hHeld => ?_)
      generalize hwq : (wr.alloc (.cells #[.string x.f0, .string x.f1, .string x.f2, .int .u8 x.f3, .int .i64 x.f4.f0, .int .i64 x.f4.f1, .int .i64 x.f4.f2, .int .i64 x.f4.f3, .slice A7 x.f5.length c7] 40)).drew = wq at hHeld ⊢
      refine pure_ (i := 0) (N := some 12) (v := ?_) (a' := ?_) #[true, false, false, false, false, false, false, false, false, false, false, false, false, false, false, false, false, false, false, false, false, false, false, false, false, false, false, false, false, false, false, false, false] rfl rfl (by kernel_rfl) (fun _ _ _ h => h) (Or.inl ⟨by rfl, ?_⟩) ?_ ?_
      rotate_left
      ·intro w'
       go_simp
       with_reducible rfl
      rotate_left
      ·simp only [Act.put, List.setIfInBounds_toArray, List.set_cons_zero, List.set_cons_succ, i64_w, i32_w]
       rfl
      refine take_ (i := 1) (N := some 13) (v := ?_) (a' := ?_) #[true, true, false, false, false, false, false, false, false, false, false, false, false, false, false, false, false, false, false, false, false, false, false, false, false, false, false, false, false, false, false, false, false] rfl rfl (by kernel_rfl) (fun _ _ _ h => h) (Or.inl ⟨by rfl, ?_⟩) hHeld ?_ ?_
      rotate_left
      ·rintro w' ⟨s0, s1, s2, s3, s4, s5, s6, s7, s8, s9⟩
       go_simp
       with_reducible rfl
      rotate_left
      ·simp only [Act.put, List.setIfInBounds_toArray, List.set_cons_zero, List.set_cons_succ, i64_w, i32_w]
       rfl
      refine pure_ (i := 2) (N := some 14) (v := ?_) (a' := ?_) #[true, true, true, false, false, false, false, false, false, false, false, false, false, false, false, false, false, false, false, false, false, false, false, false, false, false, false, false, false, false, false, false, false] rfl rfl (by kernel_rfl) (fun _ _ _ h => h) (Or.inl ⟨by rfl, ?_⟩) ?_ ?_
      rotate_left
      ·intro w'
       go_simp
       with_reducible rfl
      rotate_left
      ·simp only [Act.put, List.setIfInBounds_toArray, List.set_cons_zero, List.set_cons_succ, i64_w, i32_w]
       rfl
      refine pure_ (i := 3) (N := some 15) (v := ?_) (a' := ?_) #[true, true, true, true, false, false, false, false, false, false, false, false, false, false, false, false, false, false, false, false, false, false, false, false, false, false, false, false, false, false, false, false, false] rfl rfl (by kernel_rfl) (fun _ _ _ h => h) (Or.inl ⟨by rfl, ?_⟩) ?_ ?_
      rotate_left
      ·intro w'
       go_simp
       with_reducible rfl
      rotate_left
      ·simp only [Act.put, List.setIfInBounds_toArray, List.set_cons_zero, List.set_cons_succ, i64_w, i32_w]
       rfl
      refine pure_ (i := 4) (N := some 16) (v := ?_) (a' := ?_) #[true, true, true, true, true, false, false, false, false, false, false, false, false, false, false, false, false, false, false, false, false, false, false, false, false, false, false, false, false, false, false, false, false] rfl rfl (by kernel_rfl) (fun _ _ _ h => h) (Or.inl ⟨by rfl, ?_⟩) ?_ ?_
      rotate_left
      ·intro w'
       go_simp
       with_reducible rfl
      rotate_left
      ·simp only [Act.put, List.setIfInBounds_toArray, List.set_cons_zero, List.set_cons_succ, i64_w, i32_w]
       rfl
      refine pure_ (i := 5) (N := some 17) (v := ?_) (a' := ?_) #[true, true, true, true, true, true, false, false, false, false, false, false, false, false, false, false, false, false, false, false, false, false, false, false, false, false, false, false, false, false, false, false, false] rfl rfl (by kernel_rfl) (fun _ _ _ h => h) (Or.inl ⟨by rfl, ?_⟩) ?_ ?_
      rotate_left
      ·intro w'
       go_simp
       with_reducible rfl
      rotate_left
      ·simp only [Act.put, List.setIfInBounds_toArray, List.set_cons_zero, List.set_cons_succ, i64_w, i32_w]
       rfl
      refine pure_ (i := 6) (N := some 18) (v := ?_) (a' := ?_) #[true, true, true, true, true, true, true, false, false, false, false, false, false, false, false, false, false, false, false, false, false, false, false, false, false, false, false, false, false, false, false, false, false] rfl rfl (by kernel_rfl) (fun _ _ _ h => h) (Or.inl ⟨by rfl, ?_⟩) ?_ ?_
      rotate_left
      ·intro w'
       go_simp
       with_reducible rfl
      rotate_left
      ·simp only [Act.put, List.setIfInBounds_toArray, List.set_cons_zero, List.set_cons_succ, i64_w, i32_w]
       rfl
      refine pure_ (i := 7) (N := some 19) (v := undef) (a' := ?_) #[true, true, true, true, true, true, true, true, false, false, false, false, false, false, false, false, false, false, false, false, false, false, false, false, false, false, false, false, false, false, false, false, false] rfl rfl (by kernel_rfl) (fun _ _ _ h => h) (Or.inr ⟨by rfl, rfl⟩) ?_ ?_
      rotate_left
      ·simp only [Act.put, List.setIfInBounds_toArray, List.set_cons_zero, List.set_cons_succ, i64_w, i32_w]
       rfl
      refine pure_ (i := 8) (N := some 20) (v := undef) (a' := ?_) #[true, true, true, true, true, true, true, true, true, false, false, false, false, false, false, false, false, false, false, false, false, false, false, false, false, false, false, false, false, false, false, false, false] rfl rfl (by kernel_rfl) (fun _ _ _ h => h) (Or.inr ⟨by rfl, rfl⟩) ?_ ?_
      rotate_left
      ·simp only [Act.put, List.setIfInBounds_toArray, List.set_cons_zero, List.set_cons_succ, i64_w, i32_w]
       rfl
      refine pure_ (i := 9) (N := some 21) (v := undef) (a' := ?_) #[true, true, true, true, true, true, true, true, true, true, false, false, false, false, false, false, false, false, false, false, false, false, false, false, false, false, false, false, false, false, false, false, false] rfl rfl (by kernel_rfl) (fun _ _ _ h => h) (Or.inr ⟨by rfl, rfl⟩) ?_ ?_
      rotate_left
      ·simp only [Act.put, List.setIfInBounds_toArray, List.set_cons_zero, List.set_cons_succ, i64_w, i32_w]
       rfl
      refine pure_ (i := 10) (N := some 22) (v := undef) (a' := ?_) #[true, true, true, true, true, true, true, true, true, true, true, false, false, false, false, false, false, false, false, false, false, false, false, false, false, false, false, false, false, false, false, false, false] rfl rfl (by kernel_rfl) (fun _ _ _ h => h) (Or.inr ⟨by rfl, rfl⟩) ?_ ?_
      rotate_left
      ·simp only [Act.put, List.setIfInBounds_toArray, List.set_cons_zero, List.set_cons_succ, i64_w, i32_w]
       rfl
      refine pure_ (i := 11) (N := some 23) (v := undef) (a' := ?_) #[true, true, true, true, true, true, true, true, true, true, true, true, false, false, false, false, false, false, false, false, false, false, false, false, false, false, false, false, false, false, false, false, false] rfl rfl (by kernel_rfl) (fun _ _ _ h => h) (Or.inr ⟨by rfl, rfl⟩) ?_ ?_
      rotate_left
      ·simp only [Act.put, List.setIfInBounds_toArray, List.set_cons_zero, List.set_cons_succ, i64_w, i32_w]
       rfl
      refine pure_ (i := 12) (N := some 24) (v := undef) (a' := ?_) #[true, true, true, true, true, true, true, true, true, true, true, true, true, false, false, false, false, false, false, false, false, false, false, false, false, false, false, false, false, false, false, false, false] rfl rfl (by kernel_rfl) (fun _ _ _ h => h) (Or.inr ⟨by rfl, rfl⟩) ?_ ?_
      rotate_left
      ·simp only [Act.put, List.setIfInBounds_toArray, List.set_cons_zero, List.set_cons_succ, i64_w, i32_w]
       rfl
      refine pure_ (i := 13) (N := some 25) (v := undef) (a' := ?_) #[true, true, true, true, true, true, true, true, true, true, true, true, true, true, false, false, false, false, false, false, false, false, false, false, false, false, false, false, false, false, false, false, false] rfl rfl (by kernel_rfl) (fun _ _ _ h => h) (Or.inr ⟨by rfl, rfl⟩) ?_ ?_
      rotate_left
      ·simp only [Act.put, List.setIfInBounds_toArray, List.set_cons_zero, List.set_cons_succ, i64_w, i32_w]
       rfl
      refine pure_ (i := 14) (N := some 26) (v := undef) (a' := ?_) #[true, true, true, true, true, true, true, true, true, true, true, true, true, true, true, false, false, false, false, false, false, false, false, false, false, false, false, false, false, false, false, false, false] rfl rfl (by kernel_rfl) (fun _ _ _ h => h) (Or.inr ⟨by rfl, rfl⟩) ?_ ?_
      rotate_left
      ·simp only [Act.put, List.setIfInBounds_toArray, List.set_cons_zero, List.set_cons_succ, i64_w, i32_w]
       rfl
      refine pure_ (i := 15) (N := some 27) (v := undef) (a' := ?_) #[true, true, true, true, true, true, true, true, true, true, true, true, true, true, true, true, false, false, false, false, false, false, false, false, false, false, false, false, false, false, false, false, false] rfl rfl (by kernel_rfl) (fun _ _ _ h => h) (Or.inr ⟨by rfl, rfl⟩) ?_ ?_
      rotate_left
      ·simp only [Act.put, List.setIfInBounds_toArray, List.set_cons_zero, List.set_cons_succ, i64_w, i32_w]
       rfl
      refine pure_ (i := 16) (N := some 28) (v := ?_) (a' := ?_) #[true, true, true, true, true, true, true, true, true, true, true, true, true, true, true, true, true, false, false, false, false, false, false, false, false, false, false, false, false, false, false, false, false] rfl rfl (by kernel_rfl) (fun _ _ _ h => h) (Or.inl ⟨by rfl, ?_⟩) ?_ ?_
      rotate_left
      ·intro w'
       go_simp
       with_reducible rfl
      rotate_left
      ·simp only [Act.put, List.setIfInBounds_toArray, List.set_cons_zero, List.set_cons_succ, i64_w, i32_w]
       rfl
      refine pure_ (i := 17) (N := some 29) (v := ?_) (a' := ?_) #[true, true, true, true, true, true, true, true, true, true, true, true, true, true, true, true, true, true, false, false, false, false, false, false, false, false, false, false, false, false, false, false, false] rfl rfl (by kernel_rfl) (fun _ _ _ h => h) (Or.inl ⟨by rfl, ?_⟩) ?_ ?_
      rotate_left
      ·intro w'
       go_simp
       with_reducible rfl
      rotate_left
      ·simp only [Act.put, List.setIfInBounds_toArray, List.set_cons_zero, List.set_cons_succ, i64_w, i32_w]
       rfl
      refine pure_ (i := 18) (N := some 30) (v := ?_) (a' := ?_) #[true, true, true, true, true, true, true, true, true, true, true, true, true, true, true, true, true, true, true, false, false, false, false, false, false, false, false, false, false, false, false, false, false] rfl rfl (by kernel_rfl) (fun _ _ _ h => h) (Or.inl ⟨by rfl, ?_⟩) ?_ ?_
      rotate_left
      ·intro w'
       go_simp
       with_reducible rfl
      rotate_left
      ·simp only [Act.put, List.setIfInBounds_toArray, List.set_cons_zero, List.set_cons_succ, i64_w, i32_w]
       rfl
      refine pure_ (i := 19) (N := some 31) (v := ?_) (a' := ?_) #[true, true, true, true, true, true, true, true, true, true, true, true, true, true, true, true, true, true, true, true, false, false, false, false, false, false, false, false, false, false, false, false, false] rfl rfl (by kernel_rfl) (fun _ _ _ h => h) (Or.inl ⟨by rfl, ?_⟩) ?_ ?_
      rotate_left
      ·intro w'
       go_simp
       with_reducible rfl
      rotate_left
      ·simp only [Act.put, List.setIfInBounds_toArray, List.set_cons_zero, List.set_cons_succ, i64_w, i32_w]
       rfl
      refine take_ (i := 20) (N := some 32) (v := ?_) (a' := ?_) #[true, true, true, true, true, true, true, true, true, true, true, true, true, true, true, true, true, true, true, true, true, false, false, false, false, false, false, false, false, false, false, false, false] rfl rfl (by kernel_rfl) (fun _ _ _ h => h) (Or.inl ⟨by rfl, ?_⟩) hHeld ?_ ?_
      rotate_left
      ·rintro w' ⟨s0, s1, s2, s3, s4, s5, s6, s7, s8, s9⟩
       go_simp
       with_reducible rfl
      rotate_left
      ·simp only [Act.put, List.setIfInBounds_toArray, List.set_cons_zero, List.set_cons_succ, i64_w, i32_w]
       rfl
      refine pure_ (i := 21) (N := some 33) (v := ?_) (a' := ?_) #[true, true, true, true, true, true, true, true, true, true, true, true, true, true, true, true, true, true, true, true, true, true, false, false, false, false, false, false, false, false, false, false, false] rfl rfl (by kernel_rfl) (fun _ _ _ h => h) (Or.inl ⟨by rfl, ?_⟩) ?_ ?_
      rotate_left
      ·intro w'
       go_simp
       with_reducible rfl
      rotate_left
      ·simp only [Act.put, List.setIfInBounds_toArray, List.set_cons_zero, List.set_cons_succ, i64_w, i32_w]
       rfl
      refine take_ (i := 22) (N := some 34) (v := ?_) (a' := ?_) #[true, true, true, true, true, true, true, true, true, true, true, true, true, true, true, true, true, true, true, true, true, true, true, false, false, false, false, false, false, false, false, false, false] rfl rfl (by kernel_rfl) (fun _ _ _ h => h) (Or.inl ⟨by rfl, ?_⟩) hHeld ?_ ?_
      rotate_left
      ·rintro w' ⟨s0, s1, s2, s3, s4, s5, s6, s7, s8, s9⟩
       go_simp
       with_reducible rfl
      rotate_left
      ·simp only [Act.put, List.setIfInBounds_toArray, List.set_cons_zero, List.set_cons_succ, i64_w, i32_w]
       rfl
      refine pure_ (i := 23) (N := some 35) (v := ?_) (a' := ?_) #[true, true, true, true, true, true, true, true, true, true, true, true, true, true, true, true, true, true, true, true, true, true, true, true, false, false, false, false, false, false, false, false, false] rfl rfl (by kernel_rfl) (fun _ _ _ h => h) (Or.inl ⟨by rfl, ?_⟩) ?_ ?_
      rotate_left
      ·intro w'
       go_simp
       with_reducible rfl
      rotate_left
      ·simp only [Act.put, List.setIfInBounds_toArray, List.set_cons_zero, List.set_cons_succ, i64_w, i32_w]
       rfl
      refine take_ (i := 24) (N := some 36) (v := ?_) (a' := ?_) #[true, true, true, true, true, true, true, true, true, true, true, true, true, true, true, true, true, true, true, true, true, true, true, true, true, false, false, false, false, false, false, false, false] rfl rfl (by kernel_rfl) (fun _ _ _ h => h) (Or.inl ⟨by rfl, ?_⟩) hHeld ?_ ?_
      rotate_left
      ·rintro w' ⟨s0, s1, s2, s3, s4, s5, s6, s7, s8, s9⟩
       go_simp
       with_reducible rfl
      rotate_left
      ·simp only [Act.put, List.setIfInBounds_toArray, List.set_cons_zero, List.set_cons_succ, i64_w, i32_w]
       rfl
      refine pure_ (i := 25) (N := some 37) (v := ?_) (a' := ?_) #[true, true, true, true, true, true, true, true, true, true, true, true, true, true, true, true, true, true, true, true, true, true, true, true, true, true, false, false, false, false, false, false, false] rfl rfl (by kernel_rfl) (fun _ _ _ h => h) (Or.inl ⟨by rfl, ?_⟩) ?_ ?_
      rotate_left
      ·intro w'
       go_simp
       with_reducible rfl
      rotate_left
      ·simp only [Act.put, List.setIfInBounds_toArray, List.set_cons_zero, List.set_cons_succ, i64_w, i32_w]
       rfl
      refine take_ (i := 26) (N := some 38) (v := ?_) (a' := ?_) #[true, true, true, true, true, true, true, true, true, true, true, true, true, true, true, true, true, true, true, true, true, true, true, true, true, true, true, false, false, false, false, false, false] rfl rfl (by kernel_rfl) (fun _ _ _ h => h) (Or.inl ⟨by rfl, ?_⟩) hHeld ?_ ?_
      rotate_left
      ·rintro w' ⟨s0, s1, s2, s3, s4, s5, s6, s7, s8, s9⟩
       go_simp
       with_reducible rfl
      rotate_left
      ·simp only [Act.put, List.setIfInBounds_toArray, List.set_cons_zero, List.set_cons_succ, i64_w, i32_w]
       rfl
      refine pure_ (i := 27) (N := some 39) (v := ?_) (a' := ?_) #[true, true, true, true, true, true, true, true, true, true, true, true, true, true, true, true, true, true, true, true, true, true, true, true, true, true, true, true, false, false, false, false, false] rfl rfl (by kernel_rfl) (fun _ _ _ h => h) (Or.inl ⟨by rfl, ?_⟩) ?_ ?_
      rotate_left
      ·intro w'
       go_simp
       with_reducible rfl
      rotate_left
      ·simp only [Act.put, List.setIfInBounds_toArray, List.set_cons_zero, List.set_cons_succ, i64_w, i32_w]
       rfl
      refine take_ (i := 28) (N := some 40) (v := ?_) (a' := ?_) #[true, true, true, true, true, true, true, true, true, true, true, true, true, true, true, true, true, true, true, true, true, true, true, true, true, true, true, true, true, false, false, false, false] rfl rfl (by kernel_rfl) (fun _ _ _ h => h) (Or.inl ⟨by rfl, ?_⟩) hHeld ?_ ?_
      rotate_left
      ·rintro w' ⟨s0, s1, s2, s3, s4, s5, s6, s7, s8, s9⟩
       go_simp
       with_reducible rfl
      rotate_left
      ·simp only [Act.put, List.setIfInBounds_toArray, List.set_cons_zero, List.set_cons_succ, i64_w, i32_w]
       rfl
      refine pure_ (i := 29) (N := some 41) (v := ?_) (a' := ?_) #[true, true, true, true, true, true, true, true, true, true, true, true, true, true, true, true, true, true, true, true, true, true, true, true, true, true, true, true, true, true, false, false, false] rfl rfl (by kernel_rfl) (fun _ _ _ h => h) (Or.inl ⟨by rfl, ?_⟩) ?_ ?_
      rotate_left
      ·intro w'
       go_simp
       with_reducible rfl
      rotate_left
      ·simp only [Act.put, List.setIfInBounds_toArray, List.set_cons_zero, List.set_cons_succ, i64_w, i32_w]
       rfl
      refine one_ (i := 30) (N := some 42) #[true, true, true, true, true, true, true, true, true, true, true, true, true, true, true, true, true, true, true, true, true, true, true, true, true, true, true, true, true, true, true, false, false] rfl rfl (by kernel_rfl) (by decide) (fun K hK => ?_)
      refine goes_ Tryd.func43 (by kernel_rfl) rfl #[.agg #[.string x.f0, .string x.f1, .int .u8 x.f3, .int .i64 x.f4.f0, .int .i64 x.f4.f1, .int .i64 x.f4.f2, .int .i64 x.f4.f3, .slice A7 x.f5.length c7]] (by rfl) rfl rfl (by first | rfl | (simp [Act.eval]; done)) ?_
      refine (member_Good.calls kg x.f0 x.f1 x.f3 x.f4.f0 x.f4.f1 x.f4.f2 x.f4.f3 A7 c7 x.f5 gd wq ⟨by rw [← hwq]; exact Tabs.below HTA.out (below_drew (below_alloc (Below.refl _ _) _))⟩ (by rw [← hwq]; exact Kd.C_drew (HCA.out _)) hl7' HKG.out).mono ?_
      rintro e w5 ⟨rfl, hb5⟩
      refine ⟨_, rfl, ?_⟩
      refine hK.out _ _ ⟨bkeep hb5 hHeld.1, bkeep hb5 hHeld.2.1, bkeep hb5 hHeld.2.2.1, bkeep hb5 hHeld.2.2.2.1, bkeep hb5 hHeld.2.2.2.2.1, bkeep hb5 hHeld.2.2.2.2.2.1, bkeep hb5 hHeld.2.2.2.2.2.2.1, bkeep hb5 hHeld.2.2.2.2.2.2.2.1, bkeep hb5 hHeld.2.2.2.2.2.2.2.2.1, bkeep hb5 hHeld.2.2.2.2.2.2.2.2.2⟩ (fun hHeld => ?_)
      clear hK K
      refine norm_ (a' := ?_) ?_ ?_
      rotate_left
      ·show Act.put _ (some 42) _ = _
       simp only [Act.put, List.setIfInBounds_toArray, List.set_cons_zero, List.set_cons_succ, i64_w, i32_w]
       rfl
      refine pure_ (i := 31) (N := some 43) (v := ?_) (a' := ?_) #[true, true, true, true, true, true, true, true, true, true, true, true, true, true, true, true, true, true, true, true, true, true, true, true, true, true, true, true, true, true, true, true, false] rfl rfl (by kernel_rfl) (fun _ _ _ h => h) (Or.inl ⟨by rfl, ?_⟩) ?_ ?_
      rotate_left
      ·intro w'
       go_simp
       with_reducible rfl
      rotate_left
      ·simp only [Act.put, List.setIfInBounds_toArray, List.set_cons_zero, List.set_cons_succ, i64_w, i32_w]
       rfl
      refine pure_ (i := 32) (N := some 44) (v := ?_) (a' := ?_) #[true, true, true, true, true, true, true, true, true, true, true, true, true, true, true, true, true, true, true, true, true, true, true, true, true, true, true, true, true, true, true, true, true] rfl rfl (by kernel_rfl) (fun _ _ _ h => h) (Or.inl ⟨by rfl, ?_⟩) ?_ ?_
      rotate_left
      ·intro w'
       go_simp
       with_reducible rfl
      rotate_left
      ·simp only [Act.put, List.setIfInBounds_toArray, List.set_cons_zero, List.set_cons_succ, i64_w, i32_w]
       rfl
      refine done_ (by kernel_rfl) ?_
      go_wp2_with (fail)
      go_meet
      exact ⟨!gd, rfl, ⟨by unfold headOk'; rw [← HX.out, HGD.out, decide_eq_false H49.out, decide_eq_true (show n.toNat = 0 by have := HN0.out; omega)]; simp, (show Below wr.heap.size wr wq from by rw [← hwq]; exact below_drew (below_alloc (Below.refl _ _) _)).trans (hb5.mono (by rw [← hwq]; show wr.heap.size ≤ (wr.alloc (.cells #[.string x.f0, .string x.f1, .string x.f2, .int .u8 x.f3, .int .i64 x.f4.f0, .int .i64 x.f4.f1, .int .i64 x.f4.f2, .int .i64 x.f4.f3, .slice A7 x.f5.length c7] 40)).heap.size; rw [World.size_alloc]; omega))⟩⟩
     ·have g1 : decide (0 < n) = true := decide_eq_true (by omega)
      have g2 : decide (n > 0) = true := decide_eq_true (by omega)
      obtain ⟨j, hj⟩ : ∃ j, j = n - 1 := ⟨_, rfl⟩
      have hn1 : 0 ≤ j := by omega
      have hn2 : j < (l.length : Int) := by omega
      obtain ⟨ad', _, _, hA, hp0, _⟩ := at_T40 (Kd.C_below HC.out HB.out) j hn1 hn2
      cases hA
      have hy := rdN_at l j hn1 hn2
      generalize hy0 : (rd_T40 l j).f0 = y0 at hp0
      rw [hy] at hy0
      have HN0 := Aside0.mk hn0
      have HY := Aside0.mk hy0
      have hw64 : wrap64 (n - 1) = j := by unfold wrap64; omega
      have HJ := Aside0.mk hj
      clear hn0 hy hy0 hj
      cases hls : Op.bytesLess y0.toList x.f0.toList with
      | false =>
       refine start_ (n := 33) (S := fun w' => w'.cell? ⟨wr.heap.size, 0, none⟩ = some (.string x.f0) ∧ w'.cell? ⟨wr.heap.size, 1, none⟩ = some (.string x.f1) ∧ w'.cell? ⟨wr.heap.size, 2, none⟩ = some (.string x.f2) ∧ w'.cell? ⟨wr.heap.size, 3, none⟩ = some (.int .u8 x.f3) ∧ w'.cell? ⟨wr.heap.size, 4, none⟩ = some (.int .i64 x.f4.f0) ∧ w'.cell? ⟨wr.heap.size, 5, none⟩ = some (.int .i64 x.f4.f1) ∧ w'.cell? ⟨wr.heap.size, 6, none⟩ = some (.int .i64 x.f4.f2) ∧ w'.cell? ⟨wr.heap.size, 7, none⟩ = some (.int .i64 x.f4.f3) ∧ w'.cell? ⟨wr.heap.size, 8, none⟩ = some (.slice A7 x.f5.length c7) ∧ w'.cell? ⟨W.heap.size, 0, none⟩ = some (.slice (some ad) l.length c0) ∧ w'.cell? (ad.add (j.toNat * 9)) = some (.string y0)) (ds := []) #[false, false, false, false, false, false, false, false, false, false, false, false, false, false, false, false, false, false, false, false, false, false, false, false, false, false, false, false, false, false, false, false, false] (by kernel_rfl) rfl rfl ⟨by simp, by simp, by simp, by simp, by simp, by simp, by simp, by simp, by simp, acell hbox _, acell hp0 _⟩ (fun hHeld => ?_)
       generalize hwq : (wr.alloc (.cells #[.string x.f0, .string x.f1, .string x.f2, .int .u8 x.f3, .int .i64 x.f4.f0, .int .i64 x.f4.f1, .int .i64 x.f4.f2, .int .i64 x.f4.f3, .slice A7 x.f5.length c7] 40)).drew = wq at hHeld ⊢
       refine pure_ (i := 0) (N := some 12) (v := ?_) (a' := ?_) #[true, false, false, false, false, false, false, false, false, false, false, false, false, false, false, false, false, false, false, false, false, false, false, false, false, false, false, false, false, false, false, false, false] rfl rfl (by kernel_rfl) (fun _ _ _ h => h) (Or.inl ⟨by rfl, ?_⟩) ?_ ?_
       rotate_left
       ·intro w'
        go_simp
        with_reducible rfl
       rotate_left
       ·simp only [Act.put, List.setIfInBounds_toArray, List.set_cons_zero, List.set_cons_succ, i64_w, i32_w]
        rfl
       refine take_ (i := 1) (N := some 13) (v := ?_) (a' := ?_) #[true, true, false, false, false, false, false, false, false, false, false, false, false, false, false, false, false, false, false, false, false, false, false, false, false, false, false, false, false, false, false, false, false] rfl rfl (by kernel_rfl) (fun _ _ _ h => h) (Or.inl ⟨by rfl, ?_⟩) hHeld ?_ ?_
       rotate_left
       ·rintro w' ⟨s0, s1, s2, s3, s4, s5, s6, s7, s8, s9, s10⟩
        go_simp
        with_reducible rfl
       rotate_left
       ·simp only [Act.put, List.setIfInBounds_toArray, List.set_cons_zero, List.set_cons_succ, i64_w, i32_w]
        rfl
       refine pure_ (i := 2) (N := some 14) (v := ?_) (a' := ?_) #[true, true, true, false, false, false, false, false, false, false, false, false, false, false, false, false, false, false, false, false, false, false, false, false, false, false, false, false, false, false, false, false, false] rfl rfl (by kernel_rfl) (fun _ _ _ h => h) (Or.inl ⟨by rfl, ?_⟩) ?_ ?_
       rotate_left
       ·intro w'
        go_simp
        with_reducible rfl
       rotate_left
       ·simp only [Act.put, List.setIfInBounds_toArray, List.set_cons_zero, List.set_cons_succ, i64_w, i32_w]
        rfl
       refine pure_ (i := 3) (N := some 15) (v := ?_) (a' := ?_) #[true, true, true, true, false, false, false, false, false, false, false, false, false, false, false, false, false, false, false, false, false, false, false, false, false, false, false, false, false, false, false, false, false] rfl rfl (by kernel_rfl) (fun _ _ _ h => h) (Or.inl ⟨by rfl, ?_⟩) ?_ ?_
       rotate_left
       ·intro w'
        go_simp
        with_reducible rfl
       rotate_left
       ·simp only [Act.put, List.setIfInBounds_toArray, List.set_cons_zero, List.set_cons_succ, i64_w, i32_w]
        rfl
       refine pure_ (i := 4) (N := some 16) (v := ?_) (a' := ?_) #[true, true, true, true, true, false, false, false, false, false, false, false, false, false, false, false, false, false, false, false, false, false, false, false, false, false, false, false, false, false, false, false, false] rfl rfl (by kernel_rfl) (fun _ _ _ h => h) (Or.inl ⟨by rfl, ?_⟩) ?_ ?_
       rotate_left
       ·intro w'
        go_simp
        with_reducible rfl
       rotate_left
       ·simp only [Act.put, List.setIfInBounds_toArray, List.set_cons_zero, List.set_cons_succ, i64_w, i32_w]
        rfl
       refine pure_ (i := 5) (N := some 17) (v := ?_) (a' := ?_) #[true, true, true, true, true, true, false, false, false, false, false, false, false, false, false, false, false, false, false, false, false, false, false, false, false, false, false, false, false, false, false, false, false] rfl rfl (by kernel_rfl) (fun _ _ _ h => h) (Or.inl ⟨by rfl, ?_⟩) ?_ ?_
       rotate_left
       ·intro w'
        go_simp
        with_reducible rfl
       rotate_left
       ·simp only [Act.put, List.setIfInBounds_toArray, List.set_cons_zero, List.set_cons_succ, i64_w, i32_w]
        rfl
       refine pure_ (i := 6) (N := some 18) (v := ?_) (a' := ?_) #[true, true, true, true, true, true, true, false, false, false, false, false, false, false, false, false, false, false, false, false, false, false, false, false, false, false, false, false, false, false, false, false, false] rfl rfl (by kernel_rfl) (fun _ _ _ h => h) (Or.inl ⟨by rfl, ?_⟩) ?_ ?_
       rotate_left
       ·intro w'
        go_simp
        with_reducible rfl
       rotate_left
       ·simp only [Act.put, List.setIfInBounds_toArray, List.set_cons_zero, List.set_cons_succ, i64_w, i32_w]
        rfl
       refine take_ (i := 7) (N := some 19) (v := ?_) (a' := ?_) #[true, true, true, true, true, true, true, true, false, false, false, false, false, false, false, false, false, false, false, false, false, false, false, false, false, false, false, false, false, false, false, false, false] rfl rfl (by kernel_rfl) (fun _ _ _ h => h) (Or.inl ⟨by rfl, ?_⟩) hHeld ?_ ?_
       rotate_left
       ·rintro w' ⟨s0, s1, s2, s3, s4, s5, s6, s7, s8, s9, s10⟩
        go_simp
        with_reducible rfl
       rotate_left
       ·simp only [Act.put, List.setIfInBounds_toArray, List.set_cons_zero, List.set_cons_succ, i64_w, i32_w]
        rfl
       refine pure_ (i := 8) (N := some 20) (v := ?_) (a' := ?_) #[true, true, true, true, true, true, true, true, true, false, false, false, false, false, false, false, false, false, false, false, false, false, false, false, false, false, false, false, false, false, false, false, false] rfl rfl (by kernel_rfl) (fun _ _ _ h => h) (Or.inl ⟨by rfl, ?_⟩) ?_ ?_
       rotate_left
       ·intro w'
        go_simp
        with_reducible rfl
       rotate_left
       ·simp only [Act.put, List.setIfInBounds_toArray, List.set_cons_zero, List.set_cons_succ, i64_w, i32_w]
        rfl
       refine pure_ (i := 9) (N := some 21) (v := ?_) (a' := ?_) #[true, true, true, true, true, true, true, true, true, true, false, false, false, false, false, false, false, false, false, false, false, false, false, false, false, false, false, false, false, false, false, false, false] rfl rfl (by kernel_rfl) (fun _ _ _ h => h) (Or.inl ⟨by rfl, ?_⟩) ?_ ?_
       rotate_left
       ·intro w'
        go_simp
        with_reducible rfl
       rotate_left
       ·simp only [Act.put, List.setIfInBounds_toArray, List.set_cons_zero, List.set_cons_succ, i64_w, i32_w]
        rfl
       refine pure_ (i := 10) (N := some 22) (v := ?_) (a' := ?_) #[true, true, true, true, true, true, true, true, true, true, true, false, false, false, false, false, false, false, false, false, false, false, false, false, false, false, false, false, false, false, false, false, false] rfl rfl (by kernel_rfl) (fun _ _ _ h => h) (Or.inl ⟨by rfl, ?_⟩) ?_ ?_
       rotate_left
       ·intro w'
        go_simp
        with_reducible rfl
       rotate_left
       ·simp only [Act.put, List.setIfInBounds_toArray, List.set_cons_zero, List.set_cons_succ, i64_w, i32_w]
        rfl
       refine pure_ (i := 11) (N := some 23) (v := ?_) (a' := ?_) #[true, true, true, true, true, true, true, true, true, true, true, true, false, false, false, false, false, false, false, false, false, false, false, false, false, false, false, false, false, false, false, false, false] rfl rfl (by kernel_rfl) (fun _ _ _ h => h) (Or.inl ⟨by rfl, ?_⟩) ?_ ?_
       rotate_left
       ·intro w'
        go_simp
        with_reducible rfl
       rotate_left
       ·simp only [Act.put, List.setIfInBounds_toArray, List.set_cons_zero, List.set_cons_succ, i64_w, i32_w]
        rfl
       refine take_ (i := 12) (N := some 24) (v := ?_) (a' := ?_) #[true, true, true, true, true, true, true, true, true, true, true, true, true, false, false, false, false, false, false, false, false, false, false, false, false, false, false, false, false, false, false, false, false] rfl rfl (by kernel_rfl) (fun _ _ _ h => h) (Or.inl ⟨by rfl, ?_⟩) hHeld ?_ ?_
       rotate_left
       ·rintro w' ⟨s0, s1, s2, s3, s4, s5, s6, s7, s8, s9, s10⟩
        go_simp
        with_reducible rfl
       rotate_left
       ·simp only [Act.put, List.setIfInBounds_toArray, List.set_cons_zero, List.set_cons_succ, i64_w, i32_w]
        rfl
       refine pure_ (i := 13) (N := some 25) (v := ?_) (a' := ?_) #[true, true, true, true, true, true, true, true, true, true, true, true, true, true, false, false, false, false, false, false, false, false, false, false, false, false, false, false, false, false, false, false, false] rfl rfl (by kernel_rfl) (fun _ _ _ h => h) (Or.inl ⟨by rfl, ?_⟩) ?_ ?_
       rotate_left
       ·intro w'
        go_simp
        with_reducible rfl
       rotate_left
       ·simp only [Act.put, List.setIfInBounds_toArray, List.set_cons_zero, List.set_cons_succ, i64_w, i32_w]
        rfl
       refine take_ (i := 14) (N := some 26) (v := ?_) (a' := ?_) #[true, true, true, true, true, true, true, true, true, true, true, true, true, true, true, false, false, false, false, false, false, false, false, false, false, false, false, false, false, false, false, false, false] rfl rfl (by kernel_rfl) (fun _ _ _ h => h) (Or.inl ⟨by rfl, ?_⟩) hHeld ?_ ?_
       rotate_left
       ·rintro w' ⟨s0, s1, s2, s3, s4, s5, s6, s7, s8, s9, s10⟩
        go_simp
        with_reducible rfl
       rotate_left
       ·simp only [Act.put, List.setIfInBounds_toArray, List.set_cons_zero, List.set_cons_succ, i64_w, i32_w]
        rfl
       refine pure_ (i := 15) (N := some 27) (v := ?_) (a' := ?_) #[true, true, true, true, true, true, true, true, true, true, true, true, true, true, true, true, false, false, false, false, false, false, false, false, false, false, false, false, false, false, false, false, false] rfl rfl (by kernel_rfl) (fun _ _ _ h => h) (Or.inl ⟨by rfl, ?_⟩) ?_ ?_
       rotate_left
       ·intro w'
        go_simp
        with_reducible rfl
       rotate_left
       ·simp only [Act.put, List.setIfInBounds_toArray, List.set_cons_zero, List.set_cons_succ, i64_w, i32_w]
        rfl
       refine pure_ (i := 16) (N := some 28) (v := ?_) (a' := ?_) #[true, true, true, true, true, true, true, true, true, true, true, true, true, true, true, true, true, false, false, false, false, false, false, false, false, false, false, false, false, false, false, false, false] rfl rfl (by kernel_rfl) (fun _ _ _ h => h) (Or.inl ⟨by rfl, ?_⟩) ?_ ?_
       rotate_left
       ·intro w'
        go_simp
        with_reducible rfl
       rotate_left
       ·simp only [Act.put, List.setIfInBounds_toArray, List.set_cons_zero, List.set_cons_succ, i64_w, i32_w]
        rfl
       refine pure_ (i := 17) (N := some 29) (v := ?_) (a' := ?_) #[true, true, true, true, true, true, true, true, true, true, true, true, true, true, true, true, true, true, false, false, false, false, false, false, false, false, false, false, false, false, false, false, false] rfl rfl (by kernel_rfl) (fun _ _ _ h => h) (Or.inl ⟨by rfl, ?_⟩) ?_ ?_
       rotate_left
       ·intro w'
        go_simp
        with_reducible rfl
       rotate_left
       ·simp only [Act.put, List.setIfInBounds_toArray, List.set_cons_zero, List.set_cons_succ, i64_w, i32_w]
        rfl
       refine pure_ (i := 18) (N := some 30) (v := ?_) (a' := ?_) #[true, true, true, true, true, true, true, true, true, true, true, true, true, true, true, true, true, true, true, false, false, false, false, false, false, false, false, false, false, false, false, false, false] rfl rfl (by kernel_rfl) (fun _ _ _ h => h) (Or.inl ⟨by rfl, ?_⟩) ?_ ?_
       rotate_left
       ·intro w'
        go_simp
        with_reducible rfl
       rotate_left
       ·simp only [Act.put, List.setIfInBounds_toArray, List.set_cons_zero, List.set_cons_succ, i64_w, i32_w]
        rfl
       refine pure_ (i := 19) (N := some 31) (v := undef) (a' := ?_) #[true, true, true, true, true, true, true, true, true, true, true, true, true, true, true, true, true, true, true, true, false, false, false, false, false, false, false, false, false, false, false, false, false] rfl rfl (by kernel_rfl) (fun _ _ _ h => h) (Or.inr ⟨by rfl, rfl⟩) ?_ ?_
       rotate_left
       ·simp only [Act.put, List.setIfInBounds_toArray, List.set_cons_zero, List.set_cons_succ, i64_w, i32_w]
        rfl
       refine pure_ (i := 20) (N := some 32) (v := undef) (a' := ?_) #[true, true, true, true, true, true, true, true, true, true, true, true, true, true, true, true, true, true, true, true, true, false, false, false, false, false, false, false, false, false, false, false, false] rfl rfl (by kernel_rfl) (fun _ _ _ h => h) (Or.inr ⟨by rfl, rfl⟩) ?_ ?_
       rotate_left
       ·simp only [Act.put, List.setIfInBounds_toArray, List.set_cons_zero, List.set_cons_succ, i64_w, i32_w]
        rfl
       refine pure_ (i := 21) (N := some 33) (v := undef) (a' := ?_) #[true, true, true, true, true, true, true, true, true, true, true, true, true, true, true, true, true, true, true, true, true, true, false, false, false, false, false, false, false, false, false, false, false] rfl rfl (by kernel_rfl) (fun _ _ _ h => h) (Or.inr ⟨by rfl, rfl⟩) ?_ ?_
       rotate_left
       ·simp only [Act.put, List.setIfInBounds_toArray, List.set_cons_zero, List.set_cons_succ, i64_w, i32_w]
        rfl
       refine pure_ (i := 22) (N := some 34) (v := undef) (a' := ?_) #[true, true, true, true, true, true, true, true, true, true, true, true, true, true, true, true, true, true, true, true, true, true, true, false, false, false, false, false, false, false, false, false, false] rfl rfl (by kernel_rfl) (fun _ _ _ h => h) (Or.inr ⟨by rfl, rfl⟩) ?_ ?_
       rotate_left
       ·simp only [Act.put, List.setIfInBounds_toArray, List.set_cons_zero, List.set_cons_succ, i64_w, i32_w]
        rfl
       refine pure_ (i := 23) (N := some 35) (v := undef) (a' := ?_) #[true, true, true, true, true, true, true, true, true, true, true, true, true, true, true, true, true, true, true, true, true, true, true, true, false, false, false, false, false, false, false, false, false] rfl rfl (by kernel_rfl) (fun _ _ _ h => h) (Or.inr ⟨by rfl, rfl⟩) ?_ ?_
       rotate_left
       ·simp only [Act.put, List.setIfInBounds_toArray, List.set_cons_zero, List.set_cons_succ, i64_w, i32_w]
        rfl
       refine pure_ (i := 24) (N := some 36) (v := undef) (a' := ?_) #[true, true, true, true, true, true, true, true, true, true, true, true, true, true, true, true, true, true, true, true, true, true, true, true, true, false, false, false, false, false, false, false, false] rfl rfl (by kernel_rfl) (fun _ _ _ h => h) (Or.inr ⟨by rfl, rfl⟩) ?_ ?_
       rotate_left
       ·simp only [Act.put, List.setIfInBounds_toArray, List.set_cons_zero, List.set_cons_succ, i64_w, i32_w]
        rfl
       refine pure_ (i := 25) (N := some 37) (v := undef) (a' := ?_) #[true, true, true, true, true, true, true, true, true, true, true, true, true, true, true, true, true, true, true, true, true, true, true, true, true, true, false, false, false, false, false, false, false] rfl rfl (by kernel_rfl) (fun _ _ _ h => h) (Or.inr ⟨by rfl, rfl⟩) ?_ ?_
       rotate_left
       ·simp only [Act.put, List.setIfInBounds_toArray, List.set_cons_zero, List.set_cons_succ, i64_w, i32_w]
        rfl
       refine pure_ (i := 26) (N := some 38) (v := undef) (a' := ?_) #[true, true, true, true, true, true, true, true, true, true, true, true, true, true, true, true, true, true, true, true, true, true, true, true, true, true, true, false, false, false, false, false, false] rfl rfl (by kernel_rfl) (fun _ _ _ h => h) (Or.inr ⟨by rfl, rfl⟩) ?_ ?_
       rotate_left
       ·simp only [Act.put, List.setIfInBounds_toArray, List.set_cons_zero, List.set_cons_succ, i64_w, i32_w]
        rfl
       refine pure_ (i := 27) (N := some 39) (v := undef) (a' := ?_) #[true, true, true, true, true, true, true, true, true, true, true, true, true, true, true, true, true, true, true, true, true, true, true, true, true, true, true, true, false, false, false, false, false] rfl rfl (by kernel_rfl) (fun _ _ _ h => h) (Or.inr ⟨by rfl, rfl⟩) ?_ ?_
       rotate_left
       ·simp only [Act.put, List.setIfInBounds_toArray, List.set_cons_zero, List.set_cons_succ, i64_w, i32_w]
        rfl
       refine pure_ (i := 28) (N := some 40) (v := undef) (a' := ?_) #[true, true, true, true, true, true, true, true, true, true, true, true, true, true, true, true, true, true, true, true, true, true, true, true, true, true, true, true, true, false, false, false, false] rfl rfl (by kernel_rfl) (fun _ _ _ h => h) (Or.inr ⟨by rfl, rfl⟩) ?_ ?_
       rotate_left
       ·simp only [Act.put, List.setIfInBounds_toArray, List.set_cons_zero, List.set_cons_succ, i64_w, i32_w]
        rfl
       refine pure_ (i := 29) (N := some 41) (v := undef) (a' := ?_) #[true, true, true, true, true, true, true, true, true, true, true, true, true, true, true, true, true, true, true, true, true, true, true, true, true, true, true, true, true, true, false, false, false] rfl rfl (by kernel_rfl) (fun _ _ _ h => h) (Or.inr ⟨by rfl, rfl⟩) ?_ ?_
       rotate_left
       ·simp only [Act.put, List.setIfInBounds_toArray, List.set_cons_zero, List.set_cons_succ, i64_w, i32_w]
        rfl
       refine pure_ (i := 30) (N := some 42) (v := undef) (a' := ?_) #[true, true, true, true, true, true, true, true, true, true, true, true, true, true, true, true, true, true, true, true, true, true, true, true, true, true, true, true, true, true, true, false, false] rfl rfl (by kernel_rfl) (fun _ _ _ h => h) (Or.inr ⟨by rfl, rfl⟩) ?_ ?_
       rotate_left
       ·simp only [Act.put, List.setIfInBounds_toArray, List.set_cons_zero, List.set_cons_succ, i64_w, i32_w]
        rfl
       refine pure_ (i := 31) (N := some 43) (v := undef) (a' := ?_) #[true, true, true, true, true, true, true, true, true, true, true, true, true, true, true, true, true, true, true, true, true, true, true, true, true, true, true, true, true, true, true, true, false] rfl rfl (by kernel_rfl) (fun _ _ _ h => h) (Or.inr ⟨by rfl, rfl⟩) ?_ ?_
       rotate_left
       ·simp only [Act.put, List.setIfInBounds_toArray, List.set_cons_zero, List.set_cons_succ, i64_w, i32_w]
        rfl
       refine pure_ (i := 32) (N := some 44) (v := ?_) (a' := ?_) #[true, true, true, true, true, true, true, true, true, true, true, true, true, true, true, true, true, true, true, true, true, true, true, true, true, true, true, true, true, true, true, true, true] rfl rfl (by kernel_rfl) (fun _ _ _ h => h) (Or.inl ⟨by rfl, ?_⟩) ?_ ?_
       rotate_left
       ·intro w'
        go_simp
        with_reducible rfl
       rotate_left
       ·simp only [Act.put, List.setIfInBounds_toArray, List.set_cons_zero, List.set_cons_succ, i64_w, i32_w]
        rfl
       refine done_ (by kernel_rfl) ?_
       clear hw64
       go_wp2_with (fail)
       go_meet
       exact ⟨true, rfl, ⟨by unfold headOk'; rw [← HX.out, decide_eq_false (show ¬ n.toNat = 0 by have := HN0.out; omega), show lt (l[n.toNat - 1]'(by have := HNL.out; omega)).f0 x.f0 = false from (prev_lt' HY.out HJ.out hls)]; simp, by rw [← hwq]; exact below_drew (below_alloc (Below.refl _ _) _)⟩⟩
      | true =>
       refine start_ (n := 33) (S := fun w' => w'.cell? ⟨wr.heap.size, 0, none⟩ = some (.string x.f0) ∧ w'.cell? ⟨wr.heap.size, 1, none⟩ = some (.string x.f1) ∧ w'.cell? ⟨wr.heap.size, 2, none⟩ = some (.string x.f2) ∧ w'.cell? ⟨wr.heap.size, 3, none⟩ = some (.int .u8 x.f3) ∧ w'.cell? ⟨wr.heap.size, 4, none⟩ = some (.int .i64 x.f4.f0) ∧ w'.cell? ⟨wr.heap.size, 5, none⟩ = some (.int .i64 x.f4.f1) ∧ w'.cell? ⟨wr.heap.size, 6, none⟩ = some (.int .i64 x.f4.f2) ∧ w'.cell? ⟨wr.heap.size, 7, none⟩ = some (.int .i64 x.f4.f3) ∧ w'.cell? ⟨wr.heap.size, 8, none⟩ = some (.slice A7 x.f5.length c7) ∧ w'.cell? ⟨W.heap.size, 0, none⟩ = some (.slice (some ad) l.length c0) ∧ w'.cell? (ad.add (j.toNat * 9)) = some (.string y0)) (ds := []) #[false, false, false, false, false, false, false, false, false, false, false, false, false, false, false, false, false, false, false, false, false, false, false, false, false, false, false, false, false, false, false, false, false] (by kernel_rfl) rfl rfl ⟨by simp, by simp, by simp, by simp, by simp, by simp, by simp, by simp, by simp, acell hbox _, acell hp0 _⟩ (fun hHeld => ?_)
       generalize hwq : (wr.alloc (.cells #[.string x.f0, .string x.f1, .string x.f2, .int .u8 x.f3, .int .i64 x.f4.f0, .int .i64 x.f4.f1, .int .i64 x.f4.f2, .int .i64 x.f4.f3, .slice A7 x.f5.length c7] 40)).drew = wq at hHeld ⊢
       refine pure_ (i := 0) (N := some 12) (v := ?_) (a' := ?_) #[true, false, false, false, false, false, false, false, false, false, false, false, false, false, false, false, false, false, false, false, false, false, false, false, false, false, false, false, false, false, false, false, false] rfl rfl (by kernel_rfl) (fun _ _ _ h => h) (Or.inl ⟨by rfl, ?_⟩) ?_ ?_
       rotate_left
       ·intro w'
        go_simp
        with_reducible rfl
       rotate_left
       ·simp only [Act.put, List.setIfInBounds_toArray, List.set_cons_zero, List.set_cons_succ, i64_w, i32_w]
        rfl
       refine take_ (i := 1) (N := some 13) (v := ?_) (a' := ?_) #[true, true, false, false, false, false, false, false, false, false, false, false, false, false, false, false, false, false, false, false, false, false, false, false, false, false, false, false, false, false, false, false, false] rfl rfl (by kernel_rfl) (fun _ _ _ h => h) (Or.inl ⟨by rfl, ?_⟩) hHeld ?_ ?_
       rotate_left
       ·rintro w' ⟨s0, s1, s2, s3, s4, s5, s6, s7, s8, s9, s10⟩
        go_simp
        with_reducible rfl
       rotate_left
       ·simp only [Act.put, List.setIfInBounds_toArray, List.set_cons_zero, List.set_cons_succ, i64_w, i32_w]
        rfl
       refine pure_ (i := 2) (N := some 14) (v := ?_) (a' := ?_) #[true, true, true, false, false, false, false, false, false, false, false, false, false, false, false, false, false, false, false, false, false, false, false, false, false, false, false, false, false, false, false, false, false] rfl rfl (by kernel_rfl) (fun _ _ _ h => h) (Or.inl ⟨by rfl, ?_⟩) ?_ ?_
       rotate_left
       ·intro w'
        go_simp
        with_reducible rfl
       rotate_left
       ·simp only [Act.put, List.setIfInBounds_toArray, List.set_cons_zero, List.set_cons_succ, i64_w, i32_w]
        rfl
       refine pure_ (i := 3) (N := some 15) (v := ?_) (a' := ?_) #[true, true, true, true, false, false, false, false, false, false, false, false, false, false, false, false, false, false, false, false, false, false, false, false, false, false, false, false, false, false, false, false, false] rfl rfl (by kernel_rfl) (fun _ _ _ h => h) (Or.inl ⟨by rfl, ?_⟩) ?_ ?_
       rotate_left
       ·intro w'
        go_simp
        with_reducible rfl
       rotate_left
       ·simp only [Act.put, List.setIfInBounds_toArray, List.set_cons_zero, List.set_cons_succ, i64_w, i32_w]
        rfl
       refine pure_ (i := 4) (N := some 16) (v := ?_) (a' := ?_) #[true, true, true, true, true, false, false, false, false, false, false, false, false, false, false, false, false, false, false, false, false, false, false, false, false, false, false, false, false, false, false, false, false] rfl rfl (by kernel_rfl) (fun _ _ _ h => h) (Or.inl ⟨by rfl, ?_⟩) ?_ ?_
       rotate_left
       ·intro w'
        go_simp
        with_reducible rfl
       rotate_left
       ·simp only [Act.put, List.setIfInBounds_toArray, List.set_cons_zero, List.set_cons_succ, i64_w, i32_w]
        rfl
       refine pure_ (i := 5) (N := some 17) (v := ?_) (a' := ?_) #[true, true, true, true, true, true, false, false, false, false, false, false, false, false, false, false, false, false, false, false, false, false, false, false, false, false, false, false, false, false, false, false, false] rfl rfl (by kernel_rfl) (fun _ _ _ h => h) (Or.inl ⟨by rfl, ?_⟩) ?_ ?_
       rotate_left
       ·intro w'
        go_simp
        with_reducible rfl
       rotate_left
       ·simp only [Act.put, List.setIfInBounds_toArray, List.set_cons_zero, List.set_cons_succ, i64_w, i32_w]
        rfl
       refine pure_ (i := 6) (N := some 18) (v := ?_) (a' := ?_) #[true, true, true, true, true, true, true, false, false, false, false, false, false, false, false, false, false, false, false, false, false, false, false, false, false, false, false, false, false, false, false, false, false] rfl rfl (by kernel_rfl) (fun _ _ _ h => h) (Or.inl ⟨by rfl, ?_⟩) ?_ ?_
       rotate_left
       ·intro w'
        go_simp
        with_reducible rfl
       rotate_left
       ·simp only [Act.put, List.setIfInBounds_toArray, List.set_cons_zero, List.set_cons_succ, i64_w, i32_w]
        rfl
       refine take_ (i := 7) (N := some 19) (v := ?_) (a' := ?_) #[true, true, true, true, true, true, true, true, false, false, false, false, false, false, false, false, false, false, false, false, false, false, false, false, false, false, false, false, false, false, false, false, false] rfl rfl (by kernel_rfl) (fun _ _ _ h => h) (Or.inl ⟨by rfl, ?_⟩) hHeld ?_ ?_
       rotate_left
       ·rintro w' ⟨s0, s1, s2, s3, s4, s5, s6, s7, s8, s9, s10⟩
        go_simp
        with_reducible rfl
       rotate_left
       ·simp only [Act.put, List.setIfInBounds_toArray, List.set_cons_zero, List.set_cons_succ, i64_w, i32_w]
        rfl
       refine pure_ (i := 8) (N := some 20) (v := ?_) (a' := ?_) #[true, true, true, true, true, true, true, true, true, false, false, false, false, false, false, false, false, false, false, false, false, false, false, false, false, false, false, false, false, false, false, false, false] rfl rfl (by kernel_rfl) (fun _ _ _ h => h) (Or.inl ⟨by rfl, ?_⟩) ?_ ?_
       rotate_left
       ·intro w'
        go_simp
        with_reducible rfl
       rotate_left
       ·simp only [Act.put, List.setIfInBounds_toArray, List.set_cons_zero, List.set_cons_succ, i64_w, i32_w]
        rfl
       refine pure_ (i := 9) (N := some 21) (v := ?_) (a' := ?_) #[true, true, true, true, true, true, true, true, true, true, false, false, false, false, false, false, false, false, false, false, false, false, false, false, false, false, false, false, false, false, false, false, false] rfl rfl (by kernel_rfl) (fun _ _ _ h => h) (Or.inl ⟨by rfl, ?_⟩) ?_ ?_
       rotate_left
       ·intro w'
        go_simp
        with_reducible rfl
       rotate_left
       ·simp only [Act.put, List.setIfInBounds_toArray, List.set_cons_zero, List.set_cons_succ, i64_w, i32_w]
        rfl
       refine pure_ (i := 10) (N := some 22) (v := ?_) (a' := ?_) #[true, true, true, true, true, true, true, true, true, true, true, false, false, false, false, false, false, false, false, false, false, false, false, false, false, false, false, false, false, false, false, false, false] rfl rfl (by kernel_rfl) (fun _ _ _ h => h) (Or.inl ⟨by rfl, ?_⟩) ?_ ?_
       rotate_left
       ·intro w'
        go_simp
        with_reducible rfl
       rotate_left
       ·simp only [Act.put, List.setIfInBounds_toArray, List.set_cons_zero, List.set_cons_succ, i64_w, i32_w]
        rfl
       refine pure_ (i := 11) (N := some 23) (v := ?_) (a' := ?_) #[true, true, true, true, true, true, true, true, true, true, true, true, false, false, false, false, false, false, false, false, false, false, false, false, false, false, false, false, false, false, false, false, false] rfl rfl (by kernel_rfl) (fun _ _ _ h => h) (Or.inl ⟨by rfl, ?_⟩) ?_ ?_
       rotate_left
       ·intro w'
        go_simp
        with_reducible rfl
       rotate_left
       ·simp only [Act.put, List.setIfInBounds_toArray, List.set_cons_zero, List.set_cons_succ, i64_w, i32_w]
        rfl
       refine take_ (i := 12) (N := some 24) (v := ?_) (a' := ?_) #[true, true, true, true, true, true, true, true, true, true, true, true, true, false, false, false, false, false, false, false, false, false, false, false, false, false, false, false, false, false, false, false, false] rfl rfl (by kernel_rfl) (fun _ _ _ h => h) (Or.inl ⟨by rfl, ?_⟩) hHeld ?_ ?_
       rotate_left
       ·rintro w' ⟨s0, s1, s2, s3, s4, s5, s6, s7, s8, s9, s10⟩
        go_simp
        with_reducible rfl
       rotate_left
       ·simp only [Act.put, List.setIfInBounds_toArray, List.set_cons_zero, List.set_cons_succ, i64_w, i32_w]
        rfl
       refine pure_ (i := 13) (N := some 25) (v := ?_) (a' := ?_) #[true, true, true, true, true, true, true, true, true, true, true, true, true, true, false, false, false, false, false, false, false, false, false, false, false, false, false, false, false, false, false, false, false] rfl rfl (by kernel_rfl) (fun _ _ _ h => h) (Or.inl ⟨by rfl, ?_⟩) ?_ ?_
       rotate_left
       ·intro w'
        go_simp
        with_reducible rfl
       rotate_left
       ·simp only [Act.put, List.setIfInBounds_toArray, List.set_cons_zero, List.set_cons_succ, i64_w, i32_w]
        rfl
       refine take_ (i := 14) (N := some 26) (v := ?_) (a' := ?_) #[true, true, true, true, true, true, true, true, true, true, true, true, true, true, true, false, false, false, false, false, false, false, false, false, false, false, false, false, false, false, false, false, false] rfl rfl (by kernel_rfl) (fun _ _ _ h => h) (Or.inl ⟨by rfl, ?_⟩) hHeld ?_ ?_
       rotate_left
       ·rintro w' ⟨s0, s1, s2, s3, s4, s5, s6, s7, s8, s9, s10⟩
        go_simp
        with_reducible rfl
       rotate_left
       ·simp only [Act.put, List.setIfInBounds_toArray, List.set_cons_zero, List.set_cons_succ, i64_w, i32_w]
        rfl
       refine pure_ (i := 15) (N := some 27) (v := ?_) (a' := ?_) #[true, true, true, true, true, true, true, true, true, true, true, true, true, true, true, true, false, false, false, false, false, false, false, false, false, false, false, false, false, false, false, false, false] rfl rfl (by kernel_rfl) (fun _ _ _ h => h) (Or.inl ⟨by rfl, ?_⟩) ?_ ?_
       rotate_left
       ·intro w'
        go_simp
        with_reducible rfl
       rotate_left
       ·simp only [Act.put, List.setIfInBounds_toArray, List.set_cons_zero, List.set_cons_succ, i64_w, i32_w]
        rfl
       refine pure_ (i := 16) (N := some 28) (v := ?_) (a' := ?_) #[true, true, true, true, true, true, true, true, true, true, true, true, true, true, true, true, true, false, false, false, false, false, false, false, false, false, false, false, false, false, false, false, false] rfl rfl (by kernel_rfl) (fun _ _ _ h => h) (Or.inl ⟨by rfl, ?_⟩) ?_ ?_
       rotate_left
       ·intro w'
        go_simp
        with_reducible rfl
       rotate_left
       ·simp only [Act.put, List.setIfInBounds_toArray, List.set_cons_zero, List.set_cons_succ, i64_w, i32_w]
        rfl
       refine pure_ (i := 17) (N := some 29) (v := ?_) (a' := ?_) #[true, true, true, true, true, true, true, true, true, true, true, true, true, true, true, true, true, true, false, false, false, false, false, false, false, false, false, false, false, false, false, false, false] rfl rfl (by kernel_rfl) (fun _ _ _ h => h) (Or.inl ⟨by rfl, ?_⟩) ?_ ?_
       rotate_left
       ·intro w'
        go_simp
        with_reducible rfl
       rotate_left
       ·simp only [Act.put, List.setIfInBounds_toArray, List.set_cons_zero, List.set_cons_succ, i64_w, i32_w]
        rfl
       refine pure_ (i := 18) (N := some 30) (v := ?_) (a' := ?_) #[true, true, true, true, true, true, true, true, true, true, true, true, true, true, true, true, true, true, true, false, false, false, false, false, false, false, false, false, false, false, false, false, false] rfl rfl (by kernel_rfl) (fun _ _ _ h => h) (Or.inl ⟨by rfl, ?_⟩) ?_ ?_
       rotate_left
       ·intro w'
        go_simp
        with_reducible rfl
       rotate_left
       ·simp only [Act.put, List.setIfInBounds_toArray, List.set_cons_zero, List.set_cons_succ, i64_w, i32_w]
        rfl
       refine pure_ (i := 19) (N := some 31) (v := ?_) (a' := ?_) #[true, true, true, true, true, true, true, true, true, true, true, true, true, true, true, true, true, true, true, true, false, false, false, false, false, false, false, false, false, false, false, false, false] rfl rfl (by kernel_rfl) (fun _ _ _ h => h) (Or.inl ⟨by rfl, ?_⟩) ?_ ?_
       rotate_left
       ·intro w'
        go_simp
        with_reducible rfl
       rotate_left
       ·simp only [Act.put, List.setIfInBounds_toArray, List.set_cons_zero, List.set_cons_succ, i64_w, i32_w]
        rfl
       refine take_ (i := 20) (N := some 32) (v := ?_) (a' := ?_) #[true, true, true, true, true, true, true, true, true, true, true, true, true, true, true, true, true, true, true, true, true, false, false, false, false, false, false, false, false, false, false, false, false] rfl rfl (by kernel_rfl) (fun _ _ _ h => h) (Or.inl ⟨by rfl, ?_⟩) hHeld ?_ ?_
       rotate_left
       ·rintro w' ⟨s0, s1, s2, s3, s4, s5, s6, s7, s8, s9, s10⟩
        go_simp
        with_reducible rfl
       rotate_left
       ·simp only [Act.put, List.setIfInBounds_toArray, List.set_cons_zero, List.set_cons_succ, i64_w, i32_w]
        rfl
       refine pure_ (i := 21) (N := some 33) (v := ?_) (a' := ?_) #[true, true, true, true, true, true, true, true, true, true, true, true, true, true, true, true, true, true, true, true, true, true, false, false, false, false, false, false, false, false, false, false, false] rfl rfl (by kernel_rfl) (fun _ _ _ h => h) (Or.inl ⟨by rfl, ?_⟩) ?_ ?_
       rotate_left
       ·intro w'
        go_simp
        with_reducible rfl
       rotate_left
       ·simp only [Act.put, List.setIfInBounds_toArray, List.set_cons_zero, List.set_cons_succ, i64_w, i32_w]
        rfl
       refine take_ (i := 22) (N := some 34) (v := ?_) (a' := ?_) #[true, true, true, true, true, true, true, true, true, true, true, true, true, true, true, true, true, true, true, true, true, true, true, false, false, false, false, false, false, false, false, false, false] rfl rfl (by kernel_rfl) (fun _ _ _ h => h) (Or.inl ⟨by rfl, ?_⟩) hHeld ?_ ?_
       rotate_left
       ·rintro w' ⟨s0, s1, s2, s3, s4, s5, s6, s7, s8, s9, s10⟩
        go_simp
        with_reducible rfl
       rotate_left
       ·simp only [Act.put, List.setIfInBounds_toArray, List.set_cons_zero, List.set_cons_succ, i64_w, i32_w]
        rfl
       refine pure_ (i := 23) (N := some 35) (v := ?_) (a' := ?_) #[true, true, true, true, true, true, true, true, true, true, true, true, true, true, true, true, true, true, true, true, true, true, true, true, false, false, false, false, false, false, false, false, false] rfl rfl (by kernel_rfl) (fun _ _ _ h => h) (Or.inl ⟨by rfl, ?_⟩) ?_ ?_
       rotate_left
       ·intro w'
        go_simp
        with_reducible rfl
       rotate_left
       ·simp only [Act.put, List.setIfInBounds_toArray, List.set_cons_zero, List.set_cons_succ, i64_w, i32_w]
        rfl
       refine take_ (i := 24) (N := some 36) (v := ?_) (a' := ?_) #[true, true, true, true, true, true, true, true, true, true, true, true, true, true, true, true, true, true, true, true, true, true, true, true, true, false, false, false, false, false, false, false, false] rfl rfl (by kernel_rfl) (fun _ _ _ h => h) (Or.inl ⟨by rfl, ?_⟩) hHeld ?_ ?_
       rotate_left
       ·rintro w' ⟨s0, s1, s2, s3, s4, s5, s6, s7, s8, s9, s10⟩
        go_simp
        with_reducible rfl
       rotate_left
       ·simp only [Act.put, List.setIfInBounds_toArray, List.set_cons_zero, List.set_cons_succ, i64_w, i32_w]
        rfl
       refine pure_ (i := 25) (N := some 37) (v := ?_) (a' := ?_) #[true, true, true, true, true, true, true, true, true, true, true, true, true, true, true, true, true, true, true, true, true, true, true, true, true, true, false, false, false, false, false, false, false] rfl rfl (by kernel_rfl) (fun _ _ _ h => h) (Or.inl ⟨by rfl, ?_⟩) ?_ ?_
       rotate_left
       ·intro w'
        go_simp
        with_reducible rfl
       rotate_left
       ·simp only [Act.put, List.setIfInBounds_toArray, List.set_cons_zero, List.set_cons_succ, i64_w, i32_w]
        rfl
       refine take_ (i := 26) (N := some 38) (v := ?_) (a' := ?_) #[true, true, true, true, true, true, true, true, true, true, true, true, true, true, true, true, true, true, true, true, true, true, true, true, true, true, true, false, false, false, false, false, false] rfl rfl (by kernel_rfl) (fun _ _ _ h => h) (Or.inl ⟨by rfl, ?_⟩) hHeld ?_ ?_
       rotate_left
       ·rintro w' ⟨s0, s1, s2, s3, s4, s5, s6, s7, s8, s9, s10⟩
        go_simp
        with_reducible rfl
       rotate_left
       ·simp only [Act.put, List.setIfInBounds_toArray, List.set_cons_zero, List.set_cons_succ, i64_w, i32_w]
        rfl
       refine pure_ (i := 27) (N := some 39) (v := ?_) (a' := ?_) #[true, true, true, true, true, true, true, true, true, true, true, true, true, true, true, true, true, true, true, true, true, true, true, true, true, true, true, true, false, false, false, false, false] rfl rfl (by kernel_rfl) (fun _ _ _ h => h) (Or.inl ⟨by rfl, ?_⟩) ?_ ?_
       rotate_left
       ·intro w'
        go_simp
        with_reducible rfl
       rotate_left
       ·simp only [Act.put, List.setIfInBounds_toArray, List.set_cons_zero, List.set_cons_succ, i64_w, i32_w]
        rfl
       refine take_ (i := 28) (N := some 40) (v := ?_) (a' := ?_) #[true, true, true, true, true, true, true, true, true, true, true, true, true, true, true, true, true, true, true, true, true, true, true, true, true, true, true, true, true, false, false, false, false] rfl rfl (by kernel_rfl) (fun _ _ _ h => h) (Or.inl ⟨by rfl, ?_⟩) hHeld ?_ ?_
       rotate_left
       ·rintro w' ⟨s0, s1, s2, s3, s4, s5, s6, s7, s8, s9, s10⟩
        go_simp
        with_reducible rfl
       rotate_left
       ·simp only [Act.put, List.setIfInBounds_toArray, List.set_cons_zero, List.set_cons_succ, i64_w, i32_w]
        rfl
       refine pure_ (i := 29) (N := some 41) (v := ?_) (a' := ?_) #[true, true, true, true, true, true, true, true, true, true, true, true, true, true, true, true, true, true, true, true, true, true, true, true, true, true, true, true, true, true, false, false, false] rfl rfl (by kernel_rfl) (fun _ _ _ h => h) (Or.inl ⟨by rfl, ?_⟩) ?_ ?_
       rotate_left
       ·intro w'
        go_simp
        with_reducible rfl
       rotate_left
       ·simp only [Act.put, List.setIfInBounds_toArray, List.set_cons_zero, List.set_cons_succ, i64_w, i32_w]
        rfl
       refine one_ (i := 30) (N := some 42) #[true, true, true, true, true, true, true, true, true, true, true, true, true, true, true, true, true, true, true, true, true, true, true, true, true, true, true, true, true, true, true, false, false] rfl rfl (by kernel_rfl) (by decide) (fun K hK => ?_)
       refine goes_ Tryd.func43 (by kernel_rfl) rfl #[.agg #[.string x.f0, .string x.f1, .int .u8 x.f3, .int .i64 x.f4.f0, .int .i64 x.f4.f1, .int .i64 x.f4.f2, .int .i64 x.f4.f3, .slice A7 x.f5.length c7]] (by rfl) rfl rfl (by first | rfl | (simp [Act.eval]; done)) ?_
       refine (member_Good.calls kg x.f0 x.f1 x.f3 x.f4.f0 x.f4.f1 x.f4.f2 x.f4.f3 A7 c7 x.f5 gd wq ⟨by rw [← hwq]; exact Tabs.below HTA.out (below_drew (below_alloc (Below.refl _ _) _))⟩ (by rw [← hwq]; exact Kd.C_drew (HCA.out _)) hl7' HKG.out).mono ?_
       rintro e w5 ⟨rfl, hb5⟩
       refine ⟨_, rfl, ?_⟩
       refine hK.out _ _ ⟨bkeep hb5 hHeld.1, bkeep hb5 hHeld.2.1, bkeep hb5 hHeld.2.2.1, bkeep hb5 hHeld.2.2.2.1, bkeep hb5 hHeld.2.2.2.2.1, bkeep hb5 hHeld.2.2.2.2.2.1, bkeep hb5 hHeld.2.2.2.2.2.2.1, bkeep hb5 hHeld.2.2.2.2.2.2.2.1, bkeep hb5 hHeld.2.2.2.2.2.2.2.2.1, bkeep hb5 hHeld.2.2.2.2.2.2.2.2.2.1, bkeep hb5 hHeld.2.2.2.2.2.2.2.2.2.2⟩ (fun hHeld => ?_)
       clear hK K
       refine norm_ (a' := ?_) ?_ ?_
       rotate_left
       ·show Act.put _ (some 42) _ = _
        simp only [Act.put, List.setIfInBounds_toArray, List.set_cons_zero, List.set_cons_succ, i64_w, i32_w]
        rfl
       refine pure_ (i := 31) (N := some 43) (v := ?_) (a' := ?_) #[true, true, true, true, true, true, true, true, true, true, true, true, true, true, true, true, true, true, true, true, true, true, true, true, true, true, true, true, true, true, true, true, false] rfl rfl (by kernel_rfl) (fun _ _ _ h => h) (Or.inl ⟨by rfl, ?_⟩) ?_ ?_
       rotate_left
       ·intro w'
        go_simp
        with_reducible rfl
       rotate_left
       ·simp only [Act.put, List.setIfInBounds_toArray, List.set_cons_zero, List.set_cons_succ, i64_w, i32_w]
        rfl
       refine pure_ (i := 32) (N := some 44) (v := ?_) (a' := ?_) #[true, true, true, true, true, true, true, true, true, true, true, true, true, true, true, true, true, true, true, true, true, true, true, true, true, true, true, true, true, true, true, true, true] rfl rfl (by kernel_rfl) (fun _ _ _ h => h) (Or.inl ⟨by rfl, ?_⟩) ?_ ?_
       rotate_left
       ·intro w'
        go_simp
        with_reducible rfl
       rotate_left
       ·simp only [Act.put, List.setIfInBounds_toArray, List.set_cons_zero, List.set_cons_succ, i64_w, i32_w]
        rfl
       refine done_ (by kernel_rfl) ?_
       clear hw64
       go_wp2_with (fail)
       go_meet
       exact ⟨!gd, rfl, ⟨by unfold headOk'; rw [← HX.out, HGD.out, decide_eq_false H49.out, show lt (l[n.toNat - 1]'(by have := HNL.out; omega)).f0 x.f0 = true from (prev_lt' HY.out HJ.out hls)]; simp, (show Below wr.heap.size wr wq from by rw [← hwq]; exact below_drew (below_alloc (Below.refl _ _) _)).trans (hb5.mono (by rw [← hwq]; show wr.heap.size ≤ (wr.alloc (.cells #[.string x.f0, .string x.f1, .string x.f2, .int .u8 x.f3, .int .i64 x.f4.f0, .int .i64 x.f4.f1, .int .i64 x.f4.f2, .int .i64 x.f4.f3, .slice A7 x.f5.length c7] 40)).heap.size; rw [World.size_alloc]; omega))⟩⟩
   case rest =>
    obtain ⟨b, rfl, HM⟩ := hcut
    cases b with
    | true =>
     go_wp2
     rw [← hQ.out]
     exact ⟨by rw [goodTree_nothead n.toNat HNL.out (by have := HM.out.1; simpa using this.symm)], HB.out.trans (HM.out.2.mono HB.out.size)⟩
    | false =>
     have hfin : GRel l W (some ad) c0 (n + 1) wc := gRel_next HR.out HNL.out (by have := HM.out.1; simpa using this.symm) HM.out.2
     have HF := Aside0.mk hfin
     clear hfin
     go_wp2
     go_roundg (gk - 1)
     case measure => have := HG.out; omega
     case rel => exact ⟨n + 1, by go_num, HF, ⟨by have := HG.out; omega⟩⟩
  ·have c1b : decide (n < (l.length : Int)) = false := decide_eq_false hlt
   obtain ⟨hr, hgt⟩ := goodTree_head (l := l) (fun i hi => HR.out.2.2.1 i hi (by omega))
   have HCT := Aside0.mk (Contains_calls l hr ((nodesZ_iff l).2 HZ.out.1) A0 c0 HC0.out W.heap.size wr hbox (Kd.C_below HC.out HB.out))
   have HGT := Aside0.mk hgt
   clear hgt hr
   by_cases h4 : l.length ≤ 4096
   ·have h4b : decide ((l.length : Int) ≤ 4096) = true := decide_eq_true (by omega)
    have h4c : decide (l.length ≤ 4096) = true := decide_eq_true h4
    have H4 := Aside0.mk h4
    clear h4
    go_wp2_with (go_at_call 50; refine HCT.out.mono ?_; rintro e w1 ⟨rfl, hb1⟩)
    rw [← hQ.out]
    refine ⟨?_, HB.out.trans (hb1.mono HB.out.size)⟩
    rw [HGT.out, decide_eq_true H4.out]
    simp
   ·have h4b : decide ((l.length : Int) ≤ 4096) = false := decide_eq_false (by omega)
    have h4c : decide (l.length ≤ 4096) = false := decide_eq_false h4
    have H4 := Aside0.mk h4
    clear h4
    go_wp2
    rw [← hQ.out]
    refine ⟨?_, HB.out⟩
    rw [HGT.out, decide_eq_false H4.out]
    rfl
end Go.Proofs.YtfljbidecljlcaaDoor

namespace Go.Proofs.YtfljbidecljlcaaDoor
open Go.RowKit Go.Shelf Go.Proofs.YtfljbidecljlcaaDoor.Print Go.Proofs.YtfljbidecljlcaaDoorW.PrintWords
set_option linter.unusedVariables false
set_option linter.unusedSimpArgs false
def litW (w : World) (cs : Array Value) : World := (w.alloc (.cells cs 5)).freeze ⟨w.heap.size, cs.size, none⟩ 1
theorem litW_new (w : World) (cs : Array Value) : (litW w cs).heap[w.heap.size]? = some (.cells cs 5 (cs.size, cs.size + 1)) := by
 simp [litW, World.freeze, World.alloc, -World.alloc_eq]
 rw [Array.getElem_modify_self]
 simp
theorem litW_size (w : World) (cs : Array Value) : (litW w cs).heap.size = w.heap.size + 1 := by
 simp [litW, World.freeze, World.alloc, -World.alloc_eq]
theorem litW_old (w : World) (cs : Array Value) (j : Nat) (hj : j < w.heap.size) : (litW w cs).heap[j]? = w.heap[j]? := by
 have h1 : w.heap.size ≠ j := by omega
 simp [litW, World.freeze, World.alloc, -World.alloc_eq, Array.getElem?_modify, Array.getElem?_push, h1, Ne.symm h1]
theorem litW_below (w : World) (cs : Array Value) : Below w.heap.size w (litW w cs) :=
 ⟨rfl, rfl, rfl, by rw [litW_size]; omega, fun i hi => litW_old w cs i hi⟩
theorem litW_conv (w : World) (cs : Array Value) (n c : Nat) : (convert 23 23 (.slice (some ⟨w.heap.size, 0, none⟩) n c)).run Tryd.prog (w.alloc (.cells cs 5)) = .ok (.slice (some ⟨w.heap.size, 0, none⟩) n c) (litW w cs) := by
 have hsh : (w.alloc (.cells cs 5)).shape? w.heap.size = some (5, cs.size) := by
  simp [World.shape?, World.alloc, -World.alloc_eq]
 simp [convert, run_underlying Tryd.underlying23, run_underlying Tryd.underlying5, markStringish, litW, hsh, Result.andThen]
theorem C_block {α : Type} {d : Kd α} {w : World} {g : Nat} {cs : Array Value} {t : TypeId} {fz : Nat × Nat} {xs : List α} (hb : w.heap[g]? = some (.cells cs t fz)) (hm : xs.length ≤ 9223372036854775807) (hr : Reps (d.K w) d.sz xs cs.toList) : Kd.C d w (some ⟨g, 0, none⟩) xs.length xs := by
 refine ⟨rfl, hm, fun _ => ⟨_, rfl, fun j p hj => ?_⟩⟩
 refine ⟨(cs.toList.drop (j * d.sz)).take d.sz, ?_, hr.2 j p hj, fun i u hu => ?_⟩
 ·exact d.K_len (hr.2 j p hj)
 ·rw [add_plain]
  unfold World.cell?
  dsimp only
  rw [hb]
  dsimp only
  have hi : i < d.sz := by
   have h1 := (List.getElem?_eq_some_iff.1 hu).1
   rw [List.length_take] at h1
   omega
  rw [List.getElem?_take_of_lt hi, List.getElem?_drop] at hu
  simpa using hu
theorem Reps_cons {α : Type} {R : α → List Value → Prop} {size : Nat} {ps : List α} {cs c : List Value} {p : α} (hp : R p c) (hc : c.length = size) (h : Reps R size ps cs) : Reps R size (p :: ps) (c ++ cs) := by
 refine ⟨by rw [List.length_append, hc, h.1, List.length_cons, Nat.add_mul, Nat.one_mul, Nat.add_comm], fun j q hq => ?_⟩
 cases j with
 | zero =>
  simp only [List.getElem?_cons_zero, Option.some.injEq] at hq
  subst hq
  rw [Nat.zero_mul, List.drop_zero, List.take_append_of_le_length (by omega), List.take_of_length_le (by omega)]
  exact hp
 | succ j =>
  simp only [List.getElem?_cons_succ] at hq
  have := h.2 j q hq
  rw [Nat.add_mul, Nat.one_mul, Nat.add_comm, ← hc, List.drop_append, hc]
  rw [List.drop_eq_nil_of_le (by omega), List.nil_append, show size + j * size - size = j * size from by omega]
  exact this
abbrev aB : ByteArray := ⟨#[97]⟩
abbrev bB : ByteArray := ⟨#[98]⟩
abbrev l10 : List Mem := [⟨bB, emp, 48, ⟨0, 0, 0, 0⟩, [120]⟩, ⟨aB, bB, 49, ⟨0, 0, 0, 0⟩, []⟩]
abbrev t10 : List Node := [⟨aB, emp, aB, 48, ⟨0, 0, 0, 0⟩, [120]⟩, ⟨bB, emp, aB, 48, ⟨0, 0, 0, 0⟩, [120]⟩]
theorem str120 : strOfNums [120] = ⟨#[120]⟩ := by rfl
theorem fold10 : foldF l10 = (t10, 0, 0) := by kernel_rfl
theorem fold11 : foldF [⟨aB, bB, 49, ⟨0, 0, 0, 0⟩, []⟩] = ([], 7, 0) := by kernel_rfl
theorem good10 : goodTree t10 = true := by kernel_rfl
theorem good11 : goodTree [z40] = false := by kernel_rfl
def Ans1 (X : World) (e : Ending) (w' : World) : Prop := ∃ g c A8 c8, e = .returned (.tuple #[.slice (some ⟨g, 0, none⟩) 2 c, .agg #[.int .i64 0, .int .i64 0]]) ∧ Kd.C k40 w' (some ⟨g, 0, none⟩) 2 t10 ∧ w'.cell? ⟨g, 2, none⟩ = some (.string ⟨#[97]⟩) ∧ w'.cell? ⟨g, 11, none⟩ = some (.string ⟨#[97]⟩) ∧ w'.cell? ⟨g, 8, none⟩ = some (.slice A8 1 c8) ∧ Kd.C (Kd.int .u8) w' A8 1 [120] ∧ 2 ≤ c ∧ Below X.heap.size X w'
theorem ans1_calls (X : World) (hT : Tabs X) : Calls Tryd.prog 27 #[.slice (some ⟨X.heap.size + 1, 0, none⟩) 2 2] ((litW X #[.int .u8 120]).alloc (.cells #[.string ⟨#[98]⟩, .string ⟨#[]⟩, .int .u8 48, .int .i64 0, .int .i64 0, .int .i64 0, .int .i64 0, .slice (some ⟨X.heap.size, 0, none⟩) 1 1, .string ⟨#[97]⟩, .string ⟨#[98]⟩, .int .u8 49, .int .i64 0, .int .i64 0, .int .i64 0, .int .i64 0, .slice none 0 0] 45)) (Ans1 X) := by
 generalize hO : (Obj.cells _ _) = O
 have hb1 := litW_below X #[.int .u8 120]
 have hs1 := litW_size X #[.int .u8 120]
 have hb2 : Below X.heap.size X ((litW X #[.int .u8 120]).alloc O) := hb1.alloc (by omega) _
 have hblk : ((litW X #[.int .u8 120]).alloc O).heap[X.heap.size + 1]? = some O := by rw [← hs1]; exact blk_new _ _
 have hu : Kd.C (Kd.int .u8) ((litW X #[.int .u8 120]).alloc O) (some ⟨X.heap.size, 0, none⟩) 1 [120] := by
  have h1 : Kd.C (Kd.int .u8) (litW X #[.int .u8 120]) (some ⟨X.heap.size, 0, none⟩) ([120] : List Int).length [120] := C_block (litW_new X #[.int .u8 120]) (by decide) (Reps.one (show Kd.K (Kd.int .u8) _ 120 [.int .u8 120] from rfl) (Reps.none _ _))
  exact Kd.C_alloc h1 _
 subst hO
 have hC : Kd.C k45 _ (some ⟨X.heap.size + 1, 0, none⟩) l10.length l10 := C_block hblk (by decide)
  (Reps_cons (k45_mk _ _ (by decide) hu) rfl (Reps_cons (k45_mk _ _ (Nat.le_refl _) (Kd.C_nil _ _)) rfl (Reps.none _ _)))
 refine (Fold_calls (some ⟨X.heap.size + 1, 0, none⟩) 2 l10 _ (Tabs.below hT hb2) hC ((memsZ_iff _).1 (by decide))).mono ?_
 rintro e w' ⟨v, rfl, hV, hB, hform⟩
 rw [fold10] at hV hform ⊢
 obtain ⟨g, c, rfl⟩ := hform (by decide)
 obtain ⟨h1, h2, h3⟩ := Kd.V_reads' hV
 obtain ⟨ad, A8, c8, hA, x0, x1, x2, x3, x4, x5, x6, x7, x8, hl8, hC8⟩ := at_T40 h3 0 (by decide) (by decide)
 cases hA
 obtain ⟨ad, A9, c9, hA, y0, y1, y2, _⟩ := at_T40 h3 1 (by decide) (by decide)
 cases hA
 exact ⟨g, c, A8, c8, rfl, h3, x2, y2, x8, hC8, h2, hb2.trans (hB.mono hb2.size)⟩
def Ans2 (X : World) (e : Ending) (w' : World) : Prop := ∃ v, e = .returned (.tuple #[v, .agg #[.int .i64 7, .int .i64 0]]) ∧ Below X.heap.size X w'
theorem ans2_calls (X : World) (b : Nat) (hb : X.heap.size = b) (hT : Tabs X) : Calls Tryd.prog 27 #[.slice (some ⟨b, 0, none⟩) 1 1] (X.alloc (.cells #[.string ⟨#[97]⟩, .string ⟨#[98]⟩, .int .u8 49, .int .i64 0, .int .i64 0, .int .i64 0, .int .i64 0, .slice none 0 0] 45)) (Ans2 X) := by
 subst hb
 have hblk := blk_new X (Obj.cells #[.string ⟨#[97]⟩, .string ⟨#[98]⟩, .int .u8 49, .int .i64 0, .int .i64 0, .int .i64 0, .int .i64 0, .slice none 0 0] 45)
 have hb2 := below_alloc (Below.refl X.heap.size X) (Obj.cells #[.string ⟨#[97]⟩, .string ⟨#[98]⟩, .int .u8 49, .int .i64 0, .int .i64 0, .int .i64 0, .int .i64 0, .slice none 0 0] 45)
 have hC : Kd.C k45 _ (some ⟨X.heap.size, 0, none⟩) ([⟨aB, bB, 49, ⟨0, 0, 0, 0⟩, []⟩] : List Mem).length [⟨aB, bB, 49, ⟨0, 0, 0, 0⟩, []⟩] := C_block hblk (by decide)
  (Reps_cons (k45_mk _ _ (Nat.le_refl _) (Kd.C_nil _ _)) rfl (Reps.none _ _))
 refine (Fold_calls (some ⟨X.heap.size, 0, none⟩) 1 _ _ (Tabs.below hT hb2) hC ((memsZ_iff _).1 (by decide))).mono ?_
 rintro e w' ⟨v, rfl, hV, hB, hform⟩
 rw [fold11]
 exact ⟨v, rfl, hb2.trans (hB.mono hb2.size)⟩
theorem ans4_calls (X : World) (b : Nat) (hb : X.heap.size = b) (hT : Tabs X) : Calls Tryd.prog 31 #[.slice (some ⟨b, 0, none⟩) 1 1] (X.alloc (.cells #[.string ⟨#[]⟩, .string ⟨#[]⟩, .string ⟨#[]⟩, .int .u8 0, .int .i64 0, .int .i64 0, .int .i64 0, .int .i64 0, .slice none 0 0] 40)) fun e w' => e = .returned (.bool false) ∧ Below X.heap.size X w' := by
 subst hb
 have hblk := blk_new X (Obj.cells #[.string ⟨#[]⟩, .string ⟨#[]⟩, .string ⟨#[]⟩, .int .u8 0, .int .i64 0, .int .i64 0, .int .i64 0, .int .i64 0, .slice none 0 0] 40)
 have hb2 := below_alloc (Below.refl X.heap.size X) (Obj.cells #[.string ⟨#[]⟩, .string ⟨#[]⟩, .string ⟨#[]⟩, .int .u8 0, .int .i64 0, .int .i64 0, .int .i64 0, .int .i64 0, .slice none 0 0] 40)
 have hC : Kd.C k40 _ (some ⟨X.heap.size, 0, none⟩) ([z40] : List Node).length [z40] := C_block hblk (by decide)
  (Reps_cons (k40_mk _ z40 (Nat.le_refl _) (Kd.C_nil _ _)) rfl (Reps.none _ _))
 refine (Good_calls (some ⟨X.heap.size, 0, none⟩) 1 [z40] _ (Tabs.below hT hb2) hC (by decide) ((nodesG_iff _).1 (by decide))).mono ?_
 rintro e w' ⟨rfl, hB⟩
 rw [good11]
 exact ⟨rfl, hb2.trans (hB.mono hb2.size)⟩
theorem ans3_calls (Y : World) (g c : Nat) (hC : Kd.C k40 Y (some ⟨g, 0, none⟩) 2 t10) (hc : 2 ≤ c) (hT : Tabs Y) : Calls Tryd.prog 31 #[.slice (some ⟨g, 0, none⟩) 2 c] Y fun e w' => e = .returned (.bool true) ∧ Below Y.heap.size Y w' := by
 have h := Good_calls (some ⟨g, 0, none⟩) c t10 Y hT hC hc ((nodesG_iff _).1 (by decide))
 rw [good10] at h
 exact h
set_option maxRecDepth 100000 in
set_option maxHeartbeats 4000000 in
theorem answers10_calls (w : World) (hT : Tabs w) :
  Calls Tryd.prog 26 #[] w fun e w' => e = .returned (.bool true) ∧ Below w.heap.size w w' := by
 have HT : Aside0 (∀ X : World, Below w.heap.size w X → Tabs X) := ⟨fun X hb => Tabs.below hT hb⟩
 have c1 := Aside0.mk (ans1_calls w hT)
 have kc := fun (W : World) => litW_conv W (#[.int .u8 120] : Array Value) 1 1
 have hls := litW_size w #[.int .u8 120]
 clear hT
 go_enter Tryd.func26, Tryd.ntmps26
 go_wp2_with (first
  | (go_at_call 27; (with_reducible refine c1.out.mono ?_); rintro e w1 ⟨g, c, A8, c8, rfl, hC, x2, y2, x8, hC8, hc2, hb1⟩; have HC := Aside0.mk hC; have HC8 := Aside0.mk hC8; have HB1 := Aside0.mk hb1; have hg := World.block_lt_of_cell? w1 _ x2; dsimp only at hg; have hg1 : g < w1.heap.size + 1 := (by omega); have hgn : ¬ w1.heap.size = g := (by omega); have hgn1 : ¬ w1.heap.size + 1 = g := (by omega); have hw1 := hb1.size; clear hC hC8 hb1)
  | (go_at_call 27; refine (ans2_calls _ _ (by simp) (HT.out _ ?hx)).mono ?_; (case hx => repeat (first | with_reducible refine below_put ?_ _ _ (by omega) _ | with_reducible refine below_alloc ?_ _); exact HB1.out); rintro e w2 ⟨v2, rfl, hb2⟩; obtain ⟨hd2, hf2⟩ := bcell hb2; have hz2 := hb2.size; simp only [World.size_alloc, World.size_setCell] at hz2; have HB2 := Aside0.mk hb2; have hq1 : w1.heap.size < w2.heap.size := (by omega); have hq2 : ¬ w1.heap.size = w2.heap.size := (by omega); have hq3 : ¬ w2.heap.size = w1.heap.size := (by omega); have hq4 : g < w2.heap.size := (by omega); have hq5 : ¬ g = w2.heap.size := (by omega); have hq6 : ¬ w2.heap.size = g := (by omega); have hX : Below w1.heap.size w1 w2 := (by refine Below.trans ?_ (HB2.out.mono (by simp)); repeat (first | with_reducible refine below_put ?_ _ _ (by omega) _ | with_reducible refine below_alloc ?_ _); exact Below.refl _ _); have hstr := (fun (o : Obj) => Kd.C_string (P := Tryd.prog) (src := 23) (dst := 9) (n := 1) (c := c8) Tryd.underlying23 Tryd.underlying5 Tryd.underlying9 (Kd.C_alloc (Kd.C_below HC8.out hX) o)); rw [str120] at hstr; have HX := Aside0.mk hX; have HW2 := Aside0.mk (HB1.out.trans (HX.out.mono hw1)); clear hb2 hX)
  | (go_at_call 31; (with_reducible refine (ans3_calls _ g c (Kd.C_alloc (Kd.C_below HC.out HX.out) _) hc2 (HT.out _ (below_alloc HW2.out _))).mono ?_); rintro e w3 ⟨rfl, hb3⟩; obtain ⟨hd3, hf3⟩ := bcell hb3; have hz3 := hb3.size; simp only [World.size_alloc] at hz3; have HB3 := Aside0.mk hb3; have hs23 := HW2.out.size; have HW3 := Aside0.mk ((below_alloc HW2.out _).trans (HB3.out.mono (by rw [World.size_alloc]; omega))); clear hb3)
  | (go_at_call 31; refine (ans4_calls _ _ rfl (HT.out _ HW3.out)).mono ?_; rintro e w4 ⟨rfl, hb4⟩)
  | fail)
 go_ret
 exact ⟨rfl, HW3.out.trans (hb4.mono HW3.out.size)⟩
end Go.Proofs.YtfljbidecljlcaaDoor
namespace Go.Proofs.YtfljbidecljlcaaDoor.Print
open Go.RowKit Go.Proofs.YtfljbidecljlcaaDoor Go.Proofs.YtfljbidecljlcaaDoorW.PrintWords
def bindlelaw10_answers.f : Option (Bool) := some true
theorem bindlelaw10_answers.calls (r : Bool) (w : World) (hT : Aside0 (Tabs w)) (h : bindlelaw10_answers.f = some r) :
  Calls Tryd.prog 26 #[] w fun e w' => e = .returned (.bool r) ∧ Below w.heap.size w w' := by
 cases h
 exact answers10_calls w hT.out
end Go.Proofs.YtfljbidecljlcaaDoor.Print

namespace Go.Proofs.YtfljbidecljlcaaDoor
open Go.RowKit Go.Maps Go.Proofs.YtfljbidecljlcaaDoor.Print Go.Proofs.YtfljbidecljlcaaDoorW.PrintWords Go.Proofs.YtfljbidecljlcaaDoorW.PrintLast Go.Proofs.YtfljbidecljlcaaDoorW.PrintMore
set_option linter.unusedVariables false
set_option linter.unusedSimpArgs false
def nodeB (x y : Node) : Bool := decide (x.f2.toList = y.f2.toList) && equalB x y
theorem sameB_len : ∀ (l r : List Node), sameB l r = true → l.length = r.length
 | [], [], _ => rfl
 | [], _ :: _, h => by cases h
 | _ :: _, [], h => by cases h
 | a :: l, b :: r, h => by
  rw [sameB, Bool.and_eq_true] at h
  rw [List.length_cons, List.length_cons, sameB_len l r h.2]
theorem sameB_of : ∀ (l r : List Node) (hl : l.length = r.length), (∀ (i : Nat) (hi : i < l.length), nodeB l[i] (r[i]'(by omega)) = true) → sameB l r = true
 | [], [], _, _ => rfl
 | [], _ :: _, h, _ => by cases h
 | _ :: _, [], h, _ => by cases h
 | a :: l, b :: r, hl, h => by
  rw [sameB]
  have h0 := h 0 (Nat.succ_pos _)
  unfold nodeB at h0
  rw [Bool.and_eq_true]
  exact ⟨h0, sameB_of l r (by simpa using hl) (fun i hi => h (i + 1) (by simpa using hi))⟩
theorem sameB_at : ∀ (l r : List Node) (hl : l.length = r.length), sameB l r = true → ∀ (i : Nat) (hi : i < l.length), nodeB l[i] (r[i]'(by omega)) = true
 | [], _, _, _ => fun i hi => absurd hi (Nat.not_lt_zero _)
 | _ :: _, [], h, _ => by cases h
 | a :: l, b :: r, hl, h => by
  rw [sameB, Bool.and_eq_true] at h
  intro i hi
  cases i with
  | zero => exact h.1
  | succ i => exact sameB_at l r (by simpa using hl) h.2 i (by simpa using hi)
theorem Same1_calls (x y : Node) (A B : Option Addr) (c d : Nat) (W : World) (hx : Kd.C (Kd.int .u8) W A x.f5.length x.f5) (hc : x.f5.length ≤ c) (hy : Kd.C (Kd.int .u8) W B y.f5.length y.f5) (hd : y.f5.length ≤ d) :
  Calls Tryd.prog 62 #[.agg (nodeCells x (.slice A x.f5.length c)), .agg (nodeCells y (.slice B y.f5.length d))] W fun e W' => e = .returned (.bool (nodeB x y)) ∧ Below W.heap.size W W' := by
 have hl := tequal_f x y
 have HX := Aside0.mk (fun o p => Kd.C_alloc (Kd.C_alloc hx o) p)
 have HY := Aside0.mk (fun o p => Kd.C_alloc (Kd.C_alloc hy o) p)
 have HL := Aside0.mk hl
 clear hl hx hy
 have hz : W.heap.size < W.heap.size + 1 := Nat.lt_succ_self _
 have hne : ¬ W.heap.size = W.heap.size + 1 := by omega
 generalize hpost : (fun (e : Ending) (W' : World) => e = .returned (.bool (nodeB x y)) ∧ Below W.heap.size W W') = Q
 have hQ := Aside0.mk hpost
 clear hpost
 unfold nodeCells
 by_cases h2 : x.f2.toList = y.f2.toList
 ·have e2 : (x.f2.toList == y.f2.toList) = true := beq_iff_eq.2 h2
  have H2 := Aside0.mk h2
  clear h2
  go_enter Tryd.func62, Tryd.ntmps62
  go_wp2_with (go_at_call 37; refine (tree_Equal.calls x.f0 x.f1 x.f2 x.f3 x.f4.f0 x.f4.f1 x.f4.f2 x.f4.f3 A c x.f5 y.f0 y.f1 y.f2 y.f3 y.f4.f0 y.f4.f1 y.f4.f2 y.f4.f3 B d y.f5 (equalB x y) _ (HX.out _ _) hc (HY.out _ _) hd HL.out).mono ?_; rintro e w1 ⟨rfl, hb⟩)
  rw [← hQ.out]
  refine ⟨by unfold nodeB; rw [decide_eq_true H2.out]; rfl, ?_⟩
  exact (((Below.refl _ _).alloc (Nat.le_refl _) _).alloc (by simp) _).trans (hb.mono (by simp; omega))
 ·have e2 : (x.f2.toList == y.f2.toList) = false := beq_eq_false_iff_ne.2 h2
  have H2 := Aside0.mk h2
  clear h2
  go_enter Tryd.func62, Tryd.ntmps62
  go_wp2
  rw [← hQ.out]
  refine ⟨by unfold nodeB; rw [decide_eq_false H2.out]; rfl, ?_⟩
  exact ((Below.refl _ _).alloc (Nat.le_refl _) _).alloc (by simp) _
def SameRel (l r : List Node) (W : World) (i : Int) (wr : World) : Prop := 0 ≤ i ∧ i ≤ l.length ∧ (∀ (j : Nat) (hj : j < l.length) (hk : j < r.length), (j : Int) < i → nodeB l[j] r[j] = true) ∧ Below W.heap.size W wr
set_option maxRecDepth 100000 in
set_option maxHeartbeats 4000000 in
theorem EqualFunc_calls (A0 : Option Addr) (c0 : Nat) (l : List Node) (A1 : Option Addr) (c1 : Nat) (r : List Node) (W : World) (hC : Kd.C k40 W A0 l.length l) (hD : Kd.C k40 W A1 r.length r) (hl : l.length ≤ 1000000000000) (hr : r.length ≤ 1000000000000) :
  Calls Tryd.prog 61 #[.slice A0 l.length c0, .slice A1 r.length c1, .func (.func 62) #[] #[]] W fun e W' => e = .returned (.bool (sameB l r)) ∧ Below W.heap.size W W' := by
 have HC := Aside0.mk hC
 have HD := Aside0.mk hD
 clear hC hD
 generalize hpost : (fun (e : Ending) (W' : World) => e = .returned (.bool (sameB l r)) ∧ Below W.heap.size W W') = Q
 have hQ := Aside0.mk hpost
 clear hpost
 by_cases hlr : l.length = r.length
 case neg =>
  have hb : ((l.length : Int) != (r.length : Int)) = true := by rw [bne_iff_ne]; omega
  have HN := Aside0.mk hlr
  clear hlr
  go_enter Tryd.func61, Tryd.ntmps61
  go_wp2
  rw [← hQ.out]
  refine ⟨?_, Below.refl _ _⟩
  cases hs : sameB l r with
  | false => rfl
  | true => exact absurd (sameB_len l r hs) HN.out
 case pos =>
  have hb : ((l.length : Int) != (r.length : Int)) = false := by rw [bne_eq_false_iff_eq]; omega
  have HN := Aside0.mk hlr
  clear hlr
  go_enter Tryd.func61, Tryd.ntmps61
  go_wp2
  go_loopw [17] (fun i wr => ∃ n : Int, i = .int .i64 n ∧ Aside0 (SameRel l r W n wr)) (fun i _ => (l.length - (intOf i)).toNat)
  case atStart => exact ⟨0, rfl, ⟨⟨by omega, by omega, fun j hj hk h => absurd h (by omega), Below.refl _ _⟩⟩⟩
  case round =>
   obtain ⟨n, rfl, HR⟩ := hrel
   have h0 := HR.out.1
   have h1 := HR.out.2.1
   have HB := Aside0.mk HR.out.2.2.2
   by_cases hlt : n < (l.length : Int)
   ·have c1b : decide (n < (l.length : Int)) = true := decide_eq_true hlt
    have hlt2 : n < (r.length : Int) := by have := HN.out; omega
    have hnl : n.toNat < l.length := by omega
    have hnr : n.toNat < r.length := by omega
    obtain ⟨ad, A7, c7, hA, x0, x1, x2, x3, x4, x5, x6, x7, x8, hl7, hC7⟩ := at_T40 (Kd.C_below HC.out HB.out) n h0 hlt
    have hx := rdN_at l n h0 hlt
    generalize rd_T40 l n = x at hx x0 x1 x2 x3 x4 x5 x6 x7 x8 hl7 hC7
    obtain ⟨bd, B7, d7, hB, y0, y1, y2, y3, y4, y5, y6, y7, y8, hl8, hC8⟩ := at_T40 (Kd.C_below HD.out HB.out) n h0 hlt2
    have hy := rdN_at r n h0 hlt2
    generalize rd_T40 r n = y at hy y0 y1 y2 y3 y4 y5 y6 y7 y8 hl8 hC8
    subst hA
    subst hB
    have HX := Aside0.mk hx
    have HY := Aside0.mk hy
    have HC7 := Aside0.mk (fun o p => Kd.C_alloc (Kd.C_alloc hC7 o) p)
    have HC8 := Aside0.mk (fun o p => Kd.C_alloc (Kd.C_alloc hC8 o) p)
    have HNL := Aside0.mk hnl
    have HNR := Aside0.mk hnr
    have hl7' : x.f5.length ≤ c7 := hl7
    have hl8' : y.f5.length ≤ d7 := hl8
    have hz : wr.heap.size < wr.heap.size + 1 := Nat.lt_succ_self _
    have hne : ¬ wr.heap.size = wr.heap.size + 1 := by omega
    have hyb : ∀ (o : Obj) (j : Nat) (v : Value), wr.cell? ⟨(bd.add (n.toNat * 9)).block, (bd.add (n.toNat * 9)).off + j, none⟩ = some v → (wr.alloc o).cell? ⟨(bd.add (n.toNat * 9)).block, (bd.add (n.toNat * 9)).off + j, none⟩ = some v := fun o j v h => ((below_alloc (Below.refl _ _) o).cell (World.block_lt_of_cell? wr _ h)).trans h
    have hy0' : ∀ o : Obj, (wr.alloc o).cell? (bd.add (n.toNat * 9)) = some (.string y.f0) := fun o => ((below_alloc (Below.refl _ _) o).cell (World.block_lt_of_cell? wr _ y0)).trans y0
    have hy1' := fun o => hyb o _ _ y1
    have hy2' := fun o => hyb o _ _ y2
    have hy3' := fun o => hyb o _ _ y3
    have hy4' := fun o => hyb o _ _ y4
    have hy5' := fun o => hyb o _ _ y5
    have hy6' := fun o => hyb o _ _ y6
    have hy7' := fun o => hyb o _ _ y7
    have hy8' := fun o => hyb o _ _ y8
    clear hx hy hC7 hC8 hl7 hl8 hnl hnr hyb y0 y1 y2 y3 y4 y5 y6 y7 y8
    have hcl := fun W2 hx2 hy2 => Same1_calls x y A7 B7 c7 d7 W2 hx2 hl7' hy2 hl8'
    unfold nodeCells at hcl
    cases hb1 : nodeB x y with
    | true =>
     rw [hb1] at hcl
     have HCL := Aside0.mk hcl
     have HNB := Aside0.mk hb1
     clear hcl hb1
     go_wp2_with (go_at_call 62; refine (HCL.out _ (HC7.out _ _) (HC8.out _ _)).mono ?_; rintro e w1 ⟨rfl, hb1⟩)
     have hfin : SameRel l r W (n + 1) w1 := by
      refine ⟨by omega, by omega, fun j hj hk hjn => ?_, ((HB.out.alloc HB.out.size _).alloc (by have := HB.out.size; simp; omega) _).trans (hb1.mono (by have := HB.out.size; simp; omega))⟩
      rcases Nat.lt_or_ge j n.toNat with h | h
      ·exact HR.out.2.2.1 j hj hk (by omega)
      ·obtain rfl : j = n.toNat := by omega
       rw [← HX.out, ← HY.out]; exact HNB.out
     clear hb1
     go_roundw
     case rel => exact ⟨n + 1, by go_num, ⟨hfin⟩⟩
     case measure => simp [intOf]; omega
    | false =>
     rw [hb1] at hcl
     have HCL := Aside0.mk hcl
     have HNB := Aside0.mk hb1
     clear hcl hb1
     go_wp2_with (go_at_call 62; refine (HCL.out _ (HC7.out _ _) (HC8.out _ _)).mono ?_; rintro e w1 ⟨rfl, hb1⟩)
     rw [← hQ.out]
     refine ⟨?_, ((HB.out.alloc HB.out.size _).alloc (by have := HB.out.size; simp; omega) _).trans (hb1.mono (by have := HB.out.size; simp; omega))⟩
     cases hs : sameB l r with
     | false => rfl
     | true =>
      have := sameB_at l r HN.out hs n.toNat HNL.out
      rw [← HX.out, ← HY.out, HNB.out] at this
      cases this
   ·have c1b : decide (n < (l.length : Int)) = false := decide_eq_false hlt
    go_wp2
    rw [← hQ.out]
    refine ⟨?_, HB.out⟩
    rw [sameB_of l r HN.out (fun i hi => HR.out.2.2.1 i hi (by have := HN.out; omega) (by omega))]
theorem Same_calls (A0 : Option Addr) (c0 : Nat) (l : List Node) (A1 : Option Addr) (c1 : Nat) (r : List Node) (W : World) (hC : Kd.C k40 W A0 l.length l) (hD : Kd.C k40 W A1 r.length r) (hl : l.length ≤ 1000000000000) (hr : r.length ≤ 1000000000000) :
  Calls Tryd.prog 38 #[.slice A0 l.length c0, .slice A1 r.length c1] W fun e W' => e = .returned (.bool (sameB l r)) ∧ Below W.heap.size W W' := by
 have HE := Aside0.mk (EqualFunc_calls A0 c0 l A1 c1 r W hC hD hl hr)
 clear hC hD
 go_enter Tryd.func38, Tryd.ntmps38
 go_wp2_with (go_at_call 61; refine HE.out.mono ?_; rintro e w1 ⟨rfl, hb⟩)
 go_ret
 exact ⟨rfl, hb⟩
end Go.Proofs.YtfljbidecljlcaaDoor

namespace Go.Proofs.YtfljbidecljlcaaDoor.Print
open Go.RowKit Go.Proofs.YtfljbidecljlcaaDoor Go.Proofs.YtfljbidecljlcaaDoorW.PrintWords Go.Proofs.YtfljbidecljlcaaDoorW.PrintLast Go.Proofs.YtfljbidecljlcaaDoorW.PrintMore
set_option linter.unusedVariables false
def tree_Good.f (l : List S40) : Option Bool := if nodesG l = true then some (goodTree l) else none
theorem tree_Good.calls (A0 : Option Addr) (c0 : Nat) (l0 : List S40) (r : Bool) (w : World) (hT : Aside0 (Tabs w)) (hr0 : Kd.C k40 w A0 l0.length l0) (hc0 : l0.length ≤ c0) (h : tree_Good.f l0 = some r) :
  Calls Tryd.prog 31 #[.slice A0 l0.length c0] w fun e w' => e = .returned (.bool r) ∧ Below w.heap.size w w' := by
 unfold tree_Good.f at h
 split at h
 ·rename_i hc
  simp only [Option.some.injEq] at h
  subst h
  exact Good_calls A0 c0 l0 w hT.out hr0 hc0 ((nodesG_iff l0).1 hc)
 ·cases h
def tree_Same.f (l r : List S40) : Option Bool := if l.length ≤ 1000000000000 ∧ r.length ≤ 1000000000000 then some (sameB l r) else none
theorem tree_Same.calls (A0 : Option Addr) (c0 : Nat) (l0 : List S40) (A1 : Option Addr) (c1 : Nat) (l1 : List S40) (r : Bool) (w : World) (hr0 : Kd.C k40 w A0 l0.length l0) (hc0 : l0.length ≤ c0) (hr1 : Kd.C k40 w A1 l1.length l1) (hc1 : l1.length ≤ c1) (h : tree_Same.f l0 l1 = some r) :
  Calls Tryd.prog 38 #[.slice A0 l0.length c0, .slice A1 l1.length c1] w fun e w' => e = .returned (.bool r) ∧ Below w.heap.size w w' := by
 unfold tree_Same.f at h
 split at h
 ·rename_i hc
  simp only [Option.some.injEq] at h
  subst h
  exact Same_calls A0 c0 l0 A1 c1 l1 w hr0 hr1 hc.1 hc.2
 ·cases h
end Go.Proofs.YtfljbidecljlcaaDoor.Print

namespace Go.Proofs.YtfljbidecljlcaaDoor
open Go.RowKit Go.Proofs.YtfljbidecljlcaaDoor.Print Go.Proofs.YtfljbidecljlcaaDoorW.PrintWords
set_option linter.unusedVariables false
abbrev Cls := S76
def insR (x : Cls) (acc : List Cls) : List Cls := (acc.reverse.dropWhile (fun y => lt x.f0.f0 y.f0.f0)).reverse ++ x :: (acc.reverse.takeWhile (fun y => lt x.f0.f0 y.f0.f0)).reverse
def sortC (l : List Cls) : List Cls := l.foldl (fun acc x => insR x acc) []
theorem insR_at (x : Cls) (a b : List Cls) (hb : ∀ y ∈ b, lt x.f0.f0 y.f0.f0 = true) (ha : ∀ y, a.getLast? = some y → lt x.f0.f0 y.f0.f0 = false) : insR x (a ++ b) = a ++ x :: b := by
 unfold insR
 rw [List.reverse_append]
 have h1 : ∀ y ∈ b.reverse, lt x.f0.f0 y.f0.f0 = true := fun y hy => hb y (List.mem_reverse.1 hy)
 have h2 : a.reverse.takeWhile (fun y => lt x.f0.f0 y.f0.f0) = [] ∧ a.reverse.dropWhile (fun y => lt x.f0.f0 y.f0.f0) = a.reverse := by
  cases hr : a.reverse with
  | nil => exact ⟨rfl, rfl⟩
  | cons z r =>
   have hz : a.getLast? = some z := by rw [← List.head?_reverse, hr]; rfl
   have := ha z hz
   rw [List.takeWhile_cons, List.dropWhile_cons, this]
   exact ⟨rfl, rfl⟩
 have h3 : ∀ (u v : List Cls), (∀ y ∈ u, lt x.f0.f0 y.f0.f0 = true) → (u ++ v).takeWhile (fun y => lt x.f0.f0 y.f0.f0) = u ++ v.takeWhile (fun y => lt x.f0.f0 y.f0.f0) ∧ (u ++ v).dropWhile (fun y => lt x.f0.f0 y.f0.f0) = v.dropWhile (fun y => lt x.f0.f0 y.f0.f0) := by
  intro u v hu
  induction u with
  | nil => exact ⟨rfl, rfl⟩
  | cons w u ih =>
   have hw := hu w List.mem_cons_self
   obtain ⟨i1, i2⟩ := ih (fun y hy => hu y (List.mem_cons_of_mem _ hy))
   exact ⟨by simp only [List.cons_append, List.takeWhile_cons, hw, if_true, i1], by simp only [List.cons_append, List.dropWhile_cons, hw, if_true, i2]⟩
 obtain ⟨h4, h5⟩ := h3 b.reverse a.reverse h1
 rw [h4, h5, h2.1, h2.2, List.append_nil, List.reverse_reverse, List.reverse_reverse]
def leadC (s : List Cls) (i : Nat) (x : Cls) : ByteArray := if x.f0.f3 = 48 then (match (s.take (i + 1)).find? (fun y => decide (y.f0.f3 = 48 ∧ y.f1 = x.f1)) with
 | some y => y.f0.f0
 | none => emp) else emp
def outC (s : List Cls) (i : Nat) (x : Cls) : Node := ⟨x.f0.f0, x.f0.f1, leadC s i x, x.f0.f3, x.f0.f4, x.f0.f5⟩
def sortedF (l : List Cls) : List Node := (sortC l).mapIdx (fun i x => outC (sortC l) i x)
theorem insR_perm (x : Cls) (acc : List Cls) : (insR x acc).Perm (x :: acc) := by
 unfold insR
 refine List.perm_middle.trans (List.Perm.cons x ?_)
 rw [← List.reverse_append]
 have : acc.reverse.takeWhile (fun y => lt x.f0.f0 y.f0.f0) ++ acc.reverse.dropWhile (fun y => lt x.f0.f0 y.f0.f0) = acc.reverse := List.takeWhile_append_dropWhile
 rw [this, List.reverse_reverse]
theorem sortC_from (l acc : List Cls) : (l.foldl (fun acc x => insR x acc) acc).Perm (acc ++ l) := by
 induction l generalizing acc with
 | nil => rw [List.append_nil]; exact List.Perm.refl _
 | cons x l ih =>
  rw [List.foldl_cons]
  refine (ih _).trans ?_
  refine ((insR_perm x acc).append_right l).trans ?_
  exact List.perm_middle.symm
theorem sortC_perm (l : List Cls) : (sortC l).Perm l := sortC_from l []
def RiseC (s : List Cls) : Prop := s.Pairwise (fun a b => lt a.f0.f0 b.f0.f0 = true)
theorem insR_rise {x : Cls} {acc : List Cls} (h : RiseC acc) (hx : ∀ y ∈ acc, y.f0.f0 ≠ x.f0.f0) : RiseC (insR x acc) := by
 obtain ⟨a, b, hab, hb, ha⟩ : ∃ a b, acc = a ++ b ∧ (∀ y ∈ b, lt x.f0.f0 y.f0.f0 = true) ∧ (∀ y, a.getLast? = some y → lt x.f0.f0 y.f0.f0 = false) := by
  refine ⟨(acc.reverse.dropWhile (fun y => lt x.f0.f0 y.f0.f0)).reverse, (acc.reverse.takeWhile (fun y => lt x.f0.f0 y.f0.f0)).reverse, ?_, fun y hy => ?_, fun y hy => ?_⟩
  ·rw [← List.reverse_append, List.takeWhile_append_dropWhile, List.reverse_reverse]
  ·rw [List.mem_reverse] at hy
   have h1 := List.all_takeWhile (l := acc.reverse) (p := fun y => lt x.f0.f0 y.f0.f0)
   rw [List.all_eq_true] at h1
   exact h1 y hy
  ·rw [List.getLast?_reverse] at hy
   have := List.head?_dropWhile_not (fun y => lt x.f0.f0 y.f0.f0) acc.reverse
   rw [hy] at this
   simpa using this
 subst hab
 rw [insR_at x a b hb ha]
 unfold RiseC at h ⊢
 rw [List.pairwise_append] at h ⊢
 refine ⟨h.1, List.pairwise_cons.2 ⟨hb, h.2.1⟩, fun y hy z hz => ?_⟩
 have hyx : lt y.f0.f0 x.f0.f0 = true := by
  -- the last one of a is not behind x; y is not behind the last one
  obtain ⟨w, hw⟩ : ∃ w, a.getLast? = some w := by
   cases hl : a.getLast? with
   | some w => exact ⟨w, rfl⟩
   | none => rw [List.getLast?_eq_none_iff] at hl; subst hl; cases hy
  have h1 := ha w hw
  have hwm : w ∈ a := List.mem_of_getLast? hw
  have h2 : lt w.f0.f0 x.f0.f0 = true := by
   rcases lt_tri w.f0.f0 x.f0.f0 with h | h | h
   ·exact h
   ·exact absurd (ba_ext h) (hx w (List.mem_append_left _ hwm))
   ·rw [h1] at h; cases h
  by_cases e : y = w
  ·rw [e]; exact h2
  ·refine lt_trans ?_ h2
   have h3 := h.1
   obtain ⟨ini, hini⟩ : ∃ ini, a = ini ++ [w] := (by rw [List.getLast?_eq_some_iff] at hw; exact hw)
   rw [hini] at h3 hy
   rw [List.pairwise_append] at h3
   rcases List.mem_append.1 hy with h4 | h4
   ·exact h3.2.2 y h4 w (by simp)
   ·rw [List.mem_singleton] at h4; exact absurd h4 e
 rcases List.mem_cons.1 hz with rfl | hz
 ·exact hyx
 ·exact h.2.2 y hy z hz
theorem sortC_rise_from {l acc : List Cls} (h : RiseC acc) (hn : ((acc ++ l).map (fun x => x.f0.f0)).Nodup) : RiseC (l.foldl (fun acc x => insR x acc) acc) := by
 induction l generalizing acc with
 | nil => exact h
 | cons x l ih =>
  rw [List.foldl_cons]
  have h1 : ∀ y ∈ acc, y.f0.f0 ≠ x.f0.f0 := by
   intro y hy e
   rw [List.map_append, List.nodup_append] at hn
   exact hn.2.2 _ (List.mem_map.2 ⟨y, hy, rfl⟩) _ (List.mem_map.2 ⟨x, List.mem_cons_self, rfl⟩) e
  refine ih (insR_rise h h1) ?_
  refine (List.Perm.nodup_iff ?_).1 hn
  refine List.Perm.map _ ?_
  refine List.perm_middle.trans ?_
  exact ((insR_perm x acc).append_right l).symm
theorem sortC_rise {l : List Cls} (hn : (l.map (fun x => x.f0.f0)).Nodup) : RiseC (sortC l) := sortC_rise_from List.Pairwise.nil hn
end Go.Proofs.YtfljbidecljlcaaDoor

namespace Go.Proofs.YtfljbidecljlcaaDoor.Print
open Go.RowKit Go.Proofs.YtfljbidecljlcaaDoorW.PrintWords Go.Proofs.YtfljbidecljlcaaDoorW.PrintLast Go.Proofs.YtfljbidecljlcaaDoorW.PrintMore
attribute [local go_sem] max2_int min2_int max_two min_two max_three min_three max_four min_four   -- for this text's walks alone
set_option linter.unusedVariables false
set_option linter.unusedSimpArgs false
def bindleref08_at.l0 : Nat → List (S76) → ByteArray → Int → Option (Int)
 | 0, _, _, _ => none
 | k + 1, x0, x1, x5 => if x5 < (x0.length : Int) then (if 0 ≤ x5 then (if ((rd_T76 x0 x5).f0.f0).toList = x1.toList then (some x5) else (bindleref08_at.l0 k x0 x1 (wrap64 (x5 + 1)))) else (none)) else (some (-1))
def bindleref08_at.f (k : Nat) (l0 : List (S76)) (a1 : ByteArray) : Option (Int) := bindleref08_at.l0 k l0 a1 0
set_option maxHeartbeats 8000000 in
set_option maxRecDepth 100000 in
theorem bindleref08_at.calls (k : Nat) (A0 : Option Addr) (c0 : Nat) (l0 : List (S76)) (a1 : ByteArray) (r : Int) (w : World) (hr0 : Kd.C k76 w A0 l0.length l0) (hc0 : l0.length ≤ c0) (h : bindleref08_at.f k l0 a1 = some r) :
  Calls Tryd.prog 48 #[.slice A0 l0.length c0, .string a1] w fun e w' => e = .returned (.int .i64 r) ∧ Drawn0 w w' := by
 have HR0 := A0_ hr0
 have HC0 := A0_ hc0
 clear hr0 hc0
 have H : (bindleref08_at.l0 k l0 a1 0) = some r := h
 clear h
 have H' := A0_ H
 clear H
 go_enter Tryd.func48, Tryd.ntmps48
 go_wp2
 go_loopg [5] k (fun kq v5 w' => ∃ (x5_1 : Int), v5 = .int .i64 x5_1 ∧ Aside0 (bindleref08_at.l0 kq l0 a1 x5_1 = some r) ∧ Aside0 (kq ≤ k) ∧ Drawn0 w w')
 case atStart => exact ⟨(0), wr_, H', ⟨Nat.le_refl _⟩, by repeat (first | exact Drawn0.refl _ | apply Drawn0.step)⟩
 case round =>
  clear H'
  try clear p2
  obtain ⟨x5_1, rfl, HA, HK1, ⟨m1, rfl⟩⟩ := hrel
  cases gk with
  | zero => exact absurd HA.out (by simp [bindleref08_at.l0])
  | succ k1 =>
   have H := HA.out
   clear HA
   simp only [bindleref08_at.l0] at H
   by_cases c3 : x5_1 < (l0.length : Int)
   rotate_left
   ·rw [if_neg c3] at H
    have c3b0 : decide (x5_1 < (l0.length : Int)) = false := decide_eq_false c3
    clear c3
    obtain rfl := Option.some.inj H
    go_wp2
    go_ret
    exact ⟨by first | rfl | (simp; done) | (simp [*]; done), by repeat (first | exact Drawn0.refl _ | apply Drawn0.step)⟩
   rw [if_pos c3] at H
   have c3b0 : decide (x5_1 < (l0.length : Int)) = true := decide_eq_true c3
   clear c3
   by_cases c4 : 0 ≤ x5_1
   rotate_left
   ·rw [if_neg c4] at H
    exact absurd H (by simp)
   rw [if_pos c4] at H
   have c4b0 : decide (0 ≤ x5_1) = true := decide_eq_true c4
   clear c4
   by_cases c5 : ((rd_T76 l0 x5_1).f0.f0).toList = a1.toList
   ·rw [if_pos c5] at H
    have c5b0 : (((rd_T76 l0 x5_1).f0.f0).toList == a1.toList) = true := beq_iff_eq.mpr c5
    have c5b1 : (((rd_T76 l0 x5_1).f0.f0).toList != a1.toList) = false := bne_eq_false_iff_eq.mpr c5
    clear c5
    obtain rfl := Option.some.inj H
    have p618 : 0 ≤ (x5_1 : Int) := wd_
    have q618 : x5_1 < (l0.length : Int) := wd_
    obtain ⟨ad618, A618_8, c618_8, e618, hx618_0, hx618_1, hx618_2, hx618_3, hx618_4, hx618_5, hx618_6, hx618_7, hx618_8, hx618_9, hl618_8, hi618_8⟩ := at_T76 HR0.out x5_1 p618 q618
    cases e618
    have HR618_8 := A0_ hi618_8
    have HC618_8 := A0_ hl618_8
    clear hi618_8 hl618_8
    replace p618 := eq_true p618
    replace q618 := eq_true q618
    go_wp2
    go_ret
    exact ⟨by first | rfl | (simp; done) | (simp [*]; done), by repeat (first | exact Drawn0.refl _ | apply Drawn0.step)⟩
   rw [if_neg c5] at H
   have c5b0 : (((rd_T76 l0 x5_1).f0.f0).toList == a1.toList) = false := beq_eq_false_iff_ne.mpr c5
   have c5b1 : (((rd_T76 l0 x5_1).f0.f0).toList != a1.toList) = true := bne_iff_ne.mpr c5
   have H' := A0_ H
   clear H
   have p618 : 0 ≤ (x5_1 : Int) := wd_
   have q618 : x5_1 < (l0.length : Int) := wd_
   obtain ⟨ad618, A618_8, c618_8, e618, hx618_0, hx618_1, hx618_2, hx618_3, hx618_4, hx618_5, hx618_6, hx618_7, hx618_8, hx618_9, hl618_8, hi618_8⟩ := at_T76 HR0.out x5_1 p618 q618
   cases e618
   have HR618_8 := A0_ hi618_8
   have HC618_8 := A0_ hl618_8
   clear hi618_8 hl618_8
   replace p618 := eq_true p618
   replace q618 := eq_true q618
   go_wp2
   go_roundg k1
   case measure => have := HK1.out; omega
   case rel => exact ⟨(wrap64 (x5_1 + 1)), wr_, H', ⟨by have := HK1.out; omega⟩, by repeat (first | exact Drawn0.refl _ | apply Drawn0.step)⟩
end Go.Proofs.YtfljbidecljlcaaDoor.Print
