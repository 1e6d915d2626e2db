/-
  Part of the proof that TreeOrder answers true: texts put together (wip/bundle.py).
-/
import Derived.Test.YtiijbmaamblidaaDoorCTreeOrder3
import Derived.Deep.RegionHeld3
import Derived.Laws.Cover1
import Derived.Deep.LoopGhost
import Derived.Deep.DeepCutAuto
import Derived.IntWalk
import Derived.Deep.QuietTactic
import Derived.BigQuiet
import Derived.Laws.MakeOwn
import Derived.SizedLaws
import Derived.ChangeSlices
import Derived.OpenShut
namespace Go.Proofs.YtiijbmaamblidaaDoor.Print
open Go.RowKit Go.Proofs.YtiijbmaamblidaaDoorW.PrintWords Go.Proofs.YtiijbmaamblidaaDoorW.PrintLast Go.Proofs.YtiijbmaamblidaaDoorW.PrintMore
attribute [local go_sem] max2_int min2_int max_two min_two max_three min_three max_four min_four   -- for this text's walks alone
set_option linter.unusedVariables false
set_option linter.unusedSimpArgs false
attribute [local go_sem high] eqA24
attribute [local go_sem high] binOp_leq_less
def tree_led.f (l0 : List (S38)) (a1_0 : ByteArray) (a1_1 : ByteArray) (a1_2 : ByteArray) (a1_3 : Int) (a1_4 : Int) (a1_5 : Int) (a1_6 : Int) (a1_7 : Int) (l1_8 : List Int) : Option (Bool) := if a1_3 = 48 then ((tree_Find.f l0 a1_2).bind fun bt311 => (if bt311.2.2.2.2.2.2.2.2.2 = true then (if bt311.2.2.2.1 = 48 then (if bt311.2.2.1.toList = bt311.1.toList then (if ((Op.bytesLess a1_0.toList bt311.1.toList) = true) then (some false) else (if (bt311.2.2.2.2.1 == a1_4 && (bt311.2.2.2.2.2.1 == a1_5 && (bt311.2.2.2.2.2.2.1 == a1_6 && (bt311.2.2.2.2.2.2.2.1 == a1_7)))) = true then ((bytes_Equal.f bt311.2.2.2.2.2.2.2.2.1 l1_8).bind fun t324 => (some t324)) else (some false))) else (some false)) else (some false)) else (some false))) else (some (a1_2.toList == ([] : List UInt8)))
set_option maxHeartbeats 8000000 in
set_option maxRecDepth 100000 in
theorem tree_led.calls (A0 : Option Addr) (c0 : Nat) (l0 : List (S38)) (a1_0 : ByteArray) (a1_1 : ByteArray) (a1_2 : ByteArray) (a1_3 : Int) (a1_4 : Int) (a1_5 : Int) (a1_6 : Int) (a1_7 : Int) (A1_8 : Option Addr) (c1_8 : Nat) (l1_8 : List Int) (r : Bool) (w : World) (hr0 : Kd.C k38 w A0 l0.length l0) (hc0 : l0.length ≤ c0) (hr1_8 : Kd.C (Kd.int .u8) w A1_8 l1_8.length l1_8) (hc1_8 : l1_8.length ≤ c1_8) (h : tree_led.f l0 a1_0 a1_1 a1_2 a1_3 a1_4 a1_5 a1_6 a1_7 l1_8 = some r) :
  Calls Tryd.prog 36 #[.slice A0 l0.length c0, .agg #[.string a1_0, .string a1_1, .string a1_2, .int .u8 a1_3, .int .i64 a1_4, .int .i64 a1_5, .int .i64 a1_6, .int .i64 a1_7, .slice A1_8 l1_8.length c1_8]] w fun e w' => e = .returned (.bool r) ∧ Below w.heap.size w w' := by
 have hu38 := Tryd.underlying38
 have hu24 := Tryd.underlying24
 have HR0 := A0_ hr0
 have HC0 := A0_ hc0
 clear hr0 hc0
 have HR1_8 := A0_ hr1_8
 have HC1_8 := A0_ hc1_8
 clear hr1_8 hc1_8
 have HB := A0_ (Below.refl w.heap.size w)
 have H : (if a1_3 = 48 then ((tree_Find.f l0 a1_2).bind fun bt311 => (if bt311.2.2.2.2.2.2.2.2.2 = true then (if bt311.2.2.2.1 = 48 then (if bt311.2.2.1.toList = bt311.1.toList then (if ((Op.bytesLess a1_0.toList bt311.1.toList) = true) then (some false) else (if (bt311.2.2.2.2.1 == a1_4 && (bt311.2.2.2.2.2.1 == a1_5 && (bt311.2.2.2.2.2.2.1 == a1_6 && (bt311.2.2.2.2.2.2.2.1 == a1_7)))) = true then ((bytes_Equal.f bt311.2.2.2.2.2.2.2.2.1 l1_8).bind fun t324 => (some t324)) else (some false))) else (some false)) else (some false)) else (some false))) else (some (a1_2.toList == ([] : List UInt8)))) = some r := h
 clear h
 by_cases c3 : a1_3 = 48
 rotate_left
 ·rw [if_neg c3] at H
  have c3b0 : (a1_3 == 48) = false := beq_eq_false_iff_ne.mpr c3
  have c3b1 : (a1_3 != 48) = true := bne_iff_ne.mpr c3
  obtain rfl := Option.some.inj H
  go_enter Tryd.func36, Tryd.ntmps36
  go_wp2_with (first | ((with_reducible refine gate_dst (N := 3) rfl ?_); refine box_event ?hg (N := 3) ?hd (cs := #[.string a1_0, .string a1_1, .string a1_2, .int .u8 a1_3, .int .i64 a1_4, .int .i64 a1_5, .int .i64 a1_6, .int .i64 a1_7, .slice A1_8 l1_8.length c1_8]) (t := 38) ?hr ?_; (case hd => rfl); (case hg => rfl); (case hr => first | (go_simp; done) | (go_simp; rfl)); intro gb310 hg w56 hbox hb; have n0_ := A0_ (below_step (wb_ HB.out) hb); have n1_ := A0_ (hbox); have n2_ := A0_ ((by rw [hg]; exact (below_size (wb_ HB.out)) : w.heap.size ≤ gb310)); have n3_ := A0_ ((by rw [hg]; exact (below_size (wb_ HB.out)) : w.heap.size ≤ gb310)); clear HB; have HB := n0_; have BK310 := n1_; have GW310 := n2_; have GE310 := n3_; clear n0_ n1_ n2_ n3_; clear hb hbox hg; have hcz57_0 : w56.cell? ⟨gb310, 0, none⟩ = some (.string a1_0) := (bc_ BK310.out 0).trans rfl; have hcz57_1 : w56.cell? ⟨gb310, 1, none⟩ = some (.string a1_1) := (bc_ BK310.out 1).trans rfl; have hcz57_2 : w56.cell? ⟨gb310, 2, none⟩ = some (.string a1_2) := (bc_ BK310.out 2).trans rfl; have hcz57_3 : w56.cell? ⟨gb310, 3, none⟩ = some (.int .u8 a1_3) := (bc_ BK310.out 3).trans rfl; have hcz57_4 : w56.cell? ⟨gb310, 4, none⟩ = some (.int .i64 a1_4) := (bc_ BK310.out 4).trans rfl; have hcz57_5 : w56.cell? ⟨gb310, 5, none⟩ = some (.int .i64 a1_5) := (bc_ BK310.out 5).trans rfl; have hcz57_6 : w56.cell? ⟨gb310, 6, none⟩ = some (.int .i64 a1_6) := (bc_ BK310.out 6).trans rfl; have hcz57_7 : w56.cell? ⟨gb310, 7, none⟩ = some (.int .i64 a1_7) := (bc_ BK310.out 7).trans rfl; have hcz57_8 : w56.cell? ⟨gb310, 8, none⟩ = some (.slice A1_8 l1_8.length c1_8) := (bc_ BK310.out 8).trans rfl; have hfz57_0 := bf_ BK310.out 0; have hfz57_1 := bf_ BK310.out 1; have hfz57_2 := bf_ BK310.out 2; have hfz57_3 := bf_ BK310.out 3; have hfz57_4 := bf_ BK310.out 4; have hfz57_5 := bf_ BK310.out 5; have hfz57_6 := bf_ BK310.out 6; have hfz57_7 := bf_ BK310.out 7; have hfz57_8 := bf_ BK310.out 8))
  go_ret
  exact ⟨we_, wb1_ HB.out GE310.out⟩
 rw [if_pos c3] at H
 have c3b0 : (a1_3 == 48) = true := beq_iff_eq.mpr c3
 have c3b1 : (a1_3 != 48) = false := bne_eq_false_iff_eq.mpr c3
 clear c3
 replace H := Option.bind_eq_some_iff.mp H
 obtain ⟨⟨t311, t312, t313, t314, t315, t316, t317, t318, t319, t322⟩, A40, H⟩ := H
 replace H : (if t322 = true then (if t314 = 48 then (if t313.toList = t311.toList then (if ((Op.bytesLess a1_0.toList t311.toList) = true) then (some false) else (if (t315 == a1_4 && (t316 == a1_5 && (t317 == a1_6 && (t318 == a1_7)))) = true then ((bytes_Equal.f t319 l1_8).bind fun t324 => (some t324)) else (some false))) else (some false)) else (some false)) else (some false)) = some r := H
 have A4 := A0_ A40
 clear A40
 by_cases c5 : t322 = true
 rotate_left
 ·replace c5 := Bool.eq_false_iff.mpr c5
  subst c5
  have H1 : (some false) = some r := by rw [if_neg (show ¬ (false = true) by decide)] at H; exact H
  clear H
  have H := H1
  clear H1
  obtain rfl := Option.some.inj H
  go_enter Tryd.func36, Tryd.ntmps36
  go_wp2_with (first | ((with_reducible refine gate_dst (N := 3) rfl ?_); refine box_event ?hg (N := 3) ?hd (cs := #[.string a1_0, .string a1_1, .string a1_2, .int .u8 a1_3, .int .i64 a1_4, .int .i64 a1_5, .int .i64 a1_6, .int .i64 a1_7, .slice A1_8 l1_8.length c1_8]) (t := 38) ?hr ?_; (case hd => rfl); (case hg => rfl); (case hr => first | (go_simp; done) | (go_simp; rfl)); intro gb310 hg w49 hbox hb; have n0_ := A0_ (below_step (wb_ HB.out) hb); have n1_ := A0_ (hbox); have n2_ := A0_ ((by rw [hg]; exact (below_size (wb_ HB.out)) : w.heap.size ≤ gb310)); have n3_ := A0_ ((by rw [hg]; exact (below_size (wb_ HB.out)) : w.heap.size ≤ gb310)); clear HB; have HB := n0_; have BK310 := n1_; have GW310 := n2_; have GE310 := n3_; clear n0_ n1_ n2_ n3_; clear hb hbox hg; have hcz50_0 : w49.cell? ⟨gb310, 0, none⟩ = some (.string a1_0) := (bc_ BK310.out 0).trans rfl; have hcz50_1 : w49.cell? ⟨gb310, 1, none⟩ = some (.string a1_1) := (bc_ BK310.out 1).trans rfl; have hcz50_2 : w49.cell? ⟨gb310, 2, none⟩ = some (.string a1_2) := (bc_ BK310.out 2).trans rfl; have hcz50_3 : w49.cell? ⟨gb310, 3, none⟩ = some (.int .u8 a1_3) := (bc_ BK310.out 3).trans rfl; have hcz50_4 : w49.cell? ⟨gb310, 4, none⟩ = some (.int .i64 a1_4) := (bc_ BK310.out 4).trans rfl; have hcz50_5 : w49.cell? ⟨gb310, 5, none⟩ = some (.int .i64 a1_5) := (bc_ BK310.out 5).trans rfl; have hcz50_6 : w49.cell? ⟨gb310, 6, none⟩ = some (.int .i64 a1_6) := (bc_ BK310.out 6).trans rfl; have hcz50_7 : w49.cell? ⟨gb310, 7, none⟩ = some (.int .i64 a1_7) := (bc_ BK310.out 7).trans rfl; have hcz50_8 : w49.cell? ⟨gb310, 8, none⟩ = some (.slice A1_8 l1_8.length c1_8) := (bc_ BK310.out 8).trans rfl; have hfz50_0 := bf_ BK310.out 0; have hfz50_1 := bf_ BK310.out 1; have hfz50_2 := bf_ BK310.out 2; have hfz50_3 := bf_ BK310.out 3; have hfz50_4 := bf_ BK310.out 4; have hfz50_5 := bf_ BK310.out 5; have hfz50_6 := bf_ BK310.out 6; have hfz50_7 := bf_ BK310.out 7; have hfz50_8 := bf_ BK310.out 8) | ((with_reducible refine gate_callee (f := 43) rfl ?_); refine goesL_ (some 17) rfl rfl Tryd.func43 (by kernel_rfl) rfl #[.slice A0 l0.length c0, .string a1_2] rfl wm_ ?_; (with_reducible refine (tree_Find.calls _ _ l0 a1_2 t311 t312 t313 t314 t315 t316 t317 t318 t319 false _ ?side1 ?side2 A4.out).mono ?_); (case side1 => exact wc_ (Kd.C_below HR0.out HB.out)); (case side2 => exact HC0.out); rintro e w51 ⟨v320, rfl, ho0, hb⟩; refine ⟨_, rfl, ?_⟩; have n0_ := A0_ (Kd.V_lower (Kd.V_mono (ok' := fun k_ => k_ ≠ gb310) ho0 (fun k_ hk_ => (Kd.freshB (g := gb310) (o := .cells #[.string a1_0, .string a1_1, .string a1_2, .int .u8 a1_3, .int .i64 a1_4, .int .i64 a1_5, .int .i64 a1_6, .int .i64 a1_7, .slice A1_8 l1_8.length c1_8] 38 (0, 0)) (wB_ BK310.out) k_ hk_))) (below_size (wb1_ HB.out GE310.out))); have n1_ := A0_ (blk_below (g := gb310) (o := .cells #[.string a1_0, .string a1_1, .string a1_2, .int .u8 a1_3, .int .i64 a1_4, .int .i64 a1_5, .int .i64 a1_6, .int .i64 a1_7, .slice A1_8 l1_8.length c1_8] 38 (0, 0)) (wB_ BK310.out) hb); have n2_ := A0_ (below_step (wb1_ HB.out GE310.out) hb); clear BK310; clear HB; have HO321 := n0_; have BK310 := n1_; have HB := n2_; clear n0_ n1_ n2_; (try clear hb); (try clear hb2); (try clear hk); (try clear hi); (try clear ho0)) | ((with_reducible refine gate_dst (N := 5) rfl ?_); refine box_event ?hg (N := 5) ?hd (cs := #[.string (⟨#[]⟩ : ByteArray), .string (⟨#[]⟩ : ByteArray), .string (⟨#[]⟩ : ByteArray), .int .u8 0, .int .i64 0, .int .i64 0, .int .i64 0, .int .i64 0, .slice none 0 0]) (t := 38) ?hr ?_; (case hd => rfl); (case hg => rfl); (case hr => first | (go_simp; done) | (go_simp; rfl)); intro gb323 hg w52 hbox hb; have n0_ := A0_ (Vb_ (Kd.V_elderB (wV_ HO321.out) gb323 (Nat.le_of_eq hg.symm)) hb); have n1_ := A0_ (blk_below (g := gb310) (o := .cells #[.string a1_0, .string a1_1, .string a1_2, .int .u8 a1_3, .int .i64 a1_4, .int .i64 a1_5, .int .i64 a1_6, .int .i64 a1_7, .slice A1_8 l1_8.length c1_8] 38 (0, 0)) (wB_ BK310.out) hb); have n2_ := A0_ (below_step (wb1_ HB.out GE310.out) hb); have n3_ := A0_ (hbox); have n4_ := A0_ ((by rw [hg]; exact (below_size (wb1_ HB.out GE310.out)) : w.heap.size ≤ gb323)); have n5_ := A0_ ((by rw [hg]; exact (below_size (wb1_ HB.out GE310.out)) : w.heap.size ≤ gb323)); have n6_ := A0_ ((by rw [hg]; exact Nat.ne_of_lt (blk_lt (g := gb310) (o := .cells #[.string a1_0, .string a1_1, .string a1_2, .int .u8 a1_3, .int .i64 a1_4, .int .i64 a1_5, .int .i64 a1_6, .int .i64 a1_7, .slice A1_8 l1_8.length c1_8] 38 (0, 0)) (wB_ BK310.out)) : gb310 ≠ gb323)); have n7_ := A0_ ((by rw [hg]; exact Nat.ne_of_gt (blk_lt (g := gb310) (o := .cells #[.string a1_0, .string a1_1, .string a1_2, .int .u8 a1_3, .int .i64 a1_4, .int .i64 a1_5, .int .i64 a1_6, .int .i64 a1_7, .slice A1_8 l1_8.length c1_8] 38 (0, 0)) (wB_ BK310.out)) : gb323 ≠ gb310)); clear HO321; clear BK310; clear HB; have HO321 := n0_; have BK310 := n1_; have HB := n2_; have BK323 := n3_; have GW323 := n4_; have GE323 := n5_; have NB310_323 := n6_; have NB323_310 := n7_; clear n0_ n1_ n2_ n3_ n4_ n5_ n6_ n7_; clear hb hbox hg; have hnb53 := NB323_310.out; have hnc53 := NB310_323.out; have hcz54_0 : w52.cell? ⟨gb323, 0, none⟩ = some (.string (⟨#[]⟩ : ByteArray)) := (bc_ BK323.out 0).trans rfl; have hcz54_1 : w52.cell? ⟨gb323, 1, none⟩ = some (.string (⟨#[]⟩ : ByteArray)) := (bc_ BK323.out 1).trans rfl; have hcz54_2 : w52.cell? ⟨gb323, 2, none⟩ = some (.string (⟨#[]⟩ : ByteArray)) := (bc_ BK323.out 2).trans rfl; have hcz54_3 : w52.cell? ⟨gb323, 3, none⟩ = some (.int .u8 0) := (bc_ BK323.out 3).trans rfl; have hcz54_4 : w52.cell? ⟨gb323, 4, none⟩ = some (.int .i64 0) := (bc_ BK323.out 4).trans rfl; have hcz54_5 : w52.cell? ⟨gb323, 5, none⟩ = some (.int .i64 0) := (bc_ BK323.out 5).trans rfl; have hcz54_6 : w52.cell? ⟨gb323, 6, none⟩ = some (.int .i64 0) := (bc_ BK323.out 6).trans rfl; have hcz54_7 : w52.cell? ⟨gb323, 7, none⟩ = some (.int .i64 0) := (bc_ BK323.out 7).trans rfl; have hcz54_8 : w52.cell? ⟨gb323, 8, none⟩ = some (.slice none 0 0) := (bc_ BK323.out 8).trans rfl; have hfz54_0 := bf_ BK323.out 0; have hfz54_1 := bf_ BK323.out 1; have hfz54_2 := bf_ BK323.out 2; have hfz54_3 := bf_ BK323.out 3; have hfz54_4 := bf_ BK323.out 4; have hfz54_5 := bf_ BK323.out 5; have hfz54_6 := bf_ BK323.out 6; have hfz54_7 := bf_ BK323.out 7; have hfz54_8 := bf_ BK323.out 8; obtain ⟨Ao55, co55, eo55⟩ := Kd.V_slice HO321.out; subst eo55))
  go_ret
  exact ⟨we_, wb2_ HB.out GE310.out GE323.out⟩
 subst c5
 have H1 : (if t314 = 48 then (if t313.toList = t311.toList then (if ((Op.bytesLess a1_0.toList t311.toList) = true) then (some false) else (if (t315 == a1_4 && (t316 == a1_5 && (t317 == a1_6 && (t318 == a1_7)))) = true then ((bytes_Equal.f t319 l1_8).bind fun t324 => (some t324)) else (some false))) else (some false)) else (some false)) = some r := by rw [if_pos rfl] at H; exact H
 clear H
 have H := H1
 clear H1
 by_cases c6 : t314 = 48
 rotate_left
 ·rw [if_neg c6] at H
  have c6b0 : (t314 == 48) = false := beq_eq_false_iff_ne.mpr c6
  have c6b1 : (t314 != 48) = true := bne_iff_ne.mpr c6
  obtain rfl := Option.some.inj H
  go_enter Tryd.func36, Tryd.ntmps36
  go_wp2_with (first | ((with_reducible refine gate_dst (N := 3) rfl ?_); refine box_event ?hg (N := 3) ?hd (cs := #[.string a1_0, .string a1_1, .string a1_2, .int .u8 a1_3, .int .i64 a1_4, .int .i64 a1_5, .int .i64 a1_6, .int .i64 a1_7, .slice A1_8 l1_8.length c1_8]) (t := 38) ?hr ?_; (case hd => rfl); (case hg => rfl); (case hr => first | (go_simp; done) | (go_simp; rfl)); intro gb310 hg w42 hbox hb; have n0_ := A0_ (below_step (wb_ HB.out) hb); have n1_ := A0_ (hbox); have n2_ := A0_ ((by rw [hg]; exact (below_size (wb_ HB.out)) : w.heap.size ≤ gb310)); have n3_ := A0_ ((by rw [hg]; exact (below_size (wb_ HB.out)) : w.heap.size ≤ gb310)); clear HB; have HB := n0_; have BK310 := n1_; have GW310 := n2_; have GE310 := n3_; clear n0_ n1_ n2_ n3_; clear hb hbox hg; have hcz43_0 : w42.cell? ⟨gb310, 0, none⟩ = some (.string a1_0) := (bc_ BK310.out 0).trans rfl; have hcz43_1 : w42.cell? ⟨gb310, 1, none⟩ = some (.string a1_1) := (bc_ BK310.out 1).trans rfl; have hcz43_2 : w42.cell? ⟨gb310, 2, none⟩ = some (.string a1_2) := (bc_ BK310.out 2).trans rfl; have hcz43_3 : w42.cell? ⟨gb310, 3, none⟩ = some (.int .u8 a1_3) := (bc_ BK310.out 3).trans rfl; have hcz43_4 : w42.cell? ⟨gb310, 4, none⟩ = some (.int .i64 a1_4) := (bc_ BK310.out 4).trans rfl; have hcz43_5 : w42.cell? ⟨gb310, 5, none⟩ = some (.int .i64 a1_5) := (bc_ BK310.out 5).trans rfl; have hcz43_6 : w42.cell? ⟨gb310, 6, none⟩ = some (.int .i64 a1_6) := (bc_ BK310.out 6).trans rfl; have hcz43_7 : w42.cell? ⟨gb310, 7, none⟩ = some (.int .i64 a1_7) := (bc_ BK310.out 7).trans rfl; have hcz43_8 : w42.cell? ⟨gb310, 8, none⟩ = some (.slice A1_8 l1_8.length c1_8) := (bc_ BK310.out 8).trans rfl; have hfz43_0 := bf_ BK310.out 0; have hfz43_1 := bf_ BK310.out 1; have hfz43_2 := bf_ BK310.out 2; have hfz43_3 := bf_ BK310.out 3; have hfz43_4 := bf_ BK310.out 4; have hfz43_5 := bf_ BK310.out 5; have hfz43_6 := bf_ BK310.out 6; have hfz43_7 := bf_ BK310.out 7; have hfz43_8 := bf_ BK310.out 8) | ((with_reducible refine gate_callee (f := 43) rfl ?_); refine goesL_ (some 17) rfl rfl Tryd.func43 (by kernel_rfl) rfl #[.slice A0 l0.length c0, .string a1_2] rfl wm_ ?_; (with_reducible refine (tree_Find.calls _ _ l0 a1_2 t311 t312 t313 t314 t315 t316 t317 t318 t319 true _ ?side1 ?side2 A4.out).mono ?_); (case side1 => exact wc_ (Kd.C_below HR0.out HB.out)); (case side2 => exact HC0.out); rintro e w44 ⟨v320, rfl, ho0, hb⟩; refine ⟨_, rfl, ?_⟩; have n0_ := A0_ (Kd.V_lower (Kd.V_mono (ok' := fun k_ => k_ ≠ gb310) ho0 (fun k_ hk_ => (Kd.freshB (g := gb310) (o := .cells #[.string a1_0, .string a1_1, .string a1_2, .int .u8 a1_3, .int .i64 a1_4, .int .i64 a1_5, .int .i64 a1_6, .int .i64 a1_7, .slice A1_8 l1_8.length c1_8] 38 (0, 0)) (wB_ BK310.out) k_ hk_))) (below_size (wb1_ HB.out GE310.out))); have n1_ := A0_ (blk_below (g := gb310) (o := .cells #[.string a1_0, .string a1_1, .string a1_2, .int .u8 a1_3, .int .i64 a1_4, .int .i64 a1_5, .int .i64 a1_6, .int .i64 a1_7, .slice A1_8 l1_8.length c1_8] 38 (0, 0)) (wB_ BK310.out) hb); have n2_ := A0_ (below_step (wb1_ HB.out GE310.out) hb); clear BK310; clear HB; have HO321 := n0_; have BK310 := n1_; have HB := n2_; clear n0_ n1_ n2_; (try clear hb); (try clear hb2); (try clear hk); (try clear hi); (try clear ho0)) | ((with_reducible refine gate_dst (N := 5) rfl ?_); refine box_event ?hg (N := 5) ?hd (cs := #[.string (⟨#[]⟩ : ByteArray), .string (⟨#[]⟩ : ByteArray), .string (⟨#[]⟩ : ByteArray), .int .u8 0, .int .i64 0, .int .i64 0, .int .i64 0, .int .i64 0, .slice none 0 0]) (t := 38) ?hr ?_; (case hd => rfl); (case hg => rfl); (case hr => first | (go_simp; done) | (go_simp; rfl)); intro gb323 hg w45 hbox hb; have n0_ := A0_ (Vb_ (Kd.V_elderB (wV_ HO321.out) gb323 (Nat.le_of_eq hg.symm)) hb); have n1_ := A0_ (blk_below (g := gb310) (o := .cells #[.string a1_0, .string a1_1, .string a1_2, .int .u8 a1_3, .int .i64 a1_4, .int .i64 a1_5, .int .i64 a1_6, .int .i64 a1_7, .slice A1_8 l1_8.length c1_8] 38 (0, 0)) (wB_ BK310.out) hb); have n2_ := A0_ (below_step (wb1_ HB.out GE310.out) hb); have n3_ := A0_ (hbox); have n4_ := A0_ ((by rw [hg]; exact (below_size (wb1_ HB.out GE310.out)) : w.heap.size ≤ gb323)); have n5_ := A0_ ((by rw [hg]; exact (below_size (wb1_ HB.out GE310.out)) : w.heap.size ≤ gb323)); have n6_ := A0_ ((by rw [hg]; exact Nat.ne_of_lt (blk_lt (g := gb310) (o := .cells #[.string a1_0, .string a1_1, .string a1_2, .int .u8 a1_3, .int .i64 a1_4, .int .i64 a1_5, .int .i64 a1_6, .int .i64 a1_7, .slice A1_8 l1_8.length c1_8] 38 (0, 0)) (wB_ BK310.out)) : gb310 ≠ gb323)); have n7_ := A0_ ((by rw [hg]; exact Nat.ne_of_gt (blk_lt (g := gb310) (o := .cells #[.string a1_0, .string a1_1, .string a1_2, .int .u8 a1_3, .int .i64 a1_4, .int .i64 a1_5, .int .i64 a1_6, .int .i64 a1_7, .slice A1_8 l1_8.length c1_8] 38 (0, 0)) (wB_ BK310.out)) : gb323 ≠ gb310)); clear HO321; clear BK310; clear HB; have HO321 := n0_; have BK310 := n1_; have HB := n2_; have BK323 := n3_; have GW323 := n4_; have GE323 := n5_; have NB310_323 := n6_; have NB323_310 := n7_; clear n0_ n1_ n2_ n3_ n4_ n5_ n6_ n7_; clear hb hbox hg; have hnb46 := NB323_310.out; have hnc46 := NB310_323.out; have hcz47_0 : w45.cell? ⟨gb323, 0, none⟩ = some (.string (⟨#[]⟩ : ByteArray)) := (bc_ BK323.out 0).trans rfl; have hcz47_1 : w45.cell? ⟨gb323, 1, none⟩ = some (.string (⟨#[]⟩ : ByteArray)) := (bc_ BK323.out 1).trans rfl; have hcz47_2 : w45.cell? ⟨gb323, 2, none⟩ = some (.string (⟨#[]⟩ : ByteArray)) := (bc_ BK323.out 2).trans rfl; have hcz47_3 : w45.cell? ⟨gb323, 3, none⟩ = some (.int .u8 0) := (bc_ BK323.out 3).trans rfl; have hcz47_4 : w45.cell? ⟨gb323, 4, none⟩ = some (.int .i64 0) := (bc_ BK323.out 4).trans rfl; have hcz47_5 : w45.cell? ⟨gb323, 5, none⟩ = some (.int .i64 0) := (bc_ BK323.out 5).trans rfl; have hcz47_6 : w45.cell? ⟨gb323, 6, none⟩ = some (.int .i64 0) := (bc_ BK323.out 6).trans rfl; have hcz47_7 : w45.cell? ⟨gb323, 7, none⟩ = some (.int .i64 0) := (bc_ BK323.out 7).trans rfl; have hcz47_8 : w45.cell? ⟨gb323, 8, none⟩ = some (.slice none 0 0) := (bc_ BK323.out 8).trans rfl; have hfz47_0 := bf_ BK323.out 0; have hfz47_1 := bf_ BK323.out 1; have hfz47_2 := bf_ BK323.out 2; have hfz47_3 := bf_ BK323.out 3; have hfz47_4 := bf_ BK323.out 4; have hfz47_5 := bf_ BK323.out 5; have hfz47_6 := bf_ BK323.out 6; have hfz47_7 := bf_ BK323.out 7; have hfz47_8 := bf_ BK323.out 8; obtain ⟨Ao48, co48, eo48⟩ := Kd.V_slice HO321.out; subst eo48))
  go_ret
  exact ⟨we_, wb2_ HB.out GE310.out GE323.out⟩
 rw [if_pos c6] at H
 have c6b0 : (t314 == 48) = true := beq_iff_eq.mpr c6
 have c6b1 : (t314 != 48) = false := bne_eq_false_iff_eq.mpr c6
 clear c6
 by_cases c7 : t313.toList = t311.toList
 rotate_left
 ·rw [if_neg c7] at H
  have c7b0 : (t313.toList == t311.toList) = false := beq_eq_false_iff_ne.mpr c7
  have c7b1 : (t313.toList != t311.toList) = true := bne_iff_ne.mpr c7
  obtain rfl := Option.some.inj H
  go_enter Tryd.func36, Tryd.ntmps36
  go_wp2_with (first | ((with_reducible refine gate_dst (N := 3) rfl ?_); refine box_event ?hg (N := 3) ?hd (cs := #[.string a1_0, .string a1_1, .string a1_2, .int .u8 a1_3, .int .i64 a1_4, .int .i64 a1_5, .int .i64 a1_6, .int .i64 a1_7, .slice A1_8 l1_8.length c1_8]) (t := 38) ?hr ?_; (case hd => rfl); (case hg => rfl); (case hr => first | (go_simp; done) | (go_simp; rfl)); intro gb310 hg w35 hbox hb; have n0_ := A0_ (below_step (wb_ HB.out) hb); have n1_ := A0_ (hbox); have n2_ := A0_ ((by rw [hg]; exact (below_size (wb_ HB.out)) : w.heap.size ≤ gb310)); have n3_ := A0_ ((by rw [hg]; exact (below_size (wb_ HB.out)) : w.heap.size ≤ gb310)); clear HB; have HB := n0_; have BK310 := n1_; have GW310 := n2_; have GE310 := n3_; clear n0_ n1_ n2_ n3_; clear hb hbox hg; have hcz36_0 : w35.cell? ⟨gb310, 0, none⟩ = some (.string a1_0) := (bc_ BK310.out 0).trans rfl; have hcz36_1 : w35.cell? ⟨gb310, 1, none⟩ = some (.string a1_1) := (bc_ BK310.out 1).trans rfl; have hcz36_2 : w35.cell? ⟨gb310, 2, none⟩ = some (.string a1_2) := (bc_ BK310.out 2).trans rfl; have hcz36_3 : w35.cell? ⟨gb310, 3, none⟩ = some (.int .u8 a1_3) := (bc_ BK310.out 3).trans rfl; have hcz36_4 : w35.cell? ⟨gb310, 4, none⟩ = some (.int .i64 a1_4) := (bc_ BK310.out 4).trans rfl; have hcz36_5 : w35.cell? ⟨gb310, 5, none⟩ = some (.int .i64 a1_5) := (bc_ BK310.out 5).trans rfl; have hcz36_6 : w35.cell? ⟨gb310, 6, none⟩ = some (.int .i64 a1_6) := (bc_ BK310.out 6).trans rfl; have hcz36_7 : w35.cell? ⟨gb310, 7, none⟩ = some (.int .i64 a1_7) := (bc_ BK310.out 7).trans rfl; have hcz36_8 : w35.cell? ⟨gb310, 8, none⟩ = some (.slice A1_8 l1_8.length c1_8) := (bc_ BK310.out 8).trans rfl; have hfz36_0 := bf_ BK310.out 0; have hfz36_1 := bf_ BK310.out 1; have hfz36_2 := bf_ BK310.out 2; have hfz36_3 := bf_ BK310.out 3; have hfz36_4 := bf_ BK310.out 4; have hfz36_5 := bf_ BK310.out 5; have hfz36_6 := bf_ BK310.out 6; have hfz36_7 := bf_ BK310.out 7; have hfz36_8 := bf_ BK310.out 8) | ((with_reducible refine gate_callee (f := 43) rfl ?_); refine goesL_ (some 17) rfl rfl Tryd.func43 (by kernel_rfl) rfl #[.slice A0 l0.length c0, .string a1_2] rfl wm_ ?_; (with_reducible refine (tree_Find.calls _ _ l0 a1_2 t311 t312 t313 t314 t315 t316 t317 t318 t319 true _ ?side1 ?side2 A4.out).mono ?_); (case side1 => exact wc_ (Kd.C_below HR0.out HB.out)); (case side2 => exact HC0.out); rintro e w37 ⟨v320, rfl, ho0, hb⟩; refine ⟨_, rfl, ?_⟩; have n0_ := A0_ (Kd.V_lower (Kd.V_mono (ok' := fun k_ => k_ ≠ gb310) ho0 (fun k_ hk_ => (Kd.freshB (g := gb310) (o := .cells #[.string a1_0, .string a1_1, .string a1_2, .int .u8 a1_3, .int .i64 a1_4, .int .i64 a1_5, .int .i64 a1_6, .int .i64 a1_7, .slice A1_8 l1_8.length c1_8] 38 (0, 0)) (wB_ BK310.out) k_ hk_))) (below_size (wb1_ HB.out GE310.out))); have n1_ := A0_ (blk_below (g := gb310) (o := .cells #[.string a1_0, .string a1_1, .string a1_2, .int .u8 a1_3, .int .i64 a1_4, .int .i64 a1_5, .int .i64 a1_6, .int .i64 a1_7, .slice A1_8 l1_8.length c1_8] 38 (0, 0)) (wB_ BK310.out) hb); have n2_ := A0_ (below_step (wb1_ HB.out GE310.out) hb); clear BK310; clear HB; have HO321 := n0_; have BK310 := n1_; have HB := n2_; clear n0_ n1_ n2_; (try clear hb); (try clear hb2); (try clear hk); (try clear hi); (try clear ho0)) | ((with_reducible refine gate_dst (N := 5) rfl ?_); refine box_event ?hg (N := 5) ?hd (cs := #[.string (⟨#[]⟩ : ByteArray), .string (⟨#[]⟩ : ByteArray), .string (⟨#[]⟩ : ByteArray), .int .u8 0, .int .i64 0, .int .i64 0, .int .i64 0, .int .i64 0, .slice none 0 0]) (t := 38) ?hr ?_; (case hd => rfl); (case hg => rfl); (case hr => first | (go_simp; done) | (go_simp; rfl)); intro gb323 hg w38 hbox hb; have n0_ := A0_ (Vb_ (Kd.V_elderB (wV_ HO321.out) gb323 (Nat.le_of_eq hg.symm)) hb); have n1_ := A0_ (blk_below (g := gb310) (o := .cells #[.string a1_0, .string a1_1, .string a1_2, .int .u8 a1_3, .int .i64 a1_4, .int .i64 a1_5, .int .i64 a1_6, .int .i64 a1_7, .slice A1_8 l1_8.length c1_8] 38 (0, 0)) (wB_ BK310.out) hb); have n2_ := A0_ (below_step (wb1_ HB.out GE310.out) hb); have n3_ := A0_ (hbox); have n4_ := A0_ ((by rw [hg]; exact (below_size (wb1_ HB.out GE310.out)) : w.heap.size ≤ gb323)); have n5_ := A0_ ((by rw [hg]; exact (below_size (wb1_ HB.out GE310.out)) : w.heap.size ≤ gb323)); have n6_ := A0_ ((by rw [hg]; exact Nat.ne_of_lt (blk_lt (g := gb310) (o := .cells #[.string a1_0, .string a1_1, .string a1_2, .int .u8 a1_3, .int .i64 a1_4, .int .i64 a1_5, .int .i64 a1_6, .int .i64 a1_7, .slice A1_8 l1_8.length c1_8] 38 (0, 0)) (wB_ BK310.out)) : gb310 ≠ gb323)); have n7_ := A0_ ((by rw [hg]; exact Nat.ne_of_gt (blk_lt (g := gb310) (o := .cells #[.string a1_0, .string a1_1, .string a1_2, .int .u8 a1_3, .int .i64 a1_4, .int .i64 a1_5, .int .i64 a1_6, .int .i64 a1_7, .slice A1_8 l1_8.length c1_8] 38 (0, 0)) (wB_ BK310.out)) : gb323 ≠ gb310)); clear HO321; clear BK310; clear HB; have HO321 := n0_; have BK310 := n1_; have HB := n2_; have BK323 := n3_; have GW323 := n4_; have GE323 := n5_; have NB310_323 := n6_; have NB323_310 := n7_; clear n0_ n1_ n2_ n3_ n4_ n5_ n6_ n7_; clear hb hbox hg; have hnb39 := NB323_310.out; have hnc39 := NB310_323.out; have hcz40_0 : w38.cell? ⟨gb323, 0, none⟩ = some (.string (⟨#[]⟩ : ByteArray)) := (bc_ BK323.out 0).trans rfl; have hcz40_1 : w38.cell? ⟨gb323, 1, none⟩ = some (.string (⟨#[]⟩ : ByteArray)) := (bc_ BK323.out 1).trans rfl; have hcz40_2 : w38.cell? ⟨gb323, 2, none⟩ = some (.string (⟨#[]⟩ : ByteArray)) := (bc_ BK323.out 2).trans rfl; have hcz40_3 : w38.cell? ⟨gb323, 3, none⟩ = some (.int .u8 0) := (bc_ BK323.out 3).trans rfl; have hcz40_4 : w38.cell? ⟨gb323, 4, none⟩ = some (.int .i64 0) := (bc_ BK323.out 4).trans rfl; have hcz40_5 : w38.cell? ⟨gb323, 5, none⟩ = some (.int .i64 0) := (bc_ BK323.out 5).trans rfl; have hcz40_6 : w38.cell? ⟨gb323, 6, none⟩ = some (.int .i64 0) := (bc_ BK323.out 6).trans rfl; have hcz40_7 : w38.cell? ⟨gb323, 7, none⟩ = some (.int .i64 0) := (bc_ BK323.out 7).trans rfl; have hcz40_8 : w38.cell? ⟨gb323, 8, none⟩ = some (.slice none 0 0) := (bc_ BK323.out 8).trans rfl; have hfz40_0 := bf_ BK323.out 0; have hfz40_1 := bf_ BK323.out 1; have hfz40_2 := bf_ BK323.out 2; have hfz40_3 := bf_ BK323.out 3; have hfz40_4 := bf_ BK323.out 4; have hfz40_5 := bf_ BK323.out 5; have hfz40_6 := bf_ BK323.out 6; have hfz40_7 := bf_ BK323.out 7; have hfz40_8 := bf_ BK323.out 8; obtain ⟨Ao41, co41, eo41⟩ := Kd.V_slice HO321.out; subst eo41))
  go_ret
  exact ⟨we_, wb2_ HB.out GE310.out GE323.out⟩
 rw [if_pos c7] at H
 have c7b0 : (t313.toList == t311.toList) = true := beq_iff_eq.mpr c7
 have c7b1 : (t313.toList != t311.toList) = false := bne_eq_false_iff_eq.mpr c7
 clear c7
 by_cases c8 : ((Op.bytesLess a1_0.toList t311.toList) = true)
 ·rw [if_pos c8] at H
  have c8b0 : (Op.bytesLess a1_0.toList t311.toList) = true := c8
  clear c8
  obtain rfl := Option.some.inj H
  go_enter Tryd.func36, Tryd.ntmps36
  go_wp2_with (first | ((with_reducible refine gate_dst (N := 3) rfl ?_); refine box_event ?hg (N := 3) ?hd (cs := #[.string a1_0, .string a1_1, .string a1_2, .int .u8 a1_3, .int .i64 a1_4, .int .i64 a1_5, .int .i64 a1_6, .int .i64 a1_7, .slice A1_8 l1_8.length c1_8]) (t := 38) ?hr ?_; (case hd => rfl); (case hg => rfl); (case hr => first | (go_simp; done) | (go_simp; rfl)); intro gb310 hg w9 hbox hb; have n0_ := A0_ (below_step (wb_ HB.out) hb); have n1_ := A0_ (hbox); have n2_ := A0_ ((by rw [hg]; exact (below_size (wb_ HB.out)) : w.heap.size ≤ gb310)); have n3_ := A0_ ((by rw [hg]; exact (below_size (wb_ HB.out)) : w.heap.size ≤ gb310)); clear HB; have HB := n0_; have BK310 := n1_; have GW310 := n2_; have GE310 := n3_; clear n0_ n1_ n2_ n3_; clear hb hbox hg; have hcz10_0 : w9.cell? ⟨gb310, 0, none⟩ = some (.string a1_0) := (bc_ BK310.out 0).trans rfl; have hcz10_1 : w9.cell? ⟨gb310, 1, none⟩ = some (.string a1_1) := (bc_ BK310.out 1).trans rfl; have hcz10_2 : w9.cell? ⟨gb310, 2, none⟩ = some (.string a1_2) := (bc_ BK310.out 2).trans rfl; have hcz10_3 : w9.cell? ⟨gb310, 3, none⟩ = some (.int .u8 a1_3) := (bc_ BK310.out 3).trans rfl; have hcz10_4 : w9.cell? ⟨gb310, 4, none⟩ = some (.int .i64 a1_4) := (bc_ BK310.out 4).trans rfl; have hcz10_5 : w9.cell? ⟨gb310, 5, none⟩ = some (.int .i64 a1_5) := (bc_ BK310.out 5).trans rfl; have hcz10_6 : w9.cell? ⟨gb310, 6, none⟩ = some (.int .i64 a1_6) := (bc_ BK310.out 6).trans rfl; have hcz10_7 : w9.cell? ⟨gb310, 7, none⟩ = some (.int .i64 a1_7) := (bc_ BK310.out 7).trans rfl; have hcz10_8 : w9.cell? ⟨gb310, 8, none⟩ = some (.slice A1_8 l1_8.length c1_8) := (bc_ BK310.out 8).trans rfl; have hfz10_0 := bf_ BK310.out 0; have hfz10_1 := bf_ BK310.out 1; have hfz10_2 := bf_ BK310.out 2; have hfz10_3 := bf_ BK310.out 3; have hfz10_4 := bf_ BK310.out 4; have hfz10_5 := bf_ BK310.out 5; have hfz10_6 := bf_ BK310.out 6; have hfz10_7 := bf_ BK310.out 7; have hfz10_8 := bf_ BK310.out 8) | ((with_reducible refine gate_callee (f := 43) rfl ?_); refine goesL_ (some 17) rfl rfl Tryd.func43 (by kernel_rfl) rfl #[.slice A0 l0.length c0, .string a1_2] rfl wm_ ?_; (with_reducible refine (tree_Find.calls _ _ l0 a1_2 t311 t312 t313 t314 t315 t316 t317 t318 t319 true _ ?side1 ?side2 A4.out).mono ?_); (case side1 => exact wc_ (Kd.C_below HR0.out HB.out)); (case side2 => exact HC0.out); rintro e w11 ⟨v320, rfl, ho0, hb⟩; refine ⟨_, rfl, ?_⟩; have n0_ := A0_ (Kd.V_lower (Kd.V_mono (ok' := fun k_ => k_ ≠ gb310) ho0 (fun k_ hk_ => (Kd.freshB (g := gb310) (o := .cells #[.string a1_0, .string a1_1, .string a1_2, .int .u8 a1_3, .int .i64 a1_4, .int .i64 a1_5, .int .i64 a1_6, .int .i64 a1_7, .slice A1_8 l1_8.length c1_8] 38 (0, 0)) (wB_ BK310.out) k_ hk_))) (below_size (wb1_ HB.out GE310.out))); have n1_ := A0_ (blk_below (g := gb310) (o := .cells #[.string a1_0, .string a1_1, .string a1_2, .int .u8 a1_3, .int .i64 a1_4, .int .i64 a1_5, .int .i64 a1_6, .int .i64 a1_7, .slice A1_8 l1_8.length c1_8] 38 (0, 0)) (wB_ BK310.out) hb); have n2_ := A0_ (below_step (wb1_ HB.out GE310.out) hb); clear BK310; clear HB; have HO321 := n0_; have BK310 := n1_; have HB := n2_; clear n0_ n1_ n2_; (try clear hb); (try clear hb2); (try clear hk); (try clear hi); (try clear ho0)) | ((with_reducible refine gate_dst (N := 5) rfl ?_); refine box_event ?hg (N := 5) ?hd (cs := #[.string (⟨#[]⟩ : ByteArray), .string (⟨#[]⟩ : ByteArray), .string (⟨#[]⟩ : ByteArray), .int .u8 0, .int .i64 0, .int .i64 0, .int .i64 0, .int .i64 0, .slice none 0 0]) (t := 38) ?hr ?_; (case hd => rfl); (case hg => rfl); (case hr => first | (go_simp; done) | (go_simp; rfl)); intro gb323 hg w12 hbox hb; have n0_ := A0_ (Vb_ (Kd.V_elderB (wV_ HO321.out) gb323 (Nat.le_of_eq hg.symm)) hb); have n1_ := A0_ (blk_below (g := gb310) (o := .cells #[.string a1_0, .string a1_1, .string a1_2, .int .u8 a1_3, .int .i64 a1_4, .int .i64 a1_5, .int .i64 a1_6, .int .i64 a1_7, .slice A1_8 l1_8.length c1_8] 38 (0, 0)) (wB_ BK310.out) hb); have n2_ := A0_ (below_step (wb1_ HB.out GE310.out) hb); have n3_ := A0_ (hbox); have n4_ := A0_ ((by rw [hg]; exact (below_size (wb1_ HB.out GE310.out)) : w.heap.size ≤ gb323)); have n5_ := A0_ ((by rw [hg]; exact (below_size (wb1_ HB.out GE310.out)) : w.heap.size ≤ gb323)); have n6_ := A0_ ((by rw [hg]; exact Nat.ne_of_lt (blk_lt (g := gb310) (o := .cells #[.string a1_0, .string a1_1, .string a1_2, .int .u8 a1_3, .int .i64 a1_4, .int .i64 a1_5, .int .i64 a1_6, .int .i64 a1_7, .slice A1_8 l1_8.length c1_8] 38 (0, 0)) (wB_ BK310.out)) : gb310 ≠ gb323)); have n7_ := A0_ ((by rw [hg]; exact Nat.ne_of_gt (blk_lt (g := gb310) (o := .cells #[.string a1_0, .string a1_1, .string a1_2, .int .u8 a1_3, .int .i64 a1_4, .int .i64 a1_5, .int .i64 a1_6, .int .i64 a1_7, .slice A1_8 l1_8.length c1_8] 38 (0, 0)) (wB_ BK310.out)) : gb323 ≠ gb310)); clear HO321; clear BK310; clear HB; have HO321 := n0_; have BK310 := n1_; have HB := n2_; have BK323 := n3_; have GW323 := n4_; have GE323 := n5_; have NB310_323 := n6_; have NB323_310 := n7_; clear n0_ n1_ n2_ n3_ n4_ n5_ n6_ n7_; clear hb hbox hg; have hnb13 := NB323_310.out; have hnc13 := NB310_323.out; have hcz14_0 : w12.cell? ⟨gb323, 0, none⟩ = some (.string (⟨#[]⟩ : ByteArray)) := (bc_ BK323.out 0).trans rfl; have hcz14_1 : w12.cell? ⟨gb323, 1, none⟩ = some (.string (⟨#[]⟩ : ByteArray)) := (bc_ BK323.out 1).trans rfl; have hcz14_2 : w12.cell? ⟨gb323, 2, none⟩ = some (.string (⟨#[]⟩ : ByteArray)) := (bc_ BK323.out 2).trans rfl; have hcz14_3 : w12.cell? ⟨gb323, 3, none⟩ = some (.int .u8 0) := (bc_ BK323.out 3).trans rfl; have hcz14_4 : w12.cell? ⟨gb323, 4, none⟩ = some (.int .i64 0) := (bc_ BK323.out 4).trans rfl; have hcz14_5 : w12.cell? ⟨gb323, 5, none⟩ = some (.int .i64 0) := (bc_ BK323.out 5).trans rfl; have hcz14_6 : w12.cell? ⟨gb323, 6, none⟩ = some (.int .i64 0) := (bc_ BK323.out 6).trans rfl; have hcz14_7 : w12.cell? ⟨gb323, 7, none⟩ = some (.int .i64 0) := (bc_ BK323.out 7).trans rfl; have hcz14_8 : w12.cell? ⟨gb323, 8, none⟩ = some (.slice none 0 0) := (bc_ BK323.out 8).trans rfl; have hfz14_0 := bf_ BK323.out 0; have hfz14_1 := bf_ BK323.out 1; have hfz14_2 := bf_ BK323.out 2; have hfz14_3 := bf_ BK323.out 3; have hfz14_4 := bf_ BK323.out 4; have hfz14_5 := bf_ BK323.out 5; have hfz14_6 := bf_ BK323.out 6; have hfz14_7 := bf_ BK323.out 7; have hfz14_8 := bf_ BK323.out 8; obtain ⟨Ao15, co15, eo15⟩ := Kd.V_slice HO321.out; subst eo15; have hcz16_0 : w12.cell? ⟨gb310, 0, none⟩ = some (.string a1_0) := (bc_ BK310.out 0).trans rfl; have hcz16_1 : w12.cell? ⟨gb310, 1, none⟩ = some (.string a1_1) := (bc_ BK310.out 1).trans rfl; have hcz16_2 : w12.cell? ⟨gb310, 2, none⟩ = some (.string a1_2) := (bc_ BK310.out 2).trans rfl; have hcz16_3 : w12.cell? ⟨gb310, 3, none⟩ = some (.int .u8 a1_3) := (bc_ BK310.out 3).trans rfl; have hcz16_4 : w12.cell? ⟨gb310, 4, none⟩ = some (.int .i64 a1_4) := (bc_ BK310.out 4).trans rfl; have hcz16_5 : w12.cell? ⟨gb310, 5, none⟩ = some (.int .i64 a1_5) := (bc_ BK310.out 5).trans rfl; have hcz16_6 : w12.cell? ⟨gb310, 6, none⟩ = some (.int .i64 a1_6) := (bc_ BK310.out 6).trans rfl; have hcz16_7 : w12.cell? ⟨gb310, 7, none⟩ = some (.int .i64 a1_7) := (bc_ BK310.out 7).trans rfl; have hcz16_8 : w12.cell? ⟨gb310, 8, none⟩ = some (.slice A1_8 l1_8.length c1_8) := (bc_ BK310.out 8).trans rfl; have hfz16_0 := bf_ BK310.out 0; have hfz16_1 := bf_ BK310.out 1; have hfz16_2 := bf_ BK310.out 2; have hfz16_3 := bf_ BK310.out 3; have hfz16_4 := bf_ BK310.out 4; have hfz16_5 := bf_ BK310.out 5; have hfz16_6 := bf_ BK310.out 6; have hfz16_7 := bf_ BK310.out 7; have hfz16_8 := bf_ BK310.out 8))
  go_ret
  exact ⟨we_, wb2_ HB.out GE310.out GE323.out⟩
 rw [if_neg c8] at H
 have c8b0 : (Op.bytesLess a1_0.toList t311.toList) = false := by simpa using c8
 clear c8
 by_cases c17 : (t315 == a1_4 && (t316 == a1_5 && (t317 == a1_6 && (t318 == a1_7)))) = true
 rotate_left
 ·rw [if_neg c17] at H
  have c17b0 : (t315 == a1_4 && (t316 == a1_5 && (t317 == a1_6 && (t318 == a1_7)))) = false := by simpa using c17
  (try (have c17b1 : decide (t315 = a1_4 && (t316 == a1_5 && (t317 == a1_6 && (t318 == a1_7)))) = false := by simpa using c17))
  (try (have c17b2 : (t315 == a1_4 && (t316 == a1_5 && (t317 == a1_6 && (t318 == a1_7)))) = false := by simpa using c17))
  (try (have c17b3 : ¬ (t315 = a1_4 && (t316 == a1_5 && (t317 == a1_6 && (t318 == a1_7)))) := by simpa using c17))
  clear c17
  obtain rfl := Option.some.inj H
  go_enter Tryd.func36, Tryd.ntmps36
  go_wp2_with (first | ((with_reducible refine gate_dst (N := 3) rfl ?_); refine box_event ?hg (N := 3) ?hd (cs := #[.string a1_0, .string a1_1, .string a1_2, .int .u8 a1_3, .int .i64 a1_4, .int .i64 a1_5, .int .i64 a1_6, .int .i64 a1_7, .slice A1_8 l1_8.length c1_8]) (t := 38) ?hr ?_; (case hd => rfl); (case hg => rfl); (case hr => first | (go_simp; done) | (go_simp; rfl)); intro gb310 hg w27 hbox hb; have n0_ := A0_ (below_step (wb_ HB.out) hb); have n1_ := A0_ (hbox); have n2_ := A0_ ((by rw [hg]; exact (below_size (wb_ HB.out)) : w.heap.size ≤ gb310)); have n3_ := A0_ ((by rw [hg]; exact (below_size (wb_ HB.out)) : w.heap.size ≤ gb310)); clear HB; have HB := n0_; have BK310 := n1_; have GW310 := n2_; have GE310 := n3_; clear n0_ n1_ n2_ n3_; clear hb hbox hg; have hcz28_0 : w27.cell? ⟨gb310, 0, none⟩ = some (.string a1_0) := (bc_ BK310.out 0).trans rfl; have hcz28_1 : w27.cell? ⟨gb310, 1, none⟩ = some (.string a1_1) := (bc_ BK310.out 1).trans rfl; have hcz28_2 : w27.cell? ⟨gb310, 2, none⟩ = some (.string a1_2) := (bc_ BK310.out 2).trans rfl; have hcz28_3 : w27.cell? ⟨gb310, 3, none⟩ = some (.int .u8 a1_3) := (bc_ BK310.out 3).trans rfl; have hcz28_4 : w27.cell? ⟨gb310, 4, none⟩ = some (.int .i64 a1_4) := (bc_ BK310.out 4).trans rfl; have hcz28_5 : w27.cell? ⟨gb310, 5, none⟩ = some (.int .i64 a1_5) := (bc_ BK310.out 5).trans rfl; have hcz28_6 : w27.cell? ⟨gb310, 6, none⟩ = some (.int .i64 a1_6) := (bc_ BK310.out 6).trans rfl; have hcz28_7 : w27.cell? ⟨gb310, 7, none⟩ = some (.int .i64 a1_7) := (bc_ BK310.out 7).trans rfl; have hcz28_8 : w27.cell? ⟨gb310, 8, none⟩ = some (.slice A1_8 l1_8.length c1_8) := (bc_ BK310.out 8).trans rfl; have hfz28_0 := bf_ BK310.out 0; have hfz28_1 := bf_ BK310.out 1; have hfz28_2 := bf_ BK310.out 2; have hfz28_3 := bf_ BK310.out 3; have hfz28_4 := bf_ BK310.out 4; have hfz28_5 := bf_ BK310.out 5; have hfz28_6 := bf_ BK310.out 6; have hfz28_7 := bf_ BK310.out 7; have hfz28_8 := bf_ BK310.out 8) | ((with_reducible refine gate_callee (f := 43) rfl ?_); refine goesL_ (some 17) rfl rfl Tryd.func43 (by kernel_rfl) rfl #[.slice A0 l0.length c0, .string a1_2] rfl wm_ ?_; (with_reducible refine (tree_Find.calls _ _ l0 a1_2 t311 t312 t313 t314 t315 t316 t317 t318 t319 true _ ?side1 ?side2 A4.out).mono ?_); (case side1 => exact wc_ (Kd.C_below HR0.out HB.out)); (case side2 => exact HC0.out); rintro e w29 ⟨v320, rfl, ho0, hb⟩; refine ⟨_, rfl, ?_⟩; have n0_ := A0_ (Kd.V_lower (Kd.V_mono (ok' := fun k_ => k_ ≠ gb310) ho0 (fun k_ hk_ => (Kd.freshB (g := gb310) (o := .cells #[.string a1_0, .string a1_1, .string a1_2, .int .u8 a1_3, .int .i64 a1_4, .int .i64 a1_5, .int .i64 a1_6, .int .i64 a1_7, .slice A1_8 l1_8.length c1_8] 38 (0, 0)) (wB_ BK310.out) k_ hk_))) (below_size (wb1_ HB.out GE310.out))); have n1_ := A0_ (blk_below (g := gb310) (o := .cells #[.string a1_0, .string a1_1, .string a1_2, .int .u8 a1_3, .int .i64 a1_4, .int .i64 a1_5, .int .i64 a1_6, .int .i64 a1_7, .slice A1_8 l1_8.length c1_8] 38 (0, 0)) (wB_ BK310.out) hb); have n2_ := A0_ (below_step (wb1_ HB.out GE310.out) hb); clear BK310; clear HB; have HO321 := n0_; have BK310 := n1_; have HB := n2_; clear n0_ n1_ n2_; (try clear hb); (try clear hb2); (try clear hk); (try clear hi); (try clear ho0)) | ((with_reducible refine gate_dst (N := 5) rfl ?_); refine box_event ?hg (N := 5) ?hd (cs := #[.string (⟨#[]⟩ : ByteArray), .string (⟨#[]⟩ : ByteArray), .string (⟨#[]⟩ : ByteArray), .int .u8 0, .int .i64 0, .int .i64 0, .int .i64 0, .int .i64 0, .slice none 0 0]) (t := 38) ?hr ?_; (case hd => rfl); (case hg => rfl); (case hr => first | (go_simp; done) | (go_simp; rfl)); intro gb323 hg w30 hbox hb; have n0_ := A0_ (Vb_ (Kd.V_elderB (wV_ HO321.out) gb323 (Nat.le_of_eq hg.symm)) hb); have n1_ := A0_ (blk_below (g := gb310) (o := .cells #[.string a1_0, .string a1_1, .string a1_2, .int .u8 a1_3, .int .i64 a1_4, .int .i64 a1_5, .int .i64 a1_6, .int .i64 a1_7, .slice A1_8 l1_8.length c1_8] 38 (0, 0)) (wB_ BK310.out) hb); have n2_ := A0_ (below_step (wb1_ HB.out GE310.out) hb); have n3_ := A0_ (hbox); have n4_ := A0_ ((by rw [hg]; exact (below_size (wb1_ HB.out GE310.out)) : w.heap.size ≤ gb323)); have n5_ := A0_ ((by rw [hg]; exact (below_size (wb1_ HB.out GE310.out)) : w.heap.size ≤ gb323)); have n6_ := A0_ ((by rw [hg]; exact Nat.ne_of_lt (blk_lt (g := gb310) (o := .cells #[.string a1_0, .string a1_1, .string a1_2, .int .u8 a1_3, .int .i64 a1_4, .int .i64 a1_5, .int .i64 a1_6, .int .i64 a1_7, .slice A1_8 l1_8.length c1_8] 38 (0, 0)) (wB_ BK310.out)) : gb310 ≠ gb323)); have n7_ := A0_ ((by rw [hg]; exact Nat.ne_of_gt (blk_lt (g := gb310) (o := .cells #[.string a1_0, .string a1_1, .string a1_2, .int .u8 a1_3, .int .i64 a1_4, .int .i64 a1_5, .int .i64 a1_6, .int .i64 a1_7, .slice A1_8 l1_8.length c1_8] 38 (0, 0)) (wB_ BK310.out)) : gb323 ≠ gb310)); clear HO321; clear BK310; clear HB; have HO321 := n0_; have BK310 := n1_; have HB := n2_; have BK323 := n3_; have GW323 := n4_; have GE323 := n5_; have NB310_323 := n6_; have NB323_310 := n7_; clear n0_ n1_ n2_ n3_ n4_ n5_ n6_ n7_; clear hb hbox hg; have hnb31 := NB323_310.out; have hnc31 := NB310_323.out; have hcz32_0 : w30.cell? ⟨gb323, 0, none⟩ = some (.string (⟨#[]⟩ : ByteArray)) := (bc_ BK323.out 0).trans rfl; have hcz32_1 : w30.cell? ⟨gb323, 1, none⟩ = some (.string (⟨#[]⟩ : ByteArray)) := (bc_ BK323.out 1).trans rfl; have hcz32_2 : w30.cell? ⟨gb323, 2, none⟩ = some (.string (⟨#[]⟩ : ByteArray)) := (bc_ BK323.out 2).trans rfl; have hcz32_3 : w30.cell? ⟨gb323, 3, none⟩ = some (.int .u8 0) := (bc_ BK323.out 3).trans rfl; have hcz32_4 : w30.cell? ⟨gb323, 4, none⟩ = some (.int .i64 0) := (bc_ BK323.out 4).trans rfl; have hcz32_5 : w30.cell? ⟨gb323, 5, none⟩ = some (.int .i64 0) := (bc_ BK323.out 5).trans rfl; have hcz32_6 : w30.cell? ⟨gb323, 6, none⟩ = some (.int .i64 0) := (bc_ BK323.out 6).trans rfl; have hcz32_7 : w30.cell? ⟨gb323, 7, none⟩ = some (.int .i64 0) := (bc_ BK323.out 7).trans rfl; have hcz32_8 : w30.cell? ⟨gb323, 8, none⟩ = some (.slice none 0 0) := (bc_ BK323.out 8).trans rfl; have hfz32_0 := bf_ BK323.out 0; have hfz32_1 := bf_ BK323.out 1; have hfz32_2 := bf_ BK323.out 2; have hfz32_3 := bf_ BK323.out 3; have hfz32_4 := bf_ BK323.out 4; have hfz32_5 := bf_ BK323.out 5; have hfz32_6 := bf_ BK323.out 6; have hfz32_7 := bf_ BK323.out 7; have hfz32_8 := bf_ BK323.out 8; obtain ⟨Ao33, co33, eo33⟩ := Kd.V_slice HO321.out; subst eo33; have hcz34_0 : w30.cell? ⟨gb310, 0, none⟩ = some (.string a1_0) := (bc_ BK310.out 0).trans rfl; have hcz34_1 : w30.cell? ⟨gb310, 1, none⟩ = some (.string a1_1) := (bc_ BK310.out 1).trans rfl; have hcz34_2 : w30.cell? ⟨gb310, 2, none⟩ = some (.string a1_2) := (bc_ BK310.out 2).trans rfl; have hcz34_3 : w30.cell? ⟨gb310, 3, none⟩ = some (.int .u8 a1_3) := (bc_ BK310.out 3).trans rfl; have hcz34_4 : w30.cell? ⟨gb310, 4, none⟩ = some (.int .i64 a1_4) := (bc_ BK310.out 4).trans rfl; have hcz34_5 : w30.cell? ⟨gb310, 5, none⟩ = some (.int .i64 a1_5) := (bc_ BK310.out 5).trans rfl; have hcz34_6 : w30.cell? ⟨gb310, 6, none⟩ = some (.int .i64 a1_6) := (bc_ BK310.out 6).trans rfl; have hcz34_7 : w30.cell? ⟨gb310, 7, none⟩ = some (.int .i64 a1_7) := (bc_ BK310.out 7).trans rfl; have hcz34_8 : w30.cell? ⟨gb310, 8, none⟩ = some (.slice A1_8 l1_8.length c1_8) := (bc_ BK310.out 8).trans rfl; have hfz34_0 := bf_ BK310.out 0; have hfz34_1 := bf_ BK310.out 1; have hfz34_2 := bf_ BK310.out 2; have hfz34_3 := bf_ BK310.out 3; have hfz34_4 := bf_ BK310.out 4; have hfz34_5 := bf_ BK310.out 5; have hfz34_6 := bf_ BK310.out 6; have hfz34_7 := bf_ BK310.out 7; have hfz34_8 := bf_ BK310.out 8))
  go_ret
  exact ⟨we_, wb2_ HB.out GE310.out GE323.out⟩
 rw [if_pos c17] at H
 have c17b0 : (t315 == a1_4 && (t316 == a1_5 && (t317 == a1_6 && (t318 == a1_7)))) = true := c17
 (try (have c17b1 : decide (t315 = a1_4 && (t316 == a1_5 && (t317 == a1_6 && (t318 == a1_7)))) = true := by simpa using c17))
 (try (have c17b2 : (t315 == a1_4 && (t316 == a1_5 && (t317 == a1_6 && (t318 == a1_7)))) = true := by simpa using c17))
 clear c17
 replace H := Option.bind_eq_some_iff.mp H
 obtain ⟨t324, A180, H⟩ := H
 replace H : (some t324) = some r := H
 have A18 := A0_ A180
 clear A180
 obtain rfl := Option.some.inj H
 go_enter Tryd.func36, Tryd.ntmps36
 go_wp2_with (first | ((with_reducible refine gate_dst (N := 3) rfl ?_); refine box_event ?hg (N := 3) ?hd (cs := #[.string a1_0, .string a1_1, .string a1_2, .int .u8 a1_3, .int .i64 a1_4, .int .i64 a1_5, .int .i64 a1_6, .int .i64 a1_7, .slice A1_8 l1_8.length c1_8]) (t := 38) ?hr ?_; (case hd => rfl); (case hg => rfl); (case hr => first | (go_simp; done) | (go_simp; rfl)); intro gb310 hg w19 hbox hb; have n0_ := A0_ (below_step (wb_ HB.out) hb); have n1_ := A0_ (hbox); have n2_ := A0_ ((by rw [hg]; exact (below_size (wb_ HB.out)) : w.heap.size ≤ gb310)); have n3_ := A0_ ((by rw [hg]; exact (below_size (wb_ HB.out)) : w.heap.size ≤ gb310)); clear HB; have HB := n0_; have BK310 := n1_; have GW310 := n2_; have GE310 := n3_; clear n0_ n1_ n2_ n3_; clear hb hbox hg; have hcz20_0 : w19.cell? ⟨gb310, 0, none⟩ = some (.string a1_0) := (bc_ BK310.out 0).trans rfl; have hcz20_1 : w19.cell? ⟨gb310, 1, none⟩ = some (.string a1_1) := (bc_ BK310.out 1).trans rfl; have hcz20_2 : w19.cell? ⟨gb310, 2, none⟩ = some (.string a1_2) := (bc_ BK310.out 2).trans rfl; have hcz20_3 : w19.cell? ⟨gb310, 3, none⟩ = some (.int .u8 a1_3) := (bc_ BK310.out 3).trans rfl; have hcz20_4 : w19.cell? ⟨gb310, 4, none⟩ = some (.int .i64 a1_4) := (bc_ BK310.out 4).trans rfl; have hcz20_5 : w19.cell? ⟨gb310, 5, none⟩ = some (.int .i64 a1_5) := (bc_ BK310.out 5).trans rfl; have hcz20_6 : w19.cell? ⟨gb310, 6, none⟩ = some (.int .i64 a1_6) := (bc_ BK310.out 6).trans rfl; have hcz20_7 : w19.cell? ⟨gb310, 7, none⟩ = some (.int .i64 a1_7) := (bc_ BK310.out 7).trans rfl; have hcz20_8 : w19.cell? ⟨gb310, 8, none⟩ = some (.slice A1_8 l1_8.length c1_8) := (bc_ BK310.out 8).trans rfl; have hfz20_0 := bf_ BK310.out 0; have hfz20_1 := bf_ BK310.out 1; have hfz20_2 := bf_ BK310.out 2; have hfz20_3 := bf_ BK310.out 3; have hfz20_4 := bf_ BK310.out 4; have hfz20_5 := bf_ BK310.out 5; have hfz20_6 := bf_ BK310.out 6; have hfz20_7 := bf_ BK310.out 7; have hfz20_8 := bf_ BK310.out 8) | ((with_reducible refine gate_callee (f := 43) rfl ?_); refine goesL_ (some 17) rfl rfl Tryd.func43 (by kernel_rfl) rfl #[.slice A0 l0.length c0, .string a1_2] rfl wm_ ?_; (with_reducible refine (tree_Find.calls _ _ l0 a1_2 t311 t312 t313 t314 t315 t316 t317 t318 t319 true _ ?side1 ?side2 A4.out).mono ?_); (case side1 => exact wc_ (Kd.C_below HR0.out HB.out)); (case side2 => exact HC0.out); rintro e w21 ⟨v320, rfl, ho0, hb⟩; refine ⟨_, rfl, ?_⟩; have n0_ := A0_ (Kd.V_lower (Kd.V_mono (ok' := fun k_ => k_ ≠ gb310) ho0 (fun k_ hk_ => (Kd.freshB (g := gb310) (o := .cells #[.string a1_0, .string a1_1, .string a1_2, .int .u8 a1_3, .int .i64 a1_4, .int .i64 a1_5, .int .i64 a1_6, .int .i64 a1_7, .slice A1_8 l1_8.length c1_8] 38 (0, 0)) (wB_ BK310.out) k_ hk_))) (below_size (wb1_ HB.out GE310.out))); have n1_ := A0_ (blk_below (g := gb310) (o := .cells #[.string a1_0, .string a1_1, .string a1_2, .int .u8 a1_3, .int .i64 a1_4, .int .i64 a1_5, .int .i64 a1_6, .int .i64 a1_7, .slice A1_8 l1_8.length c1_8] 38 (0, 0)) (wB_ BK310.out) hb); have n2_ := A0_ (below_step (wb1_ HB.out GE310.out) hb); clear BK310; clear HB; have HO321 := n0_; have BK310 := n1_; have HB := n2_; clear n0_ n1_ n2_; (try clear hb); (try clear hb2); (try clear hk); (try clear hi); (try clear ho0)) | ((with_reducible refine gate_dst (N := 5) rfl ?_); refine box_event ?hg (N := 5) ?hd (cs := #[.string (⟨#[]⟩ : ByteArray), .string (⟨#[]⟩ : ByteArray), .string (⟨#[]⟩ : ByteArray), .int .u8 0, .int .i64 0, .int .i64 0, .int .i64 0, .int .i64 0, .slice none 0 0]) (t := 38) ?hr ?_; (case hd => rfl); (case hg => rfl); (case hr => first | (go_simp; done) | (go_simp; rfl)); intro gb323 hg w22 hbox hb; have n0_ := A0_ (Vb_ (Kd.V_elderB (wV_ HO321.out) gb323 (Nat.le_of_eq hg.symm)) hb); have n1_ := A0_ (blk_below (g := gb310) (o := .cells #[.string a1_0, .string a1_1, .string a1_2, .int .u8 a1_3, .int .i64 a1_4, .int .i64 a1_5, .int .i64 a1_6, .int .i64 a1_7, .slice A1_8 l1_8.length c1_8] 38 (0, 0)) (wB_ BK310.out) hb); have n2_ := A0_ (below_step (wb1_ HB.out GE310.out) hb); have n3_ := A0_ (hbox); have n4_ := A0_ ((by rw [hg]; exact (below_size (wb1_ HB.out GE310.out)) : w.heap.size ≤ gb323)); have n5_ := A0_ ((by rw [hg]; exact (below_size (wb1_ HB.out GE310.out)) : w.heap.size ≤ gb323)); have n6_ := A0_ ((by rw [hg]; exact Nat.ne_of_lt (blk_lt (g := gb310) (o := .cells #[.string a1_0, .string a1_1, .string a1_2, .int .u8 a1_3, .int .i64 a1_4, .int .i64 a1_5, .int .i64 a1_6, .int .i64 a1_7, .slice A1_8 l1_8.length c1_8] 38 (0, 0)) (wB_ BK310.out)) : gb310 ≠ gb323)); have n7_ := A0_ ((by rw [hg]; exact Nat.ne_of_gt (blk_lt (g := gb310) (o := .cells #[.string a1_0, .string a1_1, .string a1_2, .int .u8 a1_3, .int .i64 a1_4, .int .i64 a1_5, .int .i64 a1_6, .int .i64 a1_7, .slice A1_8 l1_8.length c1_8] 38 (0, 0)) (wB_ BK310.out)) : gb323 ≠ gb310)); clear HO321; clear BK310; clear HB; have HO321 := n0_; have BK310 := n1_; have HB := n2_; have BK323 := n3_; have GW323 := n4_; have GE323 := n5_; have NB310_323 := n6_; have NB323_310 := n7_; clear n0_ n1_ n2_ n3_ n4_ n5_ n6_ n7_; clear hb hbox hg; have hnb23 := NB323_310.out; have hnc23 := NB310_323.out; have hcz24_0 : w22.cell? ⟨gb323, 0, none⟩ = some (.string (⟨#[]⟩ : ByteArray)) := (bc_ BK323.out 0).trans rfl; have hcz24_1 : w22.cell? ⟨gb323, 1, none⟩ = some (.string (⟨#[]⟩ : ByteArray)) := (bc_ BK323.out 1).trans rfl; have hcz24_2 : w22.cell? ⟨gb323, 2, none⟩ = some (.string (⟨#[]⟩ : ByteArray)) := (bc_ BK323.out 2).trans rfl; have hcz24_3 : w22.cell? ⟨gb323, 3, none⟩ = some (.int .u8 0) := (bc_ BK323.out 3).trans rfl; have hcz24_4 : w22.cell? ⟨gb323, 4, none⟩ = some (.int .i64 0) := (bc_ BK323.out 4).trans rfl; have hcz24_5 : w22.cell? ⟨gb323, 5, none⟩ = some (.int .i64 0) := (bc_ BK323.out 5).trans rfl; have hcz24_6 : w22.cell? ⟨gb323, 6, none⟩ = some (.int .i64 0) := (bc_ BK323.out 6).trans rfl; have hcz24_7 : w22.cell? ⟨gb323, 7, none⟩ = some (.int .i64 0) := (bc_ BK323.out 7).trans rfl; have hcz24_8 : w22.cell? ⟨gb323, 8, none⟩ = some (.slice none 0 0) := (bc_ BK323.out 8).trans rfl; have hfz24_0 := bf_ BK323.out 0; have hfz24_1 := bf_ BK323.out 1; have hfz24_2 := bf_ BK323.out 2; have hfz24_3 := bf_ BK323.out 3; have hfz24_4 := bf_ BK323.out 4; have hfz24_5 := bf_ BK323.out 5; have hfz24_6 := bf_ BK323.out 6; have hfz24_7 := bf_ BK323.out 7; have hfz24_8 := bf_ BK323.out 8; obtain ⟨Ao25, co25, eo25⟩ := Kd.V_slice HO321.out; subst eo25; have hcz26_0 : w22.cell? ⟨gb310, 0, none⟩ = some (.string a1_0) := (bc_ BK310.out 0).trans rfl; have hcz26_1 : w22.cell? ⟨gb310, 1, none⟩ = some (.string a1_1) := (bc_ BK310.out 1).trans rfl; have hcz26_2 : w22.cell? ⟨gb310, 2, none⟩ = some (.string a1_2) := (bc_ BK310.out 2).trans rfl; have hcz26_3 : w22.cell? ⟨gb310, 3, none⟩ = some (.int .u8 a1_3) := (bc_ BK310.out 3).trans rfl; have hcz26_4 : w22.cell? ⟨gb310, 4, none⟩ = some (.int .i64 a1_4) := (bc_ BK310.out 4).trans rfl; have hcz26_5 : w22.cell? ⟨gb310, 5, none⟩ = some (.int .i64 a1_5) := (bc_ BK310.out 5).trans rfl; have hcz26_6 : w22.cell? ⟨gb310, 6, none⟩ = some (.int .i64 a1_6) := (bc_ BK310.out 6).trans rfl; have hcz26_7 : w22.cell? ⟨gb310, 7, none⟩ = some (.int .i64 a1_7) := (bc_ BK310.out 7).trans rfl; have hcz26_8 : w22.cell? ⟨gb310, 8, none⟩ = some (.slice A1_8 l1_8.length c1_8) := (bc_ BK310.out 8).trans rfl; have hfz26_0 := bf_ BK310.out 0; have hfz26_1 := bf_ BK310.out 1; have hfz26_2 := bf_ BK310.out 2; have hfz26_3 := bf_ BK310.out 3; have hfz26_4 := bf_ BK310.out 4; have hfz26_5 := bf_ BK310.out 5; have hfz26_6 := bf_ BK310.out 6; have hfz26_7 := bf_ BK310.out 7; have hfz26_8 := bf_ BK310.out 8) | (go_at_call 49; (with_reducible refine (bytes_Equal.calls _ _ t319 _ _ l1_8 t324 _ ?side1 ?side2 ?side3 ?side4 A18.out).mono ?_); (case side1 => refine (Kd.V_reads' (e := 5) (base := w.heap.size) (ok := fun k_ => (k_ ≠ gb310 ∧ k_ ≠ gb323)) (n := t319.length) (c := co25) ?_).2.2; exact (by (with_reducible repeat (first | apply Va_ | apply VN_ | apply V1_)); exact (Kd.V_mono (Kd.V_far (p := ⟨gb323, 8, none⟩) (Kd.V_far (p := ⟨gb323, 7, none⟩) (Kd.V_far (p := ⟨gb323, 6, none⟩) (Kd.V_far (p := ⟨gb323, 5, none⟩) (Kd.V_far (p := ⟨gb323, 4, none⟩) (Kd.V_far (p := ⟨gb323, 3, none⟩) (Kd.V_far (p := ⟨gb323, 2, none⟩) (Kd.V_far (p := ⟨gb323, 1, none⟩) (Kd.V_far (p := ⟨gb323, 0, none⟩) (Kd.V_mono HO321.out (fun k_ hk => (⟨hk, hk.2⟩ : _ ∧ k_ ≠ gb323))) (fun _ hk => hk.2) (.string t311)) (fun _ hk => hk.2) (.string t312)) (fun _ hk => hk.2) (.string t313)) (fun _ hk => hk.2) (.int .u8 t314)) (fun _ hk => hk.2) (.int .i64 t315)) (fun _ hk => hk.2) (.int .i64 t316)) (fun _ hk => hk.2) (.int .i64 t317)) (fun _ hk => hk.2) (.int .i64 t318)) (fun _ hk => hk.2) (.slice Ao25 t319.length co25)) (fun _ h_ => h_.1)))); (case side2 => exact (Kd.V_reads' HO321.out).2.1); (case side3 => exact Kd.C_below HR1_8.out (wb2_ HB.out GE310.out GE323.out)); (case side4 => exact HC1_8.out); rintro e w' ⟨rfl, ⟨nd, rfl⟩⟩))
 go_ret
 exact ⟨we_, wb2_ HB.out GE310.out GE323.out⟩
end Go.Proofs.YtiijbmaamblidaaDoor.Print

namespace Go.Proofs.YtiijbmaamblidaaDoor
open Go.RowKit Go.Proofs.YtiijbmaamblidaaDoor.Print Go.Proofs.YtiijbmaamblidaaDoorW.PrintWords
theorem led_f {l : List Node} (hr : riseB l = true) (hz : nodesZ l = true) (x : Node) : tree_led.f l x.f0 x.f1 x.f2 x.f3 x.f4.f0 x.f4.f1 x.f4.f2 x.f4.f3 x.f5 = some (ledB l x) := by
 unfold tree_led.f ledB
 by_cases h48 : x.f3 = 48
 ·rw [if_pos h48, if_pos h48]
  have hF : tree_Find.f l x.f2 = some (tupN (findF l x.f2)) := by unfold tree_Find.f; rw [if_pos ⟨hr, hz⟩]
  rw [hF, Option.bind_some]
  cases hf : findF l x.f2 with
  | none => rfl
  | some y =>
   refine (if_pos (c := (tupN (some y)).2.2.2.2.2.2.2.2.2 = true) rfl).trans ?_
   show (if y.f3 = 48 then (if y.f2.toList = y.f0.toList then (if Op.bytesLess x.f0.toList y.f0.toList = true then some false else (if (y.f4.f0 == x.f4.f0 && (y.f4.f1 == x.f4.f1 && (y.f4.f2 == x.f4.f2 && (y.f4.f3 == x.f4.f3)))) = true then (bytes_Equal.f y.f5 x.f5).bind fun t => some t else some false)) else some false) else some false) = some (decide (y.f3 = 48 ∧ y.f2.toList = y.f0.toList ∧ lt x.f0 y.f0 = false ∧ y.f4.f0 = x.f4.f0 ∧ y.f4.f1 = x.f4.f1 ∧ y.f4.f2 = x.f4.f2 ∧ y.f4.f3 = x.f4.f3 ∧ (strOfNums y.f5).toList = (strOfNums x.f5).toList))
   by_cases a : y.f3 = 48
   ·rw [if_pos a]
    by_cases b : y.f2.toList = y.f0.toList
    ·rw [if_pos b]
     by_cases c : Op.bytesLess x.f0.toList y.f0.toList = true
     ·rw [if_pos c, decide_eq_false]
      intro h
      have h2 := h.2.2.1
      unfold lt at h2
      rw [c] at h2
      cases h2
     ·rw [if_neg c]
      have c' : lt x.f0 y.f0 = false := by unfold lt; cases hb : Op.bytesLess x.f0.toList y.f0.toList with | true => exact absurd hb c | false => rfl
      by_cases d : (y.f4.f0 == x.f4.f0 && (y.f4.f1 == x.f4.f1 && (y.f4.f2 == x.f4.f2 && (y.f4.f3 == x.f4.f3)))) = true
      ·rw [if_pos d]
       simp only [Bool.and_eq_true, beq_iff_eq] at d
       unfold bytes_Equal.f
       rw [Option.bind_some]
       congr 1
       rw [Bool.eq_iff_iff, beq_iff_eq, decide_eq_true_iff]
       exact ⟨fun h => ⟨a, b, c', d.1, d.2.1, d.2.2.1, d.2.2.2, h⟩, fun h => h.2.2.2.2.2.2.2⟩
      ·rw [if_neg d, decide_eq_false]
       intro h
       apply d
       simp only [Bool.and_eq_true, beq_iff_eq]
       exact ⟨h.2.2.2.1, h.2.2.2.2.1, h.2.2.2.2.2.1, h.2.2.2.2.2.2.1⟩
    ·rw [if_neg b, decide_eq_false]
     exact fun h => b h.2.1
   ·rw [if_neg a, decide_eq_false]
    exact fun h => a h.1
 ·rw [if_neg h48, if_neg h48]
  congr 1
  rw [Bool.eq_iff_iff, beq_iff_eq, decide_eq_true_iff]
end Go.Proofs.YtiijbmaamblidaaDoor

namespace Go.Proofs.YtiijbmaamblidaaDoor
open Go.RowKit Go.Maps Go.Proofs.YtiijbmaamblidaaDoor.Print Go.Proofs.YtiijbmaamblidaaDoorW.PrintWords Go.Proofs.YtiijbmaamblidaaDoorW.PrintLast Go.Proofs.YtiijbmaamblidaaDoorW.PrintMore
set_option linter.unusedVariables false
set_option linter.unusedSimpArgs false
theorem acell {w : World} {p : Addr} {v : Value} (h : w.cell? p = some v) (o : Obj) : (w.alloc o).cell? p = some v := ((below_alloc (Below.refl _ _) o).cell (World.block_lt_of_cell? w _ h)).trans h
theorem bkeep {w w1 : World} {p : Addr} {v : Value} (hb : Below w.heap.size w w1) (h : w.cell? p = some v) : w1.cell? p = some v := (hb.cell (World.block_lt_of_cell? w _ h)).trans h
theorem Good1_calls (l : List Node) (hr : riseB l = true) (hz : nodesZ l = true) (A0 : Option Addr) (c0 : Nat) (hc0 : l.length ≤ c0) (B : Nat) (x : Node) (A : Option Addr) (c : Nat) (W : World) (hbox : W.cell? ⟨B, 0, none⟩ = some (.slice A0 l.length c0)) (hC : Kd.C k38 W A0 l.length l) (hx : Kd.C (Kd.int .u8) W A x.f5.length x.f5) (hc : x.f5.length ≤ c) :
  Calls Tryd.prog 35 #[.agg (nodeCells x (.slice A x.f5.length c)), .pointer (some ⟨B, 0, none⟩)] W fun e W' => e = .returned (.bool (!ledB l x)) ∧ Below W.heap.size W W' := by
 have hl := led_f hr hz x
 generalize ledB l x = b at hl
 have HL := Aside0.mk hl
 have HC := Aside0.mk hC
 have HX := Aside0.mk hx
 have hBlt : B < W.heap.size := World.block_lt_of_cell? W ⟨B, 0, none⟩ hbox
 have hbn := World.new_ne W ⟨B, 0, none⟩ hbox
 clear hl hC hx hr hz
 unfold nodeCells
 go_enter Tryd.func35, Tryd.ntmps35
 go_wp2_with (go_at_call 36; refine (tree_led.calls A0 c0 l x.f0 x.f1 x.f2 x.f3 x.f4.f0 x.f4.f1 x.f4.f2 x.f4.f3 A c x.f5 b _ (by first | exact Kd.C_alloc HC.out _ | exact HC.out) hc0 (by first | exact Kd.C_alloc HX.out _ | exact HX.out) hc HL.out).mono ?_; rintro e w1 ⟨rfl, hb⟩)
 go_ret
 exact ⟨rfl, by first | exact ((Below.refl _ _).alloc (Nat.le_refl _) _).trans (hb.mono (by simp)) | exact hb⟩
def IdxRel (l : List Node) (W : World) (i : Int) (wr : World) : Prop := 0 ≤ i ∧ i ≤ l.length ∧ (∀ (j : Nat) (hj : j < l.length), (j : Int) < i → ledB l l[j] = true) ∧ Below W.heap.size W wr
theorem all_led {l : List Node} (h : ∀ (j : Nat) (hj : j < l.length), ledB l l[j] = true) : l.all (ledB l) = true := by
 rw [List.all_eq_true]
 intro x hx
 obtain ⟨i, hi, rfl⟩ := List.getElem_of_mem hx
 exact h i hi
theorem not_led {l : List Node} {j : Nat} {hj : j < l.length} (h : ledB l l[j] = false) : l.all (ledB l) = false := by
 rw [Bool.eq_false_iff]
 intro h2
 rw [List.all_eq_true] at h2
 rw [h2 _ (List.getElem_mem hj)] at h
 cases h
set_option maxRecDepth 100000 in
set_option maxHeartbeats 2000000 in
theorem Index_calls (l : List Node) (hr : riseB l = true) (hz : nodesZ l = true) (A0 : Option Addr) (c0 : Nat) (hc0 : l.length ≤ c0) (B : Nat) (W : World) (hbox : W.cell? ⟨B, 0, none⟩ = some (.slice A0 l.length c0)) (hC : Kd.C k38 W A0 l.length l) :
  Calls Tryd.prog 48 #[.slice A0 l.length c0, .func (.func 35) #[] #[.pointer (some ⟨B, 0, none⟩)]] W fun e W' => ∃ n : Int, e = .returned (.int .i64 n) ∧ decide (n ≥ 0) = !(l.all (ledB l)) ∧ Below W.heap.size W W' := by
 have hcl := fun x A c W2 (hb : Below W.heap.size W W2) (h1 : Kd.C (Kd.int .u8) W2 A x.f5.length x.f5) (h2 : x.f5.length ≤ c) => Good1_calls l hr hz A0 c0 hc0 B x A c W2 (bkeep hb hbox) (Kd.C_below hC hb) h1 h2
 have HCL := Aside0.mk hcl
 have HC := Aside0.mk hC
 have hlen : (l.length : Int) ≤ 1000000000000 := by have := ((nodesZ_iff l).1 hz).1; omega
 clear hcl hC hr hz
 generalize hpost : (fun (e : Ending) (W' : World) => ∃ n : Int, e = .returned (.int .i64 n) ∧ decide (n ≥ 0) = !(l.all (ledB l)) ∧ Below W.heap.size W W') = Q
 have hQ := Aside0.mk hpost
 clear hpost
 go_enter Tryd.func48, Tryd.ntmps48
 go_wp2
 go_loopw [8] (fun i wr => ∃ n : Int, i = .int .i64 n ∧ Aside0 (IdxRel l W n wr)) (fun i _ => (l.length - (intOf i)).toNat)
 case atStart => exact ⟨0, rfl, ⟨⟨by omega, by omega, fun j hj h => absurd h (by omega), Below.refl _ _⟩⟩⟩
 case round =>
  obtain ⟨n, rfl, HR⟩ := hrel
  have h0 := HR.out.1
  have h1 := HR.out.2.1
  have HB := Aside0.mk HR.out.2.2.2
  by_cases hlt : n < (l.length : Int)
  ·have c1 : decide (n < (l.length : Int)) = true := decide_eq_true hlt
   have hnl : n.toNat < l.length := by omega
   obtain ⟨ad, A7, c7, rfl, x0, x1, x2, x3, x4, x5, x6, x7, x8, hl7, hC7⟩ := at_T38 (Kd.C_below HC.out HB.out) n h0 hlt
   have hx := rdN_at l n h0 hlt
   generalize rd_T38 l n = x at hx x0 x1 x2 x3 x4 x5 x6 x7 x8 hl7 hC7
   have HX := Aside0.mk hx
   have HC7 := Aside0.mk hC7
   have HL7 := Aside0.mk hl7
   have HNL := Aside0.mk hnl
   clear hx hC7 hl7 hnl
   have hcl2 := HCL.out x A7 c7 wr HB.out HC7.out HL7.out
   cases hb : ledB l x with
   | true =>
    rw [hb, Bool.not_true] at hcl2
    unfold nodeCells at hcl2
    have HC2 := Aside0.mk hcl2
    have HLB := Aside0.mk hb
    clear hcl2 hb
    go_wp2_with (go_at_call 35; refine HC2.out.mono ?_; rintro e w1 ⟨rfl, hb1⟩)
    have hfin : IdxRel l W (n + 1) w1 := by
     refine ⟨by omega, by omega, fun j hj hjn => ?_, HB.out.trans (hb1.mono HB.out.size)⟩
     rcases Nat.lt_or_ge j n.toNat with h | h
     ·exact HR.out.2.2.1 j hj (by omega)
     ·obtain rfl : j = n.toNat := by omega
      rw [← HX.out]; exact HLB.out
    clear hb1
    go_roundw
    case rel => exact ⟨n + 1, by go_num, ⟨hfin⟩⟩
    case measure => simp [intOf]; omega
   | false =>
    rw [hb, Bool.not_false] at hcl2
    unfold nodeCells at hcl2
    have HC2 := Aside0.mk hcl2
    have HLB := Aside0.mk hb
    clear hcl2 hb
    go_wp2_with (go_at_call 35; refine HC2.out.mono ?_; rintro e w1 ⟨rfl, hb1⟩)
    rw [← hQ.out]
    refine ⟨n, rfl, ?_, HB.out.trans (hb1.mono HB.out.size)⟩
    rw [not_led (j := n.toNat) (hj := HNL.out) (by rw [← HX.out]; exact HLB.out), decide_eq_true (show n ≥ 0 from h0)]
    rfl
  ·have c1 : decide (n < (l.length : Int)) = false := decide_eq_false hlt
   go_wp2
   rw [← hQ.out]
   refine ⟨-1, rfl, ?_, HB.out⟩
   rw [all_led (fun j hj => HR.out.2.2.1 j hj (by omega))]
   rfl
theorem Contains_calls (l : List Node) (hr : riseB l = true) (hz : nodesZ l = true) (A0 : Option Addr) (c0 : Nat) (hc0 : l.length ≤ c0) (B : Nat) (W : World) (hbox : W.cell? ⟨B, 0, none⟩ = some (.slice A0 l.length c0)) (hC : Kd.C k38 W A0 l.length l) :
  Calls Tryd.prog 34 #[.slice A0 l.length c0, .func (.func 35) #[] #[.pointer (some ⟨B, 0, none⟩)]] W fun e W' => e = .returned (.bool (!(l.all (ledB l)))) ∧ Below W.heap.size W W' := by
 have HI := Aside0.mk (Index_calls l hr hz A0 c0 hc0 B W hbox hC)
 clear hr hz hC
 go_enter Tryd.func34, Tryd.ntmps34
 go_wp2_with (go_at_call 48; refine HI.out.mono ?_; rintro e w1 ⟨n, rfl, hn, hb⟩; have HN := Aside0.mk hn; clear hn)
 go_ret
 exact ⟨by rw [← HN.out]; rfl, hb⟩
def headOk' (l : List Node) (i : Nat) (h : i < l.length) : Bool := (decide (i = 0) || lt (l[i - 1]'(by omega)).f0 l[i].f0) && !decide (l[i].f3 = 49) && goodM (memOf l[i])
def GRel (l : List Node) (W : World) (A0 : Option Addr) (c0 : Nat) (i : Int) (wr : World) : Prop := 0 ≤ i ∧ i ≤ l.length ∧ (∀ (j : Nat) (hj : j < l.length), (j : Int) < i → headOk' l j hj = true) ∧ Below W.heap.size W wr ∧ wr.cell? ⟨W.heap.size, 0, none⟩ = some (.slice A0 l.length c0)
theorem goodTree_head {l : List Node} (h : ∀ (i : Nat) (hi : i < l.length), headOk' l i hi = true) : riseB l = true ∧ goodTree l = (decide (l.length ≤ 4096) && l.all (ledB l)) := by
 have hp : ∀ (i : Nat) (hi : i < l.length), (i = 0 ∨ lt (l[i - 1]'(by omega)).f0 l[i].f0 = true) ∧ ¬ l[i].f3 = 49 ∧ goodM (memOf l[i]) = true := fun i hi => by
  have := h i hi
  unfold headOk' at this
  simp only [Bool.and_eq_true, Bool.or_eq_true, decide_eq_true_iff, Bool.not_eq_true', decide_eq_false_iff_not] at this
  exact ⟨this.1.1, this.1.2, this.2⟩
 have hr : riseB l = true := riseB_step (fun i hi => by
  have := (hp (i + 1) hi).1
  rcases this with h | h
  ·cases h
  ·exact h)
 refine ⟨hr, ?_⟩
 unfold goodTree
 have h1 : (l.all (fun x => !decide (x.f3 = 49) && goodM (memOf x))) = true := by
  rw [List.all_eq_true]
  intro x hx
  obtain ⟨i, hi, rfl⟩ := List.getElem_of_mem hx
  rw [Bool.and_eq_true, Bool.not_eq_true', decide_eq_false_iff_not]
  exact ⟨(hp i hi).2.1, (hp i hi).2.2⟩
 rw [hr, h1]
 rfl
theorem goodTree_nothead {l : List Node} (i : Nat) (hi : i < l.length) (h : headOk' l i hi = false) : goodTree l = false :=
 goodTree_not i hi (by show (headOk' l i hi && ledB (l.take (i + 1)) l[i]) = false; rw [h]; rfl)
theorem prev_lt' {l : List Node} {n j : Int} {h : j.toNat < l.length} {h' : n.toNat - 1 < l.length} {y0 x0 : ByteArray} {b : Bool} (hy : l[j.toNat].f0 = y0) (hj : j = n - 1) (hl : Op.bytesLess y0.toList x0.toList = b) : lt (l[n.toNat - 1]).f0 x0 = b := by
 subst hj
 unfold lt
 rw [← hl, ← hy]
 congr 4
 omega
theorem gRel_next {l : List Node} {W wr w1 : World} {A0 : Option Addr} {c0 : Nat} {n : Int} (h : GRel l W A0 c0 n wr) (hn : n.toNat < l.length) (h1 : headOk' l n.toNat hn = true) (hB : Below wr.heap.size wr w1) : GRel l W A0 c0 (n + 1) w1 := by
 have h0 := h.1
 refine ⟨by omega, by omega, fun q hq hqn => ?_, h.2.2.2.1.trans (hB.mono h.2.2.2.1.size), bkeep hB h.2.2.2.2⟩
 rcases Nat.lt_or_ge q n.toNat with hh | hh
 ·exact h.2.2.1 q hq (by omega)
 ·obtain rfl : q = n.toNat := by omega
  exact h1
def Mid4 (l : List Node) (n : Nat) (h : n < l.length) (b : Bool) (wr wx : World) : Prop := b = !(headOk' l n h) ∧ Below wr.heap.size wr wx
set_option maxRecDepth 100000 in
set_option maxHeartbeats 8000000 in
theorem Good_calls (A0 : Option Addr) (c0 : Nat) (l : List Node) (W : World) (hT : Tabs W) (hC : Kd.C k38 W A0 l.length l) (hc0 : l.length ≤ c0) (hz : NodesG l) :
  Calls Tryd.prog 22 #[.slice A0 l.length c0] W fun e W' => e = .returned (.bool (goodTree l)) ∧ Below W.heap.size W W' := by
 have HC := Aside0.mk hC
 have HZ := Aside0.mk hz
 have HC0 := Aside0.mk hc0
 have HT := Aside0.mk hT
 have hlen : (l.length : Int) ≤ 1000000000000 := by have := hz.1.1; omega
 clear hC hz hc0 hT
 generalize hpost : (fun (e : Ending) (W' : World) => e = .returned (.bool (goodTree l)) ∧ Below W.heap.size W W') = Q
 have hQ := Aside0.mk hpost
 clear hpost
 go_enter Tryd.func22, Tryd.ntmps22
 go_wp2
 go_loopg [7] (l.length) (fun g i wr => ∃ n : Int, i = .int .i64 n ∧ Aside0 (GRel l W A0 c0 n wr) ∧ Aside0 ((g : Int) + n = l.length))
 case atStart => exact ⟨0, rfl, ⟨⟨by omega, by omega, fun j hj h => absurd h (by omega), (Below.refl _ _).alloc (Nat.le_refl _) _, by simp⟩⟩, ⟨by omega⟩⟩
 case round =>
  obtain ⟨n, rfl, HR, HG⟩ := hrel
  have h0 := HR.out.1
  have h1 := HR.out.2.1
  have HB := Aside0.mk HR.out.2.2.2.1
  have hbox := HR.out.2.2.2.2
  by_cases hlt : n < (l.length : Int)
  ·have hnl : n.toNat < l.length := by omega
   obtain ⟨ad, A7, c7, rfl, x0, x1, x2, x3, x4, x5, x6, x7, x8, hl7, hC7⟩ := at_T38 (Kd.C_below HC.out HB.out) n h0 hlt
   have hx := rdN_at l n h0 hlt
   have hxz : NodeZ (rd_T38 l n) ∧ (rd_T38 l n).f0.size ≤ 8000000000000 ∧ (rd_T38 l n).f1.size ≤ 8000000000000 := by rw [hx]; exact ⟨HZ.out.1.2 _ (List.getElem_mem _), HZ.out.2 _ (List.getElem_mem _)⟩
   generalize rd_T38 l n = x at hx hxz x0 x1 x2 x3 x4 x5 x6 x7 x8 hl7 hC7
   have HX := Aside0.mk hx
   have HXZ := Aside0.mk hxz
   have HC7 := Aside0.mk hC7
   have c1b : decide (n < (l.length : Int)) = true := decide_eq_true hlt
   clear hx hxz hC7
   have hmr : MemZ (memOf x) := ⟨HXZ.out.2.1, HXZ.out.2.2, HXZ.out.1.2.2.2⟩
   obtain ⟨kg, hkg⟩ := Ev.rounds (member_Good_eq (memOf x) hmr)
   generalize hgd : goodM (memOf x) = gd at hkg
   have HGD := Aside0.mk hgd
   have HKG : Aside0 (member_Good.f kg x.f0 x.f1 x.f3 x.f4.f0 x.f4.f1 x.f4.f2 x.f4.f3 x.f5 = some gd) := ⟨hkg⟩
   have HCA := Aside0.mk (fun o => Kd.C_alloc HC7.out o)
   have HTA := Aside0.mk (Tabs.below HT.out HB.out)
   have hl7' : x.f5.length ≤ c7 := hl7
   have HNL := Aside0.mk hnl
   have hbn := World.new_ne wr ⟨W.heap.size, 0, none⟩ hbox
   clear hkg hmr hl7 hgd hnl
   go_upto_region 4 with (fail)
   go_cut [44] (fun v wx => ∃ b, v = .bool b ∧ Aside0 (Mid4 l n.toNat HNL.out b wr wx))
   case first =>
    by_cases h49 : x.f3 = 49
    ·have e49 : (x.f3 == 49) = true := beq_iff_eq.2 h49
     have H49 := Aside0.mk h49
     clear h49
     refine start_ (n := 33) (S := fun w' => w'.cell? ⟨wr.heap.size, 0, none⟩ = some (.string x.f0) ∧ w'.cell? ⟨wr.heap.size, 1, none⟩ = some (.string x.f1) ∧ w'.cell? ⟨wr.heap.size, 2, none⟩ = some (.string x.f2) ∧ w'.cell? ⟨wr.heap.size, 3, none⟩ = some (.int .u8 x.f3) ∧ w'.cell? ⟨wr.heap.size, 4, none⟩ = some (.int .i64 x.f4.f0) ∧ w'.cell? ⟨wr.heap.size, 5, none⟩ = some (.int .i64 x.f4.f1) ∧ w'.cell? ⟨wr.heap.size, 6, none⟩ = some (.int .i64 x.f4.f2) ∧ w'.cell? ⟨wr.heap.size, 7, none⟩ = some (.int .i64 x.f4.f3) ∧ w'.cell? ⟨wr.heap.size, 8, none⟩ = some (.slice A7 x.f5.length c7) ∧ w'.cell? ⟨W.heap.size, 0, none⟩ = some (.slice (some ad) l.length c0)) (ds := []) #[false, false, false, false, false, false, false, false, false, false, false, false, false, false, false, false, false, false, false, false, false, false, false, false, false, false, false, false, false, false, false, false, false] (by kernel_rfl) rfl rfl ⟨by simp, by simp, by simp, by simp, by simp, by simp, by simp, by simp, by simp, acell hbox _⟩ (fun hHeld => ?_)
     generalize hwq : (wr.alloc (.cells #[.string x.f0, .string x.f1, .string x.f2, .int .u8 x.f3, .int .i64 x.f4.f0, .int .i64 x.f4.f1, .int .i64 x.f4.f2, .int .i64 x.f4.f3, .slice A7 x.f5.length c7] 38)).drew = wq at hHeld ⊢
     refine pure_ (i := 0) (N := some 12) (v := ?_) (a' := ?_) #[true, false, false, false, false, false, false, false, false, false, false, false, false, false, false, false, false, false, false, false, false, false, false, false, false, false, false, false, false, false, false, false, false] rfl rfl (by kernel_rfl) (fun _ _ _ h => h) (Or.inl ⟨by rfl, ?_⟩) ?_ ?_
     rotate_left
     ·intro w'
      go_simp
      with_reducible rfl
     rotate_left
     ·simp only [Act.put, List.setIfInBounds_toArray, List.set_cons_zero, List.set_cons_succ, i64_w, i32_w]
      rfl
     refine take_ (i := 1) (N := some 13) (v := ?_) (a' := ?_) #[true, true, false, false, false, false, false, false, false, false, false, false, false, false, false, false, false, false, false, false, false, false, false, false, false, false, false, false, false, false, false, false, false] rfl rfl (by kernel_rfl) (fun _ _ _ h => h) (Or.inl ⟨by rfl, ?_⟩) hHeld ?_ ?_
     rotate_left
     ·rintro w' ⟨s0, s1, s2, s3, s4, s5, s6, s7, s8, s9⟩
      go_simp
      with_reducible rfl
     rotate_left
     ·simp only [Act.put, List.setIfInBounds_toArray, List.set_cons_zero, List.set_cons_succ, i64_w, i32_w]
      rfl
     refine pure_ (i := 2) (N := some 14) (v := ?_) (a' := ?_) #[true, true, true, false, false, false, false, false, false, false, false, false, false, false, false, false, false, false, false, false, false, false, false, false, false, false, false, false, false, false, false, false, false] rfl rfl (by kernel_rfl) (fun _ _ _ h => h) (Or.inl ⟨by rfl, ?_⟩) ?_ ?_
     rotate_left
     ·intro w'
      go_simp
      with_reducible rfl
     rotate_left
     ·simp only [Act.put, List.setIfInBounds_toArray, List.set_cons_zero, List.set_cons_succ, i64_w, i32_w]
      rfl
     refine pure_ (i := 3) (N := some 15) (v := ?_) (a' := ?_) #[true, true, true, true, false, false, false, false, false, false, false, false, false, false, false, false, false, false, false, false, false, false, false, false, false, false, false, false, false, false, false, false, false] rfl rfl (by kernel_rfl) (fun _ _ _ h => h) (Or.inl ⟨by rfl, ?_⟩) ?_ ?_
     rotate_left
     ·intro w'
      go_simp
      with_reducible rfl
     rotate_left
     ·simp only [Act.put, List.setIfInBounds_toArray, List.set_cons_zero, List.set_cons_succ, i64_w, i32_w]
      rfl
     refine pure_ (i := 4) (N := some 16) (v := undef) (a' := ?_) #[true, true, true, true, true, false, false, false, false, false, false, false, false, false, false, false, false, false, false, false, false, false, false, false, false, false, false, false, false, false, false, false, false] rfl rfl (by kernel_rfl) (fun _ _ _ h => h) (Or.inr ⟨by rfl, rfl⟩) ?_ ?_
     rotate_left
     ·simp only [Act.put, List.setIfInBounds_toArray, List.set_cons_zero, List.set_cons_succ, i64_w, i32_w]
      rfl
     refine pure_ (i := 5) (N := some 17) (v := undef) (a' := ?_) #[true, true, true, true, true, true, false, false, false, false, false, false, false, false, false, false, false, false, false, false, false, false, false, false, false, false, false, false, false, false, false, false, false] rfl rfl (by kernel_rfl) (fun _ _ _ h => h) (Or.inr ⟨by rfl, rfl⟩) ?_ ?_
     rotate_left
     ·simp only [Act.put, List.setIfInBounds_toArray, List.set_cons_zero, List.set_cons_succ, i64_w, i32_w]
      rfl
     refine pure_ (i := 6) (N := some 18) (v := undef) (a' := ?_) #[true, true, true, true, true, true, true, false, false, false, false, false, false, false, false, false, false, false, false, false, false, false, false, false, false, false, false, false, false, false, false, false, false] rfl rfl (by kernel_rfl) (fun _ _ _ h => h) (Or.inr ⟨by rfl, rfl⟩) ?_ ?_
     rotate_left
     ·simp only [Act.put, List.setIfInBounds_toArray, List.set_cons_zero, List.set_cons_succ, i64_w, i32_w]
      rfl
     refine pure_ (i := 7) (N := some 19) (v := undef) (a' := ?_) #[true, true, true, true, true, true, true, true, false, false, false, false, false, false, false, false, false, false, false, false, false, false, false, false, false, false, false, false, false, false, false, false, false] rfl rfl (by kernel_rfl) (fun _ _ _ h => h) (Or.inr ⟨by rfl, rfl⟩) ?_ ?_
     rotate_left
     ·simp only [Act.put, List.setIfInBounds_toArray, List.set_cons_zero, List.set_cons_succ, i64_w, i32_w]
      rfl
     refine pure_ (i := 8) (N := some 20) (v := undef) (a' := ?_) #[true, true, true, true, true, true, true, true, true, false, false, false, false, false, false, false, false, false, false, false, false, false, false, false, false, false, false, false, false, false, false, false, false] rfl rfl (by kernel_rfl) (fun _ _ _ h => h) (Or.inr ⟨by rfl, rfl⟩) ?_ ?_
     rotate_left
     ·simp only [Act.put, List.setIfInBounds_toArray, List.set_cons_zero, List.set_cons_succ, i64_w, i32_w]
      rfl
     refine pure_ (i := 9) (N := some 21) (v := undef) (a' := ?_) #[true, true, true, true, true, true, true, true, true, true, false, false, false, false, false, false, false, false, false, false, false, false, false, false, false, false, false, false, false, false, false, false, false] rfl rfl (by kernel_rfl) (fun _ _ _ h => h) (Or.inr ⟨by rfl, rfl⟩) ?_ ?_
     rotate_left
     ·simp only [Act.put, List.setIfInBounds_toArray, List.set_cons_zero, List.set_cons_succ, i64_w, i32_w]
      rfl
     refine pure_ (i := 10) (N := some 22) (v := undef) (a' := ?_) #[true, true, true, true, true, true, true, true, true, true, true, false, false, false, false, false, false, false, false, false, false, false, false, false, false, false, false, false, false, false, false, false, false] rfl rfl (by kernel_rfl) (fun _ _ _ h => h) (Or.inr ⟨by rfl, rfl⟩) ?_ ?_
     rotate_left
     ·simp only [Act.put, List.setIfInBounds_toArray, List.set_cons_zero, List.set_cons_succ, i64_w, i32_w]
      rfl
     refine pure_ (i := 11) (N := some 23) (v := undef) (a' := ?_) #[true, true, true, true, true, true, true, true, true, true, true, true, false, false, false, false, false, false, false, false, false, false, false, false, false, false, false, false, false, false, false, false, false] rfl rfl (by kernel_rfl) (fun _ _ _ h => h) (Or.inr ⟨by rfl, rfl⟩) ?_ ?_
     rotate_left
     ·simp only [Act.put, List.setIfInBounds_toArray, List.set_cons_zero, List.set_cons_succ, i64_w, i32_w]
      rfl
     refine pure_ (i := 12) (N := some 24) (v := undef) (a' := ?_) #[true, true, true, true, true, true, true, true, true, true, true, true, true, false, false, false, false, false, false, false, false, false, false, false, false, false, false, false, false, false, false, false, false] rfl rfl (by kernel_rfl) (fun _ _ _ h => h) (Or.inr ⟨by rfl, rfl⟩) ?_ ?_
     rotate_left
     ·simp only [Act.put, List.setIfInBounds_toArray, List.set_cons_zero, List.set_cons_succ, i64_w, i32_w]
      rfl
     refine pure_ (i := 13) (N := some 25) (v := undef) (a' := ?_) #[true, true, true, true, true, true, true, true, true, true, true, true, true, true, false, false, false, false, false, false, false, false, false, false, false, false, false, false, false, false, false, false, false] rfl rfl (by kernel_rfl) (fun _ _ _ h => h) (Or.inr ⟨by rfl, rfl⟩) ?_ ?_
     rotate_left
     ·simp only [Act.put, List.setIfInBounds_toArray, List.set_cons_zero, List.set_cons_succ, i64_w, i32_w]
      rfl
     refine pure_ (i := 14) (N := some 26) (v := undef) (a' := ?_) #[true, true, true, true, true, true, true, true, true, true, true, true, true, true, true, false, false, false, false, false, false, false, false, false, false, false, false, false, false, false, false, false, false] rfl rfl (by kernel_rfl) (fun _ _ _ h => h) (Or.inr ⟨by rfl, rfl⟩) ?_ ?_
     rotate_left
     ·simp only [Act.put, List.setIfInBounds_toArray, List.set_cons_zero, List.set_cons_succ, i64_w, i32_w]
      rfl
     refine pure_ (i := 15) (N := some 27) (v := undef) (a' := ?_) #[true, true, true, true, true, true, true, true, true, true, true, true, true, true, true, true, false, false, false, false, false, false, false, false, false, false, false, false, false, false, false, false, false] rfl rfl (by kernel_rfl) (fun _ _ _ h => h) (Or.inr ⟨by rfl, rfl⟩) ?_ ?_
     rotate_left
     ·simp only [Act.put, List.setIfInBounds_toArray, List.set_cons_zero, List.set_cons_succ, i64_w, i32_w]
      rfl
     refine pure_ (i := 16) (N := some 28) (v := undef) (a' := ?_) #[true, true, true, true, true, true, true, true, true, true, true, true, true, true, true, true, true, false, false, false, false, false, false, false, false, false, false, false, false, false, false, false, false] rfl rfl (by kernel_rfl) (fun _ _ _ h => h) (Or.inr ⟨by rfl, rfl⟩) ?_ ?_
     rotate_left
     ·simp only [Act.put, List.setIfInBounds_toArray, List.set_cons_zero, List.set_cons_succ, i64_w, i32_w]
      rfl
     refine pure_ (i := 17) (N := some 29) (v := ?_) (a' := ?_) #[true, true, true, true, true, true, true, true, true, true, true, true, true, true, true, true, true, true, false, false, false, false, false, false, false, false, false, false, false, false, false, false, false] rfl rfl (by kernel_rfl) (fun _ _ _ h => h) (Or.inl ⟨by rfl, ?_⟩) ?_ ?_
     rotate_left
     ·intro w'
      go_simp
      with_reducible rfl
     rotate_left
     ·simp only [Act.put, List.setIfInBounds_toArray, List.set_cons_zero, List.set_cons_succ, i64_w, i32_w]
      rfl
     refine pure_ (i := 18) (N := some 30) (v := ?_) (a' := ?_) #[true, true, true, true, true, true, true, true, true, true, true, true, true, true, true, true, true, true, true, false, false, false, false, false, false, false, false, false, false, false, false, false, false] rfl rfl (by kernel_rfl) (fun _ _ _ h => h) (Or.inl ⟨by rfl, ?_⟩) ?_ ?_
     rotate_left
     ·intro w'
      go_simp
      with_reducible rfl
     rotate_left
     ·simp only [Act.put, List.setIfInBounds_toArray, List.set_cons_zero, List.set_cons_succ, i64_w, i32_w]
      rfl
     refine pure_ (i := 19) (N := some 31) (v := undef) (a' := ?_) #[true, true, true, true, true, true, true, true, true, true, true, true, true, true, true, true, true, true, true, true, false, false, false, false, false, false, false, false, false, false, false, false, false] rfl rfl (by kernel_rfl) (fun _ _ _ h => h) (Or.inr ⟨by rfl, rfl⟩) ?_ ?_
     rotate_left
     ·simp only [Act.put, List.setIfInBounds_toArray, List.set_cons_zero, List.set_cons_succ, i64_w, i32_w]
      rfl
     refine pure_ (i := 20) (N := some 32) (v := undef) (a' := ?_) #[true, true, true, true, true, true, true, true, true, true, true, true, true, true, true, true, true, true, true, true, true, false, false, false, false, false, false, false, false, false, false, false, false] rfl rfl (by kernel_rfl) (fun _ _ _ h => h) (Or.inr ⟨by rfl, rfl⟩) ?_ ?_
     rotate_left
     ·simp only [Act.put, List.setIfInBounds_toArray, List.set_cons_zero, List.set_cons_succ, i64_w, i32_w]
      rfl
     refine pure_ (i := 21) (N := some 33) (v := undef) (a' := ?_) #[true, true, true, true, true, true, true, true, true, true, true, true, true, true, true, true, true, true, true, true, true, true, false, false, false, false, false, false, false, false, false, false, false] rfl rfl (by kernel_rfl) (fun _ _ _ h => h) (Or.inr ⟨by rfl, rfl⟩) ?_ ?_
     rotate_left
     ·simp only [Act.put, List.setIfInBounds_toArray, List.set_cons_zero, List.set_cons_succ, i64_w, i32_w]
      rfl
     refine pure_ (i := 22) (N := some 34) (v := undef) (a' := ?_) #[true, true, true, true, true, true, true, true, true, true, true, true, true, true, true, true, true, true, true, true, true, true, true, false, false, false, false, false, false, false, false, false, false] rfl rfl (by kernel_rfl) (fun _ _ _ h => h) (Or.inr ⟨by rfl, rfl⟩) ?_ ?_
     rotate_left
     ·simp only [Act.put, List.setIfInBounds_toArray, List.set_cons_zero, List.set_cons_succ, i64_w, i32_w]
      rfl
     refine pure_ (i := 23) (N := some 35) (v := undef) (a' := ?_) #[true, true, true, true, true, true, true, true, true, true, true, true, true, true, true, true, true, true, true, true, true, true, true, true, false, false, false, false, false, false, false, false, false] rfl rfl (by kernel_rfl) (fun _ _ _ h => h) (Or.inr ⟨by rfl, rfl⟩) ?_ ?_
     rotate_left
     ·simp only [Act.put, List.setIfInBounds_toArray, List.set_cons_zero, List.set_cons_succ, i64_w, i32_w]
      rfl
     refine pure_ (i := 24) (N := some 36) (v := undef) (a' := ?_) #[true, true, true, true, true, true, true, true, true, true, true, true, true, true, true, true, true, true, true, true, true, true, true, true, true, false, false, false, false, false, false, false, false] rfl rfl (by kernel_rfl) (fun _ _ _ h => h) (Or.inr ⟨by rfl, rfl⟩) ?_ ?_
     rotate_left
     ·simp only [Act.put, List.setIfInBounds_toArray, List.set_cons_zero, List.set_cons_succ, i64_w, i32_w]
      rfl
     refine pure_ (i := 25) (N := some 37) (v := undef) (a' := ?_) #[true, true, true, true, true, true, true, true, true, true, true, true, true, true, true, true, true, true, true, true, true, true, true, true, true, true, false, false, false, false, false, false, false] rfl rfl (by kernel_rfl) (fun _ _ _ h => h) (Or.inr ⟨by rfl, rfl⟩) ?_ ?_
     rotate_left
     ·simp only [Act.put, List.setIfInBounds_toArray, List.set_cons_zero, List.set_cons_succ, i64_w, i32_w]
      rfl
     refine pure_ (i := 26) (N := some 38) (v := undef) (a' := ?_) #[true, true, true, true, true, true, true, true, true, true, true, true, true, true, true, true, true, true, true, true, true, true, true, true, true, true, true, false, false, false, false, false, false] rfl rfl (by kernel_rfl) (fun _ _ _ h => h) (Or.inr ⟨by rfl, rfl⟩) ?_ ?_
     rotate_left
     ·simp only [Act.put, List.setIfInBounds_toArray, List.set_cons_zero, List.set_cons_succ, i64_w, i32_w]
      rfl
     refine pure_ (i := 27) (N := some 39) (v := undef) (a' := ?_) #[true, true, true, true, true, true, true, true, true, true, true, true, true, true, true, true, true, true, true, true, true, true, true, true, true, true, true, true, false, false, false, false, false] rfl rfl (by kernel_rfl) (fun _ _ _ h => h) (Or.inr ⟨by rfl, rfl⟩) ?_ ?_
     rotate_left
     ·simp only [Act.put, List.setIfInBounds_toArray, List.set_cons_zero, List.set_cons_succ, i64_w, i32_w]
      rfl
     refine pure_ (i := 28) (N := some 40) (v := undef) (a' := ?_) #[true, true, true, true, true, true, true, true, true, true, true, true, true, true, true, true, true, true, true, true, true, true, true, true, true, true, true, true, true, false, false, false, false] rfl rfl (by kernel_rfl) (fun _ _ _ h => h) (Or.inr ⟨by rfl, rfl⟩) ?_ ?_
     rotate_left
     ·simp only [Act.put, List.setIfInBounds_toArray, List.set_cons_zero, List.set_cons_succ, i64_w, i32_w]
      rfl
     refine pure_ (i := 29) (N := some 41) (v := undef) (a' := ?_) #[true, true, true, true, true, true, true, true, true, true, true, true, true, true, true, true, true, true, true, true, true, true, true, true, true, true, true, true, true, true, false, false, false] rfl rfl (by kernel_rfl) (fun _ _ _ h => h) (Or.inr ⟨by rfl, rfl⟩) ?_ ?_
     rotate_left
     ·simp only [Act.put, List.setIfInBounds_toArray, List.set_cons_zero, List.set_cons_succ, i64_w, i32_w]
      rfl
     refine pure_ (i := 30) (N := some 42) (v := undef) (a' := ?_) #[true, true, true, true, true, true, true, true, true, true, true, true, true, true, true, true, true, true, true, true, true, true, true, true, true, true, true, true, true, true, true, false, false] rfl rfl (by kernel_rfl) (fun _ _ _ h => h) (Or.inr ⟨by rfl, rfl⟩) ?_ ?_
     rotate_left
     ·simp only [Act.put, List.setIfInBounds_toArray, List.set_cons_zero, List.set_cons_succ, i64_w, i32_w]
      rfl
     refine pure_ (i := 31) (N := some 43) (v := undef) (a' := ?_) #[true, true, true, true, true, true, true, true, true, true, true, true, true, true, true, true, true, true, true, true, true, true, true, true, true, true, true, true, true, true, true, true, false] rfl rfl (by kernel_rfl) (fun _ _ _ h => h) (Or.inr ⟨by rfl, rfl⟩) ?_ ?_
     rotate_left
     ·simp only [Act.put, List.setIfInBounds_toArray, List.set_cons_zero, List.set_cons_succ, i64_w, i32_w]
      rfl
     refine pure_ (i := 32) (N := some 44) (v := ?_) (a' := ?_) #[true, true, true, true, true, true, true, true, true, true, true, true, true, true, true, true, true, true, true, true, true, true, true, true, true, true, true, true, true, true, true, true, true] rfl rfl (by kernel_rfl) (fun _ _ _ h => h) (Or.inl ⟨by rfl, ?_⟩) ?_ ?_
     rotate_left
     ·intro w'
      go_simp
      with_reducible rfl
     rotate_left
     ·simp only [Act.put, List.setIfInBounds_toArray, List.set_cons_zero, List.set_cons_succ, i64_w, i32_w]
      rfl
     refine done_ (by kernel_rfl) ?_
     go_wp2_with (fail)
     go_meet
     exact ⟨true, rfl, ⟨by unfold headOk'; rw [← HX.out, decide_eq_true H49.out]; simp, by rw [← hwq]; exact below_drew (below_alloc (Below.refl _ _) _)⟩⟩
    ·have e49 : (x.f3 == 49) = false := beq_eq_false_iff_ne.2 h49
     have H49 := Aside0.mk h49
     clear h49
     by_cases hn0 : n = 0
     ·have g1 : decide (0 < n) = false := decide_eq_false (by omega)
      have g2 : decide (n > 0) = false := decide_eq_false (by omega)
      have HN0 := Aside0.mk hn0
      clear hn0
      refine start_ (n := 33) (S := fun w' => w'.cell? ⟨wr.heap.size, 0, none⟩ = some (.string x.f0) ∧ w'.cell? ⟨wr.heap.size, 1, none⟩ = some (.string x.f1) ∧ w'.cell? ⟨wr.heap.size, 2, none⟩ = some (.string x.f2) ∧ w'.cell? ⟨wr.heap.size, 3, none⟩ = some (.int .u8 x.f3) ∧ w'.cell? ⟨wr.heap.size, 4, none⟩ = some (.int .i64 x.f4.f0) ∧ w'.cell? ⟨wr.heap.size, 5, none⟩ = some (.int .i64 x.f4.f1) ∧ w'.cell? ⟨wr.heap.size, 6, none⟩ = some (.int .i64 x.f4.f2) ∧ w'.cell? ⟨wr.heap.size, 7, none⟩ = some (.int .i64 x.f4.f3) ∧ w'.cell? ⟨wr.heap.size, 8, none⟩ = some (.slice A7 x.f5.length c7) ∧ w'.cell? ⟨W.heap.size, 0, none⟩ = some (.slice (some ad) l.length c0)) (ds := []) #[false, false, false, false, false, false, false, false, false, false, false, false, false, false, false, false, false, false, false, false, false, false, false, false, false, false, false, false, false, false, false, false, false] (by kernel_rfl) rfl rfl ⟨by simp, by simp, by simp, by simp, by simp, by simp, by simp, by simp, by simp, acell hbox _⟩ (fun hHeld => ?_)
      generalize hwq : (wr.alloc (.cells #[.string x.f0, .string x.f1, .string x.f2, .int .u8 x.f3, .int .i64 x.f4.f0, .int .i64 x.f4.f1, .int .i64 x.f4.f2, .int .i64 x.f4.f3, .slice A7 x.f5.length c7] 38)).drew = wq at hHeld ⊢
      refine pure_ (i := 0) (N := some 12) (v := ?_) (a' := ?_) #[true, false, false, false, false, false, false, false, false, false, false, false, false, false, false, false, false, false, false, false, false, false, false, false, false, false, false, false, false, false, false, false, false] rfl rfl (by kernel_rfl) (fun _ _ _ h => h) (Or.inl ⟨by rfl, ?_⟩) ?_ ?_
      rotate_left
      ·intro w'
       go_simp
       with_reducible rfl
      rotate_left
      ·simp only [Act.put, List.setIfInBounds_toArray, List.set_cons_zero, List.set_cons_succ, i64_w, i32_w]
       rfl
      refine take_ (i := 1) (N := some 13) (v := ?_) (a' := ?_) #[true, true, false, false, false, false, false, false, false, false, false, false, false, false, false, false, false, false, false, false, false, false, false, false, false, false, false, false, false, false, false, false, false] rfl rfl (by kernel_rfl) (fun _ _ _ h => h) (Or.inl ⟨by rfl, ?_⟩) hHeld ?_ ?_
      rotate_left
      ·rintro w' ⟨s0, s1, s2, s3, s4, s5, s6, s7, s8, s9⟩
       go_simp
       with_reducible rfl
      rotate_left
      ·simp only [Act.put, List.setIfInBounds_toArray, List.set_cons_zero, List.set_cons_succ, i64_w, i32_w]
       rfl
      refine pure_ (i := 2) (N := some 14) (v := ?_) (a' := ?_) #[true, true, true, false, false, false, false, false, false, false, false, false, false, false, false, false, false, false, false, false, false, false, false, false, false, false, false, false, false, false, false, false, false] rfl rfl (by kernel_rfl) (fun _ _ _ h => h) (Or.inl ⟨by rfl, ?_⟩) ?_ ?_
      rotate_left
      ·intro w'
       go_simp
       with_reducible rfl
      rotate_left
      ·simp only [Act.put, List.setIfInBounds_toArray, List.set_cons_zero, List.set_cons_succ, i64_w, i32_w]
       rfl
      refine pure_ (i := 3) (N := some 15) (v := ?_) (a' := ?_) #[true, true, true, true, false, false, false, false, false, false, false, false, false, false, false, false, false, false, false, false, false, false, false, false, false, false, false, false, false, false, false, false, false] rfl rfl (by kernel_rfl) (fun _ _ _ h => h) (Or.inl ⟨by rfl, ?_⟩) ?_ ?_
      rotate_left
      ·intro w'
       go_simp
       with_reducible rfl
      rotate_left
      ·simp only [Act.put, List.setIfInBounds_toArray, List.set_cons_zero, List.set_cons_succ, i64_w, i32_w]
       rfl
      refine pure_ (i := 4) (N := some 16) (v := ?_) (a' := ?_) #[true, true, true, true, true, false, false, false, false, false, false, false, false, false, false, false, false, false, false, false, false, false, false, false, false, false, false, false, false, false, false, false, false] rfl rfl (by kernel_rfl) (fun _ _ _ h => h) (Or.inl ⟨by rfl, ?_⟩) ?_ ?_
      rotate_left
      ·intro w'
       go_simp
       with_reducible rfl
      rotate_left
      ·simp only [Act.put, List.setIfInBounds_toArray, List.set_cons_zero, List.set_cons_succ, i64_w, i32_w]
       rfl
      refine pure_ (i := 5) (N := some 17) (v := ?_) (a' := ?_) #[true, true, true, true, true, true, false, false, false, false, false, false, false, false, false, false, false, false, false, false, false, false, false, false, false, false, false, false, false, false, false, false, false] rfl rfl (by kernel_rfl) (fun _ _ _ h => h) (Or.inl ⟨by rfl, ?_⟩) ?_ ?_
      rotate_left
      ·intro w'
       go_simp
       with_reducible rfl
      rotate_left
      ·simp only [Act.put, List.setIfInBounds_toArray, List.set_cons_zero, List.set_cons_succ, i64_w, i32_w]
       rfl
      refine pure_ (i := 6) (N := some 18) (v := ?_) (a' := ?_) #[true, true, true, true, true, true, true, false, false, false, false, false, false, false, false, false, false, false, false, false, false, false, false, false, false, false, false, false, false, false, false, false, false] rfl rfl (by kernel_rfl) (fun _ _ _ h => h) (Or.inl ⟨by rfl, ?_⟩) ?_ ?_
      rotate_left
      ·intro w'
       go_simp
       with_reducible rfl
      rotate_left
      ·simp only [Act.put, List.setIfInBounds_toArray, List.set_cons_zero, List.set_cons_succ, i64_w, i32_w]
       rfl
      refine pure_ (i := 7) (N := some 19) (v := undef) (a' := ?_) #[true, true, true, true, true, true, true, true, false, false, false, false, false, false, false, false, false, false, false, false, false, false, false, false, false, false, false, false, false, false, false, false, false] rfl rfl (by kernel_rfl) (fun _ _ _ h => h) (Or.inr ⟨by rfl, rfl⟩) ?_ ?_
      rotate_left
      ·simp only [Act.put, List.setIfInBounds_toArray, List.set_cons_zero, List.set_cons_succ, i64_w, i32_w]
       rfl
      refine pure_ (i := 8) (N := some 20) (v := undef) (a' := ?_) #[true, true, true, true, true, true, true, true, true, false, false, false, false, false, false, false, false, false, false, false, false, false, false, false, false, false, false, false, false, false, false, false, false] rfl rfl (by kernel_rfl) (fun _ _ _ h => h) (Or.inr ⟨by rfl, rfl⟩) ?_ ?_
      rotate_left
      ·simp only [Act.put, List.setIfInBounds_toArray, List.set_cons_zero, List.set_cons_succ, i64_w, i32_w]
       rfl
      refine pure_ (i := 9) (N := some 21) (v := undef) (a' := ?_) #[true, true, true, true, true, true, true, true, true, true, false, false, false, false, false, false, false, false, false, false, false, false, false, false, false, false, false, false, false, false, false, false, false] rfl rfl (by kernel_rfl) (fun _ _ _ h => h) (Or.inr ⟨by rfl, rfl⟩) ?_ ?_
      rotate_left
      ·simp only [Act.put, List.setIfInBounds_toArray, List.set_cons_zero, List.set_cons_succ, i64_w, i32_w]
       rfl
      refine pure_ (i := 10) (N := some 22) (v := undef) (a' := ?_) #[true, true, true, true, true, true, true, true, true, true, true, false, false, false, false, false, false, false, false, false, false, false, false, false, false, false, false, false, false, false, false, false, false] rfl rfl (by kernel_rfl) (fun _ _ _ h => h) (Or.inr ⟨by rfl, rfl⟩) ?_ ?_
      rotate_left
      ·simp only [Act.put, List.setIfInBounds_toArray, List.set_cons_zero, List.set_cons_succ, i64_w, i32_w]
       rfl
      refine pure_ (i := 11) (N := some 23) (v := undef) (a' := ?_) #[true, true, true, true, true, true, true, true, true, true, true, true, false, false, false, false, false, false, false, false, false, false, false, false, false, false, false, false, false, false, false, false, false] rfl rfl (by kernel_rfl) (fun _ _ _ h => h) (Or.inr ⟨by rfl, rfl⟩) ?_ ?_
      rotate_left
      ·simp only [Act.put, List.setIfInBounds_toArray, List.set_cons_zero, List.set_cons_succ, i64_w, i32_w]
       rfl
      refine pure_ (i := 12) (N := some 24) (v := undef) (a' := ?_) #[true, true, true, true, true, true, true, true, true, true, true, true, true, false, false, false, false, false, false, false, false, false, false, false, false, false, false, false, false, false, false, false, false] rfl rfl (by kernel_rfl) (fun _ _ _ h => h) (Or.inr ⟨by rfl, rfl⟩) ?_ ?_
      rotate_left
      ·simp only [Act.put, List.setIfInBounds_toArray, List.set_cons_zero, List.set_cons_succ, i64_w, i32_w]
       rfl
      refine pure_ (i := 13) (N := some 25) (v := undef) (a' := ?_) #[true, true, true, true, true, true, true, true, true, true, true, true, true, true, false, false, false, false, false, false, false, false, false, false, false, false, false, false, false, false, false, false, false] rfl rfl (by kernel_rfl) (fun _ _ _ h => h) (Or.inr ⟨by rfl, rfl⟩) ?_ ?_
      rotate_left
      ·simp only [Act.put, List.setIfInBounds_toArray, List.set_cons_zero, List.set_cons_succ, i64_w, i32_w]
       rfl
      refine pure_ (i := 14) (N := some 26) (v := undef) (a' := ?_) #[true, true, true, true, true, true, true, true, true, true, true, true, true, true, true, false, false, false, false, false, false, false, false, false, false, false, false, false, false, false, false, false, false] rfl rfl (by kernel_rfl) (fun _ _ _ h => h) (Or.inr ⟨by rfl, rfl⟩) ?_ ?_
      rotate_left
      ·simp only [Act.put, List.setIfInBounds_toArray, List.set_cons_zero, List.set_cons_succ, i64_w, i32_w]
       rfl
      refine pure_ (i := 15) (N := some 27) (v := undef) (a' := ?_) #[true, true, true, true, true, true, true, true, true, true, true, true, true, true, true, true, false, false, false, false, false, false, false, false, false, false, false, false, false, false, false, false, false] rfl rfl (by kernel_rfl) (fun _ _ _ h => h) (Or.inr ⟨by rfl, rfl⟩) ?_ ?_
      rotate_left
      ·simp only [Act.put, List.setIfInBounds_toArray, List.set_cons_zero, List.set_cons_succ, i64_w, i32_w]
       rfl
      refine pure_ (i := 16) (N := some 28) (v := ?_) (a' := ?_) #[true, true, true, true, true, true, true, true, true, true, true, true, true, true, true, true, true, false, false, false, false, false, false, false, false, false, false, false, false, false, false, false, false] rfl rfl (by kernel_rfl) (fun _ _ _ h => h) (Or.inl ⟨by rfl, ?_⟩) ?_ ?_
      rotate_left
      ·intro w'
       go_simp
       with_reducible rfl
      rotate_left
      ·simp only [Act.put, List.setIfInBounds_toArray, List.set_cons_zero, List.set_cons_succ, i64_w, i32_w]
       rfl
      refine pure_ (i := 17) (N := some 29) (v := ?_) (a' := ?_) #[true, true, true, true, true, true, true, true, true, true, true, true, true, true, true, true, true, true, false, false, false, false, false, false, false, false, false, false, false, false, false, false, false] rfl rfl (by kernel_rfl) (fun _ _ _ h => h) (Or.inl ⟨by rfl, ?_⟩) ?_ ?_
      rotate_left
      ·intro w'
       go_simp
       with_reducible rfl
      rotate_left
      ·simp only [Act.put, List.setIfInBounds_toArray, List.set_cons_zero, List.set_cons_succ, i64_w, i32_w]
       rfl
      refine pure_ (i := 18) (N := some 30) (v := ?_) (a' := ?_) #[true, true, true, true, true, true, true, true, true, true, true, true, true, true, true, true, true, true, true, false, false, false, false, false, false, false, false, false, false, false, false, false, false] rfl rfl (by kernel_rfl) (fun _ _ _ h => h) (Or.inl ⟨by rfl, ?_⟩) ?_ ?_
      rotate_left
      ·intro w'
       go_simp
       with_reducible rfl
      rotate_left
      ·simp only [Act.put, List.setIfInBounds_toArray, List.set_cons_zero, List.set_cons_succ, i64_w, i32_w]
       rfl
      refine pure_ (i := 19) (N := some 31) (v := ?_) (a' := ?_) #[true, true, true, true, true, true, true, true, true, true, true, true, true, true, true, true, true, true, true, true, false, false, false, false, false, false, false, false, false, false, false, false, false] rfl rfl (by kernel_rfl) (fun _ _ _ h => h) (Or.inl ⟨by rfl, ?_⟩) ?_ ?_
      rotate_left
      ·intro w'
       go_simp
       with_reducible rfl
      rotate_left
      ·simp only [Act.put, List.setIfInBounds_toArray, List.set_cons_zero, List.set_cons_succ, i64_w, i32_w]
       rfl
      refine take_ (i := 20) (N := some 32) (v := ?_) (a' := ?_) #[true, true, true, true, true, true, true, true, true, true, true, true, true, true, true, true, true, true, true, true, true, false, false, false, false, false, false, false, false, false, false, false, false] rfl rfl (by kernel_rfl) (fun _ _ _ h => h) (Or.inl ⟨by rfl, ?_⟩) hHeld ?_ ?_
      rotate_left
      ·rintro w' ⟨s0, s1, s2, s3, s4, s5, s6, s7, s8, s9⟩
       go_simp
       with_reducible rfl
      rotate_left
      ·simp only [Act.put, List.setIfInBounds_toArray, List.set_cons_zero, List.set_cons_succ, i64_w, i32_w]
       rfl
      refine pure_ (i := 21) (N := some 33) (v := ?_) (a' := ?_) #[true, true, true, true, true, true, true, true, true, true, true, true, true, true, true, true, true, true, true, true, true, true, false, false, false, false, false, false, false, false, false, false, false] rfl rfl (by kernel_rfl) (fun _ _ _ h => h) (Or.inl ⟨by rfl, ?_⟩) ?_ ?_
      rotate_left
      ·intro w'
       go_simp
       with_reducible rfl
      rotate_left
      ·simp only [Act.put, List.setIfInBounds_toArray, List.set_cons_zero, List.set_cons_succ, i64_w, i32_w]
       rfl
      refine take_ (i := 22) (N := some 34) (v := ?_) (a' := ?_) #[true, true, true, true, true, true, true, true, true, true, true, true, true, true, true, true, true, true, true, true, true, true, true, false, false, false, false, false, false, false, false, false, false] rfl rfl (by kernel_rfl) (fun _ _ _ h => h) (Or.inl ⟨by rfl, ?_⟩) hHeld ?_ ?_
      rotate_left
      ·rintro w' ⟨s0, s1, s2, s3, s4, s5, s6, s7, s8, s9⟩
       go_simp
       with_reducible rfl
      rotate_left
      ·simp only [Act.put, List.setIfInBounds_toArray, List.set_cons_zero, List.set_cons_succ, i64_w, i32_w]
       rfl
      refine pure_ (i := 23) (N := some 35) (v := ?_) (a' := ?_) #[true, true, true, true, true, true, true, true, true, true, true, true, true, true, true, true, true, true, true, true, true, true, true, true, false, false, false, false, false, false, false, false, false] rfl rfl (by kernel_rfl) (fun _ _ _ h => h) (Or.inl ⟨by rfl, ?_⟩) ?_ ?_
      rotate_left
      ·intro w'
       go_simp
       with_reducible rfl
      rotate_left
      ·simp only [Act.put, List.setIfInBounds_toArray, List.set_cons_zero, List.set_cons_succ, i64_w, i32_w]
       rfl
      refine take_ (i := 24) (N := some 36) (v := ?_) (a' := ?_) #[true, true, true, true, true, true, true, true, true, true, true, true, true, true, true, true, true, true, true, true, true, true, true, true, true, false, false, false, false, false, false, false, false] rfl rfl (by kernel_rfl) (fun _ _ _ h => h) (Or.inl ⟨by rfl, ?_⟩) hHeld ?_ ?_
      rotate_left
      ·rintro w' ⟨s0, s1, s2, s3, s4, s5, s6, s7, s8, s9⟩
       go_simp
       with_reducible rfl
      rotate_left
      ·simp only [Act.put, List.setIfInBounds_toArray, List.set_cons_zero, List.set_cons_succ, i64_w, i32_w]
       rfl
      refine pure_ (i := 25) (N := some 37) (v := ?_) (a' := ?_) #[true, true, true, true, true, true, true, true, true, true, true, true, true, true, true, true, true, true, true, true, true, true, true, true, true, true, false, false, false, false, false, false, false] rfl rfl (by kernel_rfl) (fun _ _ _ h => h) (Or.inl ⟨by rfl, ?_⟩) ?_ ?_
      rotate_left
      ·intro w'
       go_simp
       with_reducible rfl
      rotate_left
      ·simp only [Act.put, List.setIfInBounds_toArray, List.set_cons_zero, List.set_cons_succ, i64_w, i32_w]
       rfl
      refine take_ (i := 26) (N := some 38) (v := ?_) (a' := ?_) #[true, true, true, true, true, true, true, true, true, true, true, true, true, true, true, true, true, true, true, true, true, true, true, true, true, true, true, false, false, false, false, false, false] rfl rfl (by kernel_rfl) (fun _ _ _ h => h) (Or.inl ⟨by rfl, ?_⟩) hHeld ?_ ?_
      rotate_left
      ·rintro w' ⟨s0, s1, s2, s3, s4, s5, s6, s7, s8, s9⟩
       go_simp
       with_reducible rfl
      rotate_left
      ·simp only [Act.put, List.setIfInBounds_toArray, List.set_cons_zero, List.set_cons_succ, i64_w, i32_w]
       rfl
      refine pure_ (i := 27) (N := some 39) (v := ?_) (a' := ?_) #[true, true, true, true, true, true, true, true, true, true, true, true, true, true, true, true, true, true, true, true, true, true, true, true, true, true, true, true, false, false, false, false, false] rfl rfl (by kernel_rfl) (fun _ _ _ h => h) (Or.inl ⟨by rfl, ?_⟩) ?_ ?_
      rotate_left
      ·intro w'
       go_simp
       with_reducible rfl
      rotate_left
      ·simp only [Act.put, List.setIfInBounds_toArray, List.set_cons_zero, List.set_cons_succ, i64_w, i32_w]
       rfl
      refine take_ (i := 28) (N := some 40) (v := ?_) (a' := ?_) #[true, true, true, true, true, true, true, true, true, true, true, true, true, true, true, true, true, true, true, true, true, true, true, true, true, true, true, true, true, false, false, false, false] rfl rfl (by kernel_rfl) (fun _ _ _ h => h) (Or.inl ⟨by rfl, ?_⟩) hHeld ?_ ?_
      rotate_left
      ·rintro w' ⟨s0, s1, s2, s3, s4, s5, s6, s7, s8, s9⟩
       go_simp
       with_reducible rfl
      rotate_left
      ·simp only [Act.put, List.setIfInBounds_toArray, List.set_cons_zero, List.set_cons_succ, i64_w, i32_w]
       rfl
      refine pure_ (i := 29) (N := some 41) (v := ?_) (a' := ?_) #[true, true, true, true, true, true, true, true, true, true, true, true, true, true, true, true, true, true, true, true, true, true, true, true, true, true, true, true, true, true, false, false, false] rfl rfl (by kernel_rfl) (fun _ _ _ h => h) (Or.inl ⟨by rfl, ?_⟩) ?_ ?_
      rotate_left
      ·intro w'
       go_simp
       with_reducible rfl
      rotate_left
      ·simp only [Act.put, List.setIfInBounds_toArray, List.set_cons_zero, List.set_cons_succ, i64_w, i32_w]
       rfl
      refine one_ (i := 30) (N := some 42) #[true, true, true, true, true, true, true, true, true, true, true, true, true, true, true, true, true, true, true, true, true, true, true, true, true, true, true, true, true, true, true, false, false] rfl rfl (by kernel_rfl) (by decide) (fun K hK => ?_)
      refine goes_ Tryd.func25 (by kernel_rfl) rfl #[.agg #[.string x.f0, .string x.f1, .int .u8 x.f3, .int .i64 x.f4.f0, .int .i64 x.f4.f1, .int .i64 x.f4.f2, .int .i64 x.f4.f3, .slice A7 x.f5.length c7]] (by rfl) rfl rfl (by first | rfl | (simp [Act.eval]; done)) ?_
      refine (member_Good.calls kg x.f0 x.f1 x.f3 x.f4.f0 x.f4.f1 x.f4.f2 x.f4.f3 A7 c7 x.f5 gd wq ⟨by rw [← hwq]; exact Tabs.below HTA.out (below_drew (below_alloc (Below.refl _ _) _))⟩ (by rw [← hwq]; exact Kd.C_drew (HCA.out _)) hl7' HKG.out).mono ?_
      rintro e w5 ⟨rfl, hb5⟩
      refine ⟨_, rfl, ?_⟩
      refine hK.out _ _ ⟨bkeep hb5 hHeld.1, bkeep hb5 hHeld.2.1, bkeep hb5 hHeld.2.2.1, bkeep hb5 hHeld.2.2.2.1, bkeep hb5 hHeld.2.2.2.2.1, bkeep hb5 hHeld.2.2.2.2.2.1, bkeep hb5 hHeld.2.2.2.2.2.2.1, bkeep hb5 hHeld.2.2.2.2.2.2.2.1, bkeep hb5 hHeld.2.2.2.2.2.2.2.2.1, bkeep hb5 hHeld.2.2.2.2.2.2.2.2.2⟩ (fun hHeld => ?_)
      clear hK K
      refine norm_ (a' := ?_) ?_ ?_
      rotate_left
      ·show Act.put _ (some 42) _ = _
       simp only [Act.put, List.setIfInBounds_toArray, List.set_cons_zero, List.set_cons_succ, i64_w, i32_w]
       rfl
      refine pure_ (i := 31) (N := some 43) (v := ?_) (a' := ?_) #[true, true, true, true, true, true, true, true, true, true, true, true, true, true, true, true, true, true, true, true, true, true, true, true, true, true, true, true, true, true, true, true, false] rfl rfl (by kernel_rfl) (fun _ _ _ h => h) (Or.inl ⟨by rfl, ?_⟩) ?_ ?_
      rotate_left
      ·intro w'
       go_simp
       with_reducible rfl
      rotate_left
      ·simp only [Act.put, List.setIfInBounds_toArray, List.set_cons_zero, List.set_cons_succ, i64_w, i32_w]
       rfl
      refine pure_ (i := 32) (N := some 44) (v := ?_) (a' := ?_) #[true, true, true, true, true, true, true, true, true, true, true, true, true, true, true, true, true, true, true, true, true, true, true, true, true, true, true, true, true, true, true, true, true] rfl rfl (by kernel_rfl) (fun _ _ _ h => h) (Or.inl ⟨by rfl, ?_⟩) ?_ ?_
      rotate_left
      ·intro w'
       go_simp
       with_reducible rfl
      rotate_left
      ·simp only [Act.put, List.setIfInBounds_toArray, List.set_cons_zero, List.set_cons_succ, i64_w, i32_w]
       rfl
      refine done_ (by kernel_rfl) ?_
      go_wp2_with (fail)
      go_meet
      exact ⟨!gd, rfl, ⟨by unfold headOk'; rw [← HX.out, HGD.out, decide_eq_false H49.out, decide_eq_true (show n.toNat = 0 by have := HN0.out; omega)]; simp, (show Below wr.heap.size wr wq from by rw [← hwq]; exact below_drew (below_alloc (Below.refl _ _) _)).trans (hb5.mono (by rw [← hwq]; show wr.heap.size ≤ (wr.alloc (.cells #[.string x.f0, .string x.f1, .string x.f2, .int .u8 x.f3, .int .i64 x.f4.f0, .int .i64 x.f4.f1, .int .i64 x.f4.f2, .int .i64 x.f4.f3, .slice A7 x.f5.length c7] 38)).heap.size; rw [World.size_alloc]; omega))⟩⟩
     ·have g1 : decide (0 < n) = true := decide_eq_true (by omega)
      have g2 : decide (n > 0) = true := decide_eq_true (by omega)
      obtain ⟨j, hj⟩ : ∃ j, j = n - 1 := ⟨_, rfl⟩
      have hn1 : 0 ≤ j := by omega
      have hn2 : j < (l.length : Int) := by omega
      obtain ⟨ad', _, _, hA, hp0, _⟩ := at_T38 (Kd.C_below HC.out HB.out) j hn1 hn2
      cases hA
      have hy := rdN_at l j hn1 hn2
      generalize hy0 : (rd_T38 l j).f0 = y0 at hp0
      rw [hy] at hy0
      have HN0 := Aside0.mk hn0
      have HY := Aside0.mk hy0
      have hw64 : wrap64 (n - 1) = j := by unfold wrap64; omega
      have HJ := Aside0.mk hj
      clear hn0 hy hy0 hj
      cases hls : Op.bytesLess y0.toList x.f0.toList with
      | false =>
       refine start_ (n := 33) (S := fun w' => w'.cell? ⟨wr.heap.size, 0, none⟩ = some (.string x.f0) ∧ w'.cell? ⟨wr.heap.size, 1, none⟩ = some (.string x.f1) ∧ w'.cell? ⟨wr.heap.size, 2, none⟩ = some (.string x.f2) ∧ w'.cell? ⟨wr.heap.size, 3, none⟩ = some (.int .u8 x.f3) ∧ w'.cell? ⟨wr.heap.size, 4, none⟩ = some (.int .i64 x.f4.f0) ∧ w'.cell? ⟨wr.heap.size, 5, none⟩ = some (.int .i64 x.f4.f1) ∧ w'.cell? ⟨wr.heap.size, 6, none⟩ = some (.int .i64 x.f4.f2) ∧ w'.cell? ⟨wr.heap.size, 7, none⟩ = some (.int .i64 x.f4.f3) ∧ w'.cell? ⟨wr.heap.size, 8, none⟩ = some (.slice A7 x.f5.length c7) ∧ w'.cell? ⟨W.heap.size, 0, none⟩ = some (.slice (some ad) l.length c0) ∧ w'.cell? (ad.add (j.toNat * 9)) = some (.string y0)) (ds := []) #[false, false, false, false, false, false, false, false, false, false, false, false, false, false, false, false, false, false, false, false, false, false, false, false, false, false, false, false, false, false, false, false, false] (by kernel_rfl) rfl rfl ⟨by simp, by simp, by simp, by simp, by simp, by simp, by simp, by simp, by simp, acell hbox _, acell hp0 _⟩ (fun hHeld => ?_)
       generalize hwq : (wr.alloc (.cells #[.string x.f0, .string x.f1, .string x.f2, .int .u8 x.f3, .int .i64 x.f4.f0, .int .i64 x.f4.f1, .int .i64 x.f4.f2, .int .i64 x.f4.f3, .slice A7 x.f5.length c7] 38)).drew = wq at hHeld ⊢
       refine pure_ (i := 0) (N := some 12) (v := ?_) (a' := ?_) #[true, false, false, false, false, false, false, false, false, false, false, false, false, false, false, false, false, false, false, false, false, false, false, false, false, false, false, false, false, false, false, false, false] rfl rfl (by kernel_rfl) (fun _ _ _ h => h) (Or.inl ⟨by rfl, ?_⟩) ?_ ?_
       rotate_left
       ·intro w'
        go_simp
        with_reducible rfl
       rotate_left
       ·simp only [Act.put, List.setIfInBounds_toArray, List.set_cons_zero, List.set_cons_succ, i64_w, i32_w]
        rfl
       refine take_ (i := 1) (N := some 13) (v := ?_) (a' := ?_) #[true, true, false, false, false, false, false, false, false, false, false, false, false, false, false, false, false, false, false, false, false, false, false, false, false, false, false, false, false, false, false, false, false] rfl rfl (by kernel_rfl) (fun _ _ _ h => h) (Or.inl ⟨by rfl, ?_⟩) hHeld ?_ ?_
       rotate_left
       ·rintro w' ⟨s0, s1, s2, s3, s4, s5, s6, s7, s8, s9, s10⟩
        go_simp
        with_reducible rfl
       rotate_left
       ·simp only [Act.put, List.setIfInBounds_toArray, List.set_cons_zero, List.set_cons_succ, i64_w, i32_w]
        rfl
       refine pure_ (i := 2) (N := some 14) (v := ?_) (a' := ?_) #[true, true, true, false, false, false, false, false, false, false, false, false, false, false, false, false, false, false, false, false, false, false, false, false, false, false, false, false, false, false, false, false, false] rfl rfl (by kernel_rfl) (fun _ _ _ h => h) (Or.inl ⟨by rfl, ?_⟩) ?_ ?_
       rotate_left
       ·intro w'
        go_simp
        with_reducible rfl
       rotate_left
       ·simp only [Act.put, List.setIfInBounds_toArray, List.set_cons_zero, List.set_cons_succ, i64_w, i32_w]
        rfl
       refine pure_ (i := 3) (N := some 15) (v := ?_) (a' := ?_) #[true, true, true, true, false, false, false, false, false, false, false, false, false, false, false, false, false, false, false, false, false, false, false, false, false, false, false, false, false, false, false, false, false] rfl rfl (by kernel_rfl) (fun _ _ _ h => h) (Or.inl ⟨by rfl, ?_⟩) ?_ ?_
       rotate_left
       ·intro w'
        go_simp
        with_reducible rfl
       rotate_left
       ·simp only [Act.put, List.setIfInBounds_toArray, List.set_cons_zero, List.set_cons_succ, i64_w, i32_w]
        rfl
       refine pure_ (i := 4) (N := some 16) (v := ?_) (a' := ?_) #[true, true, true, true, true, false, false, false, false, false, false, false, false, false, false, false, false, false, false, false, false, false, false, false, false, false, false, false, false, false, false, false, false] rfl rfl (by kernel_rfl) (fun _ _ _ h => h) (Or.inl ⟨by rfl, ?_⟩) ?_ ?_
       rotate_left
       ·intro w'
        go_simp
        with_reducible rfl
       rotate_left
       ·simp only [Act.put, List.setIfInBounds_toArray, List.set_cons_zero, List.set_cons_succ, i64_w, i32_w]
        rfl
       refine pure_ (i := 5) (N := some 17) (v := ?_) (a' := ?_) #[true, true, true, true, true, true, false, false, false, false, false, false, false, false, false, false, false, false, false, false, false, false, false, false, false, false, false, false, false, false, false, false, false] rfl rfl (by kernel_rfl) (fun _ _ _ h => h) (Or.inl ⟨by rfl, ?_⟩) ?_ ?_
       rotate_left
       ·intro w'
        go_simp
        with_reducible rfl
       rotate_left
       ·simp only [Act.put, List.setIfInBounds_toArray, List.set_cons_zero, List.set_cons_succ, i64_w, i32_w]
        rfl
       refine pure_ (i := 6) (N := some 18) (v := ?_) (a' := ?_) #[true, true, true, true, true, true, true, false, false, false, false, false, false, false, false, false, false, false, false, false, false, false, false, false, false, false, false, false, false, false, false, false, false] rfl rfl (by kernel_rfl) (fun _ _ _ h => h) (Or.inl ⟨by rfl, ?_⟩) ?_ ?_
       rotate_left
       ·intro w'
        go_simp
        with_reducible rfl
       rotate_left
       ·simp only [Act.put, List.setIfInBounds_toArray, List.set_cons_zero, List.set_cons_succ, i64_w, i32_w]
        rfl
       refine take_ (i := 7) (N := some 19) (v := ?_) (a' := ?_) #[true, true, true, true, true, true, true, true, false, false, false, false, false, false, false, false, false, false, false, false, false, false, false, false, false, false, false, false, false, false, false, false, false] rfl rfl (by kernel_rfl) (fun _ _ _ h => h) (Or.inl ⟨by rfl, ?_⟩) hHeld ?_ ?_
       rotate_left
       ·rintro w' ⟨s0, s1, s2, s3, s4, s5, s6, s7, s8, s9, s10⟩
        go_simp
        with_reducible rfl
       rotate_left
       ·simp only [Act.put, List.setIfInBounds_toArray, List.set_cons_zero, List.set_cons_succ, i64_w, i32_w]
        rfl
       refine pure_ (i := 8) (N := some 20) (v := ?_) (a' := ?_) #[true, true, true, true, true, true, true, true, true, false, false, false, false, false, false, false, false, false, false, false, false, false, false, false, false, false, false, false, false, false, false, false, false] rfl rfl (by kernel_rfl) (fun _ _ _ h => h) (Or.inl ⟨by rfl, ?_⟩) ?_ ?_
       rotate_left
       ·intro w'
        go_simp
        with_reducible rfl
       rotate_left
       ·simp only [Act.put, List.setIfInBounds_toArray, List.set_cons_zero, List.set_cons_succ, i64_w, i32_w]
        rfl
       refine pure_ (i := 9) (N := some 21) (v := ?_) (a' := ?_) #[true, true, true, true, true, true, true, true, true, true, false, false, false, false, false, false, false, false, false, false, false, false, false, false, false, false, false, false, false, false, false, false, false] rfl rfl (by kernel_rfl) (fun _ _ _ h => h) (Or.inl ⟨by rfl, ?_⟩) ?_ ?_
       rotate_left
       ·intro w'
        go_simp
        with_reducible rfl
       rotate_left
       ·simp only [Act.put, List.setIfInBounds_toArray, List.set_cons_zero, List.set_cons_succ, i64_w, i32_w]
        rfl
       refine pure_ (i := 10) (N := some 22) (v := ?_) (a' := ?_) #[true, true, true, true, true, true, true, true, true, true, true, false, false, false, false, false, false, false, false, false, false, false, false, false, false, false, false, false, false, false, false, false, false] rfl rfl (by kernel_rfl) (fun _ _ _ h => h) (Or.inl ⟨by rfl, ?_⟩) ?_ ?_
       rotate_left
       ·intro w'
        go_simp
        with_reducible rfl
       rotate_left
       ·simp only [Act.put, List.setIfInBounds_toArray, List.set_cons_zero, List.set_cons_succ, i64_w, i32_w]
        rfl
       refine pure_ (i := 11) (N := some 23) (v := ?_) (a' := ?_) #[true, true, true, true, true, true, true, true, true, true, true, true, false, false, false, false, false, false, false, false, false, false, false, false, false, false, false, false, false, false, false, false, false] rfl rfl (by kernel_rfl) (fun _ _ _ h => h) (Or.inl ⟨by rfl, ?_⟩) ?_ ?_
       rotate_left
       ·intro w'
        go_simp
        with_reducible rfl
       rotate_left
       ·simp only [Act.put, List.setIfInBounds_toArray, List.set_cons_zero, List.set_cons_succ, i64_w, i32_w]
        rfl
       refine take_ (i := 12) (N := some 24) (v := ?_) (a' := ?_) #[true, true, true, true, true, true, true, true, true, true, true, true, true, false, false, false, false, false, false, false, false, false, false, false, false, false, false, false, false, false, false, false, false] rfl rfl (by kernel_rfl) (fun _ _ _ h => h) (Or.inl ⟨by rfl, ?_⟩) hHeld ?_ ?_
       rotate_left
       ·rintro w' ⟨s0, s1, s2, s3, s4, s5, s6, s7, s8, s9, s10⟩
        go_simp
        with_reducible rfl
       rotate_left
       ·simp only [Act.put, List.setIfInBounds_toArray, List.set_cons_zero, List.set_cons_succ, i64_w, i32_w]
        rfl
       refine pure_ (i := 13) (N := some 25) (v := ?_) (a' := ?_) #[true, true, true, true, true, true, true, true, true, true, true, true, true, true, false, false, false, false, false, false, false, false, false, false, false, false, false, false, false, false, false, false, false] rfl rfl (by kernel_rfl) (fun _ _ _ h => h) (Or.inl ⟨by rfl, ?_⟩) ?_ ?_
       rotate_left
       ·intro w'
        go_simp
        with_reducible rfl
       rotate_left
       ·simp only [Act.put, List.setIfInBounds_toArray, List.set_cons_zero, List.set_cons_succ, i64_w, i32_w]
        rfl
       refine take_ (i := 14) (N := some 26) (v := ?_) (a' := ?_) #[true, true, true, true, true, true, true, true, true, true, true, true, true, true, true, false, false, false, false, false, false, false, false, false, false, false, false, false, false, false, false, false, false] rfl rfl (by kernel_rfl) (fun _ _ _ h => h) (Or.inl ⟨by rfl, ?_⟩) hHeld ?_ ?_
       rotate_left
       ·rintro w' ⟨s0, s1, s2, s3, s4, s5, s6, s7, s8, s9, s10⟩
        go_simp
        with_reducible rfl
       rotate_left
       ·simp only [Act.put, List.setIfInBounds_toArray, List.set_cons_zero, List.set_cons_succ, i64_w, i32_w]
        rfl
       refine pure_ (i := 15) (N := some 27) (v := ?_) (a' := ?_) #[true, true, true, true, true, true, true, true, true, true, true, true, true, true, true, true, false, false, false, false, false, false, false, false, false, false, false, false, false, false, false, false, false] rfl rfl (by kernel_rfl) (fun _ _ _ h => h) (Or.inl ⟨by rfl, ?_⟩) ?_ ?_
       rotate_left
       ·intro w'
        go_simp
        with_reducible rfl
       rotate_left
       ·simp only [Act.put, List.setIfInBounds_toArray, List.set_cons_zero, List.set_cons_succ, i64_w, i32_w]
        rfl
       refine pure_ (i := 16) (N := some 28) (v := ?_) (a' := ?_) #[true, true, true, true, true, true, true, true, true, true, true, true, true, true, true, true, true, false, false, false, false, false, false, false, false, false, false, false, false, false, false, false, false] rfl rfl (by kernel_rfl) (fun _ _ _ h => h) (Or.inl ⟨by rfl, ?_⟩) ?_ ?_
       rotate_left
       ·intro w'
        go_simp
        with_reducible rfl
       rotate_left
       ·simp only [Act.put, List.setIfInBounds_toArray, List.set_cons_zero, List.set_cons_succ, i64_w, i32_w]
        rfl
       refine pure_ (i := 17) (N := some 29) (v := ?_) (a' := ?_) #[true, true, true, true, true, true, true, true, true, true, true, true, true, true, true, true, true, true, false, false, false, false, false, false, false, false, false, false, false, false, false, false, false] rfl rfl (by kernel_rfl) (fun _ _ _ h => h) (Or.inl ⟨by rfl, ?_⟩) ?_ ?_
       rotate_left
       ·intro w'
        go_simp
        with_reducible rfl
       rotate_left
       ·simp only [Act.put, List.setIfInBounds_toArray, List.set_cons_zero, List.set_cons_succ, i64_w, i32_w]
        rfl
       refine pure_ (i := 18) (N := some 30) (v := ?_) (a' := ?_) #[true, true, true, true, true, true, true, true, true, true, true, true, true, true, true, true, true, true, true, false, false, false, false, false, false, false, false, false, false, false, false, false, false] rfl rfl (by kernel_rfl) (fun _ _ _ h => h) (Or.inl ⟨by rfl, ?_⟩) ?_ ?_
       rotate_left
       ·intro w'
        go_simp
        with_reducible rfl
       rotate_left
       ·simp only [Act.put, List.setIfInBounds_toArray, List.set_cons_zero, List.set_cons_succ, i64_w, i32_w]
        rfl
       refine pure_ (i := 19) (N := some 31) (v := undef) (a' := ?_) #[true, true, true, true, true, true, true, true, true, true, true, true, true, true, true, true, true, true, true, true, false, false, false, false, false, false, false, false, false, false, false, false, false] rfl rfl (by kernel_rfl) (fun _ _ _ h => h) (Or.inr ⟨by rfl, rfl⟩) ?_ ?_
       rotate_left
       ·simp only [Act.put, List.setIfInBounds_toArray, List.set_cons_zero, List.set_cons_succ, i64_w, i32_w]
        rfl
       refine pure_ (i := 20) (N := some 32) (v := undef) (a' := ?_) #[true, true, true, true, true, true, true, true, true, true, true, true, true, true, true, true, true, true, true, true, true, false, false, false, false, false, false, false, false, false, false, false, false] rfl rfl (by kernel_rfl) (fun _ _ _ h => h) (Or.inr ⟨by rfl, rfl⟩) ?_ ?_
       rotate_left
       ·simp only [Act.put, List.setIfInBounds_toArray, List.set_cons_zero, List.set_cons_succ, i64_w, i32_w]
        rfl
       refine pure_ (i := 21) (N := some 33) (v := undef) (a' := ?_) #[true, true, true, true, true, true, true, true, true, true, true, true, true, true, true, true, true, true, true, true, true, true, false, false, false, false, false, false, false, false, false, false, false] rfl rfl (by kernel_rfl) (fun _ _ _ h => h) (Or.inr ⟨by rfl, rfl⟩) ?_ ?_
       rotate_left
       ·simp only [Act.put, List.setIfInBounds_toArray, List.set_cons_zero, List.set_cons_succ, i64_w, i32_w]
        rfl
       refine pure_ (i := 22) (N := some 34) (v := undef) (a' := ?_) #[true, true, true, true, true, true, true, true, true, true, true, true, true, true, true, true, true, true, true, true, true, true, true, false, false, false, false, false, false, false, false, false, false] rfl rfl (by kernel_rfl) (fun _ _ _ h => h) (Or.inr ⟨by rfl, rfl⟩) ?_ ?_
       rotate_left
       ·simp only [Act.put, List.setIfInBounds_toArray, List.set_cons_zero, List.set_cons_succ, i64_w, i32_w]
        rfl
       refine pure_ (i := 23) (N := some 35) (v := undef) (a' := ?_) #[true, true, true, true, true, true, true, true, true, true, true, true, true, true, true, true, true, true, true, true, true, true, true, true, false, false, false, false, false, false, false, false, false] rfl rfl (by kernel_rfl) (fun _ _ _ h => h) (Or.inr ⟨by rfl, rfl⟩) ?_ ?_
       rotate_left
       ·simp only [Act.put, List.setIfInBounds_toArray, List.set_cons_zero, List.set_cons_succ, i64_w, i32_w]
        rfl
       refine pure_ (i := 24) (N := some 36) (v := undef) (a' := ?_) #[true, true, true, true, true, true, true, true, true, true, true, true, true, true, true, true, true, true, true, true, true, true, true, true, true, false, false, false, false, false, false, false, false] rfl rfl (by kernel_rfl) (fun _ _ _ h => h) (Or.inr ⟨by rfl, rfl⟩) ?_ ?_
       rotate_left
       ·simp only [Act.put, List.setIfInBounds_toArray, List.set_cons_zero, List.set_cons_succ, i64_w, i32_w]
        rfl
       refine pure_ (i := 25) (N := some 37) (v := undef) (a' := ?_) #[true, true, true, true, true, true, true, true, true, true, true, true, true, true, true, true, true, true, true, true, true, true, true, true, true, true, false, false, false, false, false, false, false] rfl rfl (by kernel_rfl) (fun _ _ _ h => h) (Or.inr ⟨by rfl, rfl⟩) ?_ ?_
       rotate_left
       ·simp only [Act.put, List.setIfInBounds_toArray, List.set_cons_zero, List.set_cons_succ, i64_w, i32_w]
        rfl
       refine pure_ (i := 26) (N := some 38) (v := undef) (a' := ?_) #[true, true, true, true, true, true, true, true, true, true, true, true, true, true, true, true, true, true, true, true, true, true, true, true, true, true, true, false, false, false, false, false, false] rfl rfl (by kernel_rfl) (fun _ _ _ h => h) (Or.inr ⟨by rfl, rfl⟩) ?_ ?_
       rotate_left
       ·simp only [Act.put, List.setIfInBounds_toArray, List.set_cons_zero, List.set_cons_succ, i64_w, i32_w]
        rfl
       refine pure_ (i := 27) (N := some 39) (v := undef) (a' := ?_) #[true, true, true, true, true, true, true, true, true, true, true, true, true, true, true, true, true, true, true, true, true, true, true, true, true, true, true, true, false, false, false, false, false] rfl rfl (by kernel_rfl) (fun _ _ _ h => h) (Or.inr ⟨by rfl, rfl⟩) ?_ ?_
       rotate_left
       ·simp only [Act.put, List.setIfInBounds_toArray, List.set_cons_zero, List.set_cons_succ, i64_w, i32_w]
        rfl
       refine pure_ (i := 28) (N := some 40) (v := undef) (a' := ?_) #[true, true, true, true, true, true, true, true, true, true, true, true, true, true, true, true, true, true, true, true, true, true, true, true, true, true, true, true, true, false, false, false, false] rfl rfl (by kernel_rfl) (fun _ _ _ h => h) (Or.inr ⟨by rfl, rfl⟩) ?_ ?_
       rotate_left
       ·simp only [Act.put, List.setIfInBounds_toArray, List.set_cons_zero, List.set_cons_succ, i64_w, i32_w]
        rfl
       refine pure_ (i := 29) (N := some 41) (v := undef) (a' := ?_) #[true, true, true, true, true, true, true, true, true, true, true, true, true, true, true, true, true, true, true, true, true, true, true, true, true, true, true, true, true, true, false, false, false] rfl rfl (by kernel_rfl) (fun _ _ _ h => h) (Or.inr ⟨by rfl, rfl⟩) ?_ ?_
       rotate_left
       ·simp only [Act.put, List.setIfInBounds_toArray, List.set_cons_zero, List.set_cons_succ, i64_w, i32_w]
        rfl
       refine pure_ (i := 30) (N := some 42) (v := undef) (a' := ?_) #[true, true, true, true, true, true, true, true, true, true, true, true, true, true, true, true, true, true, true, true, true, true, true, true, true, true, true, true, true, true, true, false, false] rfl rfl (by kernel_rfl) (fun _ _ _ h => h) (Or.inr ⟨by rfl, rfl⟩) ?_ ?_
       rotate_left
       ·simp only [Act.put, List.setIfInBounds_toArray, List.set_cons_zero, List.set_cons_succ, i64_w, i32_w]
        rfl
       refine pure_ (i := 31) (N := some 43) (v := undef) (a' := ?_) #[true, true, true, true, true, true, true, true, true, true, true, true, true, true, true, true, true, true, true, true, true, true, true, true, true, true, true, true, true, true, true, true, false] rfl rfl (by kernel_rfl) (fun _ _ _ h => h) (Or.inr ⟨by rfl, rfl⟩) ?_ ?_
       rotate_left
       ·simp only [Act.put, List.setIfInBounds_toArray, List.set_cons_zero, List.set_cons_succ, i64_w, i32_w]
        rfl
       refine pure_ (i := 32) (N := some 44) (v := ?_) (a' := ?_) #[true, true, true, true, true, true, true, true, true, true, true, true, true, true, true, true, true, true, true, true, true, true, true, true, true, true, true, true, true, true, true, true, true] rfl rfl (by kernel_rfl) (fun _ _ _ h => h) (Or.inl ⟨by rfl, ?_⟩) ?_ ?_
       rotate_left
       ·intro w'
        go_simp
        with_reducible rfl
       rotate_left
       ·simp only [Act.put, List.setIfInBounds_toArray, List.set_cons_zero, List.set_cons_succ, i64_w, i32_w]
        rfl
       refine done_ (by kernel_rfl) ?_
       clear hw64
       go_wp2_with (fail)
       go_meet
       exact ⟨true, rfl, ⟨by unfold headOk'; rw [← HX.out, decide_eq_false (show ¬ n.toNat = 0 by have := HN0.out; omega), show lt (l[n.toNat - 1]'(by have := HNL.out; omega)).f0 x.f0 = false from (prev_lt' HY.out HJ.out hls)]; simp, by rw [← hwq]; exact below_drew (below_alloc (Below.refl _ _) _)⟩⟩
      | true =>
       refine start_ (n := 33) (S := fun w' => w'.cell? ⟨wr.heap.size, 0, none⟩ = some (.string x.f0) ∧ w'.cell? ⟨wr.heap.size, 1, none⟩ = some (.string x.f1) ∧ w'.cell? ⟨wr.heap.size, 2, none⟩ = some (.string x.f2) ∧ w'.cell? ⟨wr.heap.size, 3, none⟩ = some (.int .u8 x.f3) ∧ w'.cell? ⟨wr.heap.size, 4, none⟩ = some (.int .i64 x.f4.f0) ∧ w'.cell? ⟨wr.heap.size, 5, none⟩ = some (.int .i64 x.f4.f1) ∧ w'.cell? ⟨wr.heap.size, 6, none⟩ = some (.int .i64 x.f4.f2) ∧ w'.cell? ⟨wr.heap.size, 7, none⟩ = some (.int .i64 x.f4.f3) ∧ w'.cell? ⟨wr.heap.size, 8, none⟩ = some (.slice A7 x.f5.length c7) ∧ w'.cell? ⟨W.heap.size, 0, none⟩ = some (.slice (some ad) l.length c0) ∧ w'.cell? (ad.add (j.toNat * 9)) = some (.string y0)) (ds := []) #[false, false, false, false, false, false, false, false, false, false, false, false, false, false, false, false, false, false, false, false, false, false, false, false, false, false, false, false, false, false, false, false, false] (by kernel_rfl) rfl rfl ⟨by simp, by simp, by simp, by simp, by simp, by simp, by simp, by simp, by simp, acell hbox _, acell hp0 _⟩ (fun hHeld => ?_)
       generalize hwq : (wr.alloc (.cells #[.string x.f0, .string x.f1, .string x.f2, .int .u8 x.f3, .int .i64 x.f4.f0, .int .i64 x.f4.f1, .int .i64 x.f4.f2, .int .i64 x.f4.f3, .slice A7 x.f5.length c7] 38)).drew = wq at hHeld ⊢
       refine pure_ (i := 0) (N := some 12) (v := ?_) (a' := ?_) #[true, false, false, false, false, false, false, false, false, false, false, false, false, false, false, false, false, false, false, false, false, false, false, false, false, false, false, false, false, false, false, false, false] rfl rfl (by kernel_rfl) (fun _ _ _ h => h) (Or.inl ⟨by rfl, ?_⟩) ?_ ?_
       rotate_left
       ·intro w'
        go_simp
        with_reducible rfl
       rotate_left
       ·simp only [Act.put, List.setIfInBounds_toArray, List.set_cons_zero, List.set_cons_succ, i64_w, i32_w]
        rfl
       refine take_ (i := 1) (N := some 13) (v := ?_) (a' := ?_) #[true, true, false, false, false, false, false, false, false, false, false, false, false, false, false, false, false, false, false, false, false, false, false, false, false, false, false, false, false, false, false, false, false] rfl rfl (by kernel_rfl) (fun _ _ _ h => h) (Or.inl ⟨by rfl, ?_⟩) hHeld ?_ ?_
       rotate_left
       ·rintro w' ⟨s0, s1, s2, s3, s4, s5, s6, s7, s8, s9, s10⟩
        go_simp
        with_reducible rfl
       rotate_left
       ·simp only [Act.put, List.setIfInBounds_toArray, List.set_cons_zero, List.set_cons_succ, i64_w, i32_w]
        rfl
       refine pure_ (i := 2) (N := some 14) (v := ?_) (a' := ?_) #[true, true, true, false, false, false, false, false, false, false, false, false, false, false, false, false, false, false, false, false, false, false, false, false, false, false, false, false, false, false, false, false, false] rfl rfl (by kernel_rfl) (fun _ _ _ h => h) (Or.inl ⟨by rfl, ?_⟩) ?_ ?_
       rotate_left
       ·intro w'
        go_simp
        with_reducible rfl
       rotate_left
       ·simp only [Act.put, List.setIfInBounds_toArray, List.set_cons_zero, List.set_cons_succ, i64_w, i32_w]
        rfl
       refine pure_ (i := 3) (N := some 15) (v := ?_) (a' := ?_) #[true, true, true, true, false, false, false, false, false, false, false, false, false, false, false, false, false, false, false, false, false, false, false, false, false, false, false, false, false, false, false, false, false] rfl rfl (by kernel_rfl) (fun _ _ _ h => h) (Or.inl ⟨by rfl, ?_⟩) ?_ ?_
       rotate_left
       ·intro w'
        go_simp
        with_reducible rfl
       rotate_left
       ·simp only [Act.put, List.setIfInBounds_toArray, List.set_cons_zero, List.set_cons_succ, i64_w, i32_w]
        rfl
       refine pure_ (i := 4) (N := some 16) (v := ?_) (a' := ?_) #[true, true, true, true, true, false, false, false, false, false, false, false, false, false, false, false, false, false, false, false, false, false, false, false, false, false, false, false, false, false, false, false, false] rfl rfl (by kernel_rfl) (fun _ _ _ h => h) (Or.inl ⟨by rfl, ?_⟩) ?_ ?_
       rotate_left
       ·intro w'
        go_simp
        with_reducible rfl
       rotate_left
       ·simp only [Act.put, List.setIfInBounds_toArray, List.set_cons_zero, List.set_cons_succ, i64_w, i32_w]
        rfl
       refine pure_ (i := 5) (N := some 17) (v := ?_) (a' := ?_) #[true, true, true, true, true, true, false, false, false, false, false, false, false, false, false, false, false, false, false, false, false, false, false, false, false, false, false, false, false, false, false, false, false] rfl rfl (by kernel_rfl) (fun _ _ _ h => h) (Or.inl ⟨by rfl, ?_⟩) ?_ ?_
       rotate_left
       ·intro w'
        go_simp
        with_reducible rfl
       rotate_left
       ·simp only [Act.put, List.setIfInBounds_toArray, List.set_cons_zero, List.set_cons_succ, i64_w, i32_w]
        rfl
       refine pure_ (i := 6) (N := some 18) (v := ?_) (a' := ?_) #[true, true, true, true, true, true, true, false, false, false, false, false, false, false, false, false, false, false, false, false, false, false, false, false, false, false, false, false, false, false, false, false, false] rfl rfl (by kernel_rfl) (fun _ _ _ h => h) (Or.inl ⟨by rfl, ?_⟩) ?_ ?_
       rotate_left
       ·intro w'
        go_simp
        with_reducible rfl
       rotate_left
       ·simp only [Act.put, List.setIfInBounds_toArray, List.set_cons_zero, List.set_cons_succ, i64_w, i32_w]
        rfl
       refine take_ (i := 7) (N := some 19) (v := ?_) (a' := ?_) #[true, true, true, true, true, true, true, true, false, false, false, false, false, false, false, false, false, false, false, false, false, false, false, false, false, false, false, false, false, false, false, false, false] rfl rfl (by kernel_rfl) (fun _ _ _ h => h) (Or.inl ⟨by rfl, ?_⟩) hHeld ?_ ?_
       rotate_left
       ·rintro w' ⟨s0, s1, s2, s3, s4, s5, s6, s7, s8, s9, s10⟩
        go_simp
        with_reducible rfl
       rotate_left
       ·simp only [Act.put, List.setIfInBounds_toArray, List.set_cons_zero, List.set_cons_succ, i64_w, i32_w]
        rfl
       refine pure_ (i := 8) (N := some 20) (v := ?_) (a' := ?_) #[true, true, true, true, true, true, true, true, true, false, false, false, false, false, false, false, false, false, false, false, false, false, false, false, false, false, false, false, false, false, false, false, false] rfl rfl (by kernel_rfl) (fun _ _ _ h => h) (Or.inl ⟨by rfl, ?_⟩) ?_ ?_
       rotate_left
       ·intro w'
        go_simp
        with_reducible rfl
       rotate_left
       ·simp only [Act.put, List.setIfInBounds_toArray, List.set_cons_zero, List.set_cons_succ, i64_w, i32_w]
        rfl
       refine pure_ (i := 9) (N := some 21) (v := ?_) (a' := ?_) #[true, true, true, true, true, true, true, true, true, true, false, false, false, false, false, false, false, false, false, false, false, false, false, false, false, false, false, false, false, false, false, false, false] rfl rfl (by kernel_rfl) (fun _ _ _ h => h) (Or.inl ⟨by rfl, ?_⟩) ?_ ?_
       rotate_left
       ·intro w'
        go_simp
        with_reducible rfl
       rotate_left
       ·simp only [Act.put, List.setIfInBounds_toArray, List.set_cons_zero, List.set_cons_succ, i64_w, i32_w]
        rfl
       refine pure_ (i := 10) (N := some 22) (v := ?_) (a' := ?_) #[true, true, true, true, true, true, true, true, true, true, true, false, false, false, false, false, false, false, false, false, false, false, false, false, false, false, false, false, false, false, false, false, false] rfl rfl (by kernel_rfl) (fun _ _ _ h => h) (Or.inl ⟨by rfl, ?_⟩) ?_ ?_
       rotate_left
       ·intro w'
        go_simp
        with_reducible rfl
       rotate_left
       ·simp only [Act.put, List.setIfInBounds_toArray, List.set_cons_zero, List.set_cons_succ, i64_w, i32_w]
        rfl
       refine pure_ (i := 11) (N := some 23) (v := ?_) (a' := ?_) #[true, true, true, true, true, true, true, true, true, true, true, true, false, false, false, false, false, false, false, false, false, false, false, false, false, false, false, false, false, false, false, false, false] rfl rfl (by kernel_rfl) (fun _ _ _ h => h) (Or.inl ⟨by rfl, ?_⟩) ?_ ?_
       rotate_left
       ·intro w'
        go_simp
        with_reducible rfl
       rotate_left
       ·simp only [Act.put, List.setIfInBounds_toArray, List.set_cons_zero, List.set_cons_succ, i64_w, i32_w]
        rfl
       refine take_ (i := 12) (N := some 24) (v := ?_) (a' := ?_) #[true, true, true, true, true, true, true, true, true, true, true, true, true, false, false, false, false, false, false, false, false, false, false, false, false, false, false, false, false, false, false, false, false] rfl rfl (by kernel_rfl) (fun _ _ _ h => h) (Or.inl ⟨by rfl, ?_⟩) hHeld ?_ ?_
       rotate_left
       ·rintro w' ⟨s0, s1, s2, s3, s4, s5, s6, s7, s8, s9, s10⟩
        go_simp
        with_reducible rfl
       rotate_left
       ·simp only [Act.put, List.setIfInBounds_toArray, List.set_cons_zero, List.set_cons_succ, i64_w, i32_w]
        rfl
       refine pure_ (i := 13) (N := some 25) (v := ?_) (a' := ?_) #[true, true, true, true, true, true, true, true, true, true, true, true, true, true, false, false, false, false, false, false, false, false, false, false, false, false, false, false, false, false, false, false, false] rfl rfl (by kernel_rfl) (fun _ _ _ h => h) (Or.inl ⟨by rfl, ?_⟩) ?_ ?_
       rotate_left
       ·intro w'
        go_simp
        with_reducible rfl
       rotate_left
       ·simp only [Act.put, List.setIfInBounds_toArray, List.set_cons_zero, List.set_cons_succ, i64_w, i32_w]
        rfl
       refine take_ (i := 14) (N := some 26) (v := ?_) (a' := ?_) #[true, true, true, true, true, true, true, true, true, true, true, true, true, true, true, false, false, false, false, false, false, false, false, false, false, false, false, false, false, false, false, false, false] rfl rfl (by kernel_rfl) (fun _ _ _ h => h) (Or.inl ⟨by rfl, ?_⟩) hHeld ?_ ?_
       rotate_left
       ·rintro w' ⟨s0, s1, s2, s3, s4, s5, s6, s7, s8, s9, s10⟩
        go_simp
        with_reducible rfl
       rotate_left
       ·simp only [Act.put, List.setIfInBounds_toArray, List.set_cons_zero, List.set_cons_succ, i64_w, i32_w]
        rfl
       refine pure_ (i := 15) (N := some 27) (v := ?_) (a' := ?_) #[true, true, true, true, true, true, true, true, true, true, true, true, true, true, true, true, false, false, false, false, false, false, false, false, false, false, false, false, false, false, false, false, false] rfl rfl (by kernel_rfl) (fun _ _ _ h => h) (Or.inl ⟨by rfl, ?_⟩) ?_ ?_
       rotate_left
       ·intro w'
        go_simp
        with_reducible rfl
       rotate_left
       ·simp only [Act.put, List.setIfInBounds_toArray, List.set_cons_zero, List.set_cons_succ, i64_w, i32_w]
        rfl
       refine pure_ (i := 16) (N := some 28) (v := ?_) (a' := ?_) #[true, true, true, true, true, true, true, true, true, true, true, true, true, true, true, true, true, false, false, false, false, false, false, false, false, false, false, false, false, false, false, false, false] rfl rfl (by kernel_rfl) (fun _ _ _ h => h) (Or.inl ⟨by rfl, ?_⟩) ?_ ?_
       rotate_left
       ·intro w'
        go_simp
        with_reducible rfl
       rotate_left
       ·simp only [Act.put, List.setIfInBounds_toArray, List.set_cons_zero, List.set_cons_succ, i64_w, i32_w]
        rfl
       refine pure_ (i := 17) (N := some 29) (v := ?_) (a' := ?_) #[true, true, true, true, true, true, true, true, true, true, true, true, true, true, true, true, true, true, false, false, false, false, false, false, false, false, false, false, false, false, false, false, false] rfl rfl (by kernel_rfl) (fun _ _ _ h => h) (Or.inl ⟨by rfl, ?_⟩) ?_ ?_
       rotate_left
       ·intro w'
        go_simp
        with_reducible rfl
       rotate_left
       ·simp only [Act.put, List.setIfInBounds_toArray, List.set_cons_zero, List.set_cons_succ, i64_w, i32_w]
        rfl
       refine pure_ (i := 18) (N := some 30) (v := ?_) (a' := ?_) #[true, true, true, true, true, true, true, true, true, true, true, true, true, true, true, true, true, true, true, false, false, false, false, false, false, false, false, false, false, false, false, false, false] rfl rfl (by kernel_rfl) (fun _ _ _ h => h) (Or.inl ⟨by rfl, ?_⟩) ?_ ?_
       rotate_left
       ·intro w'
        go_simp
        with_reducible rfl
       rotate_left
       ·simp only [Act.put, List.setIfInBounds_toArray, List.set_cons_zero, List.set_cons_succ, i64_w, i32_w]
        rfl
       refine pure_ (i := 19) (N := some 31) (v := ?_) (a' := ?_) #[true, true, true, true, true, true, true, true, true, true, true, true, true, true, true, true, true, true, true, true, false, false, false, false, false, false, false, false, false, false, false, false, false] rfl rfl (by kernel_rfl) (fun _ _ _ h => h) (Or.inl ⟨by rfl, ?_⟩) ?_ ?_
       rotate_left
       ·intro w'
        go_simp
        with_reducible rfl
       rotate_left
       ·simp only [Act.put, List.setIfInBounds_toArray, List.set_cons_zero, List.set_cons_succ, i64_w, i32_w]
        rfl
       refine take_ (i := 20) (N := some 32) (v := ?_) (a' := ?_) #[true, true, true, true, true, true, true, true, true, true, true, true, true, true, true, true, true, true, true, true, true, false, false, false, false, false, false, false, false, false, false, false, false] rfl rfl (by kernel_rfl) (fun _ _ _ h => h) (Or.inl ⟨by rfl, ?_⟩) hHeld ?_ ?_
       rotate_left
       ·rintro w' ⟨s0, s1, s2, s3, s4, s5, s6, s7, s8, s9, s10⟩
        go_simp
        with_reducible rfl
       rotate_left
       ·simp only [Act.put, List.setIfInBounds_toArray, List.set_cons_zero, List.set_cons_succ, i64_w, i32_w]
        rfl
       refine pure_ (i := 21) (N := some 33) (v := ?_) (a' := ?_) #[true, true, true, true, true, true, true, true, true, true, true, true, true, true, true, true, true, true, true, true, true, true, false, false, false, false, false, false, false, false, false, false, false] rfl rfl (by kernel_rfl) (fun _ _ _ h => h) (Or.inl ⟨by rfl, ?_⟩) ?_ ?_
       rotate_left
       ·intro w'
        go_simp
        with_reducible rfl
       rotate_left
       ·simp only [Act.put, List.setIfInBounds_toArray, List.set_cons_zero, List.set_cons_succ, i64_w, i32_w]
        rfl
       refine take_ (i := 22) (N := some 34) (v := ?_) (a' := ?_) #[true, true, true, true, true, true, true, true, true, true, true, true, true, true, true, true, true, true, true, true, true, true, true, false, false, false, false, false, false, false, false, false, false] rfl rfl (by kernel_rfl) (fun _ _ _ h => h) (Or.inl ⟨by rfl, ?_⟩) hHeld ?_ ?_
       rotate_left
       ·rintro w' ⟨s0, s1, s2, s3, s4, s5, s6, s7, s8, s9, s10⟩
        go_simp
        with_reducible rfl
       rotate_left
       ·simp only [Act.put, List.setIfInBounds_toArray, List.set_cons_zero, List.set_cons_succ, i64_w, i32_w]
        rfl
       refine pure_ (i := 23) (N := some 35) (v := ?_) (a' := ?_) #[true, true, true, true, true, true, true, true, true, true, true, true, true, true, true, true, true, true, true, true, true, true, true, true, false, false, false, false, false, false, false, false, false] rfl rfl (by kernel_rfl) (fun _ _ _ h => h) (Or.inl ⟨by rfl, ?_⟩) ?_ ?_
       rotate_left
       ·intro w'
        go_simp
        with_reducible rfl
       rotate_left
       ·simp only [Act.put, List.setIfInBounds_toArray, List.set_cons_zero, List.set_cons_succ, i64_w, i32_w]
        rfl
       refine take_ (i := 24) (N := some 36) (v := ?_) (a' := ?_) #[true, true, true, true, true, true, true, true, true, true, true, true, true, true, true, true, true, true, true, true, true, true, true, true, true, false, false, false, false, false, false, false, false] rfl rfl (by kernel_rfl) (fun _ _ _ h => h) (Or.inl ⟨by rfl, ?_⟩) hHeld ?_ ?_
       rotate_left
       ·rintro w' ⟨s0, s1, s2, s3, s4, s5, s6, s7, s8, s9, s10⟩
        go_simp
        with_reducible rfl
       rotate_left
       ·simp only [Act.put, List.setIfInBounds_toArray, List.set_cons_zero, List.set_cons_succ, i64_w, i32_w]
        rfl
       refine pure_ (i := 25) (N := some 37) (v := ?_) (a' := ?_) #[true, true, true, true, true, true, true, true, true, true, true, true, true, true, true, true, true, true, true, true, true, true, true, true, true, true, false, false, false, false, false, false, false] rfl rfl (by kernel_rfl) (fun _ _ _ h => h) (Or.inl ⟨by rfl, ?_⟩) ?_ ?_
       rotate_left
       ·intro w'
        go_simp
        with_reducible rfl
       rotate_left
       ·simp only [Act.put, List.setIfInBounds_toArray, List.set_cons_zero, List.set_cons_succ, i64_w, i32_w]
        rfl
       refine take_ (i := 26) (N := some 38) (v := ?_) (a' := ?_) #[true, true, true, true, true, true, true, true, true, true, true, true, true, true, true, true, true, true, true, true, true, true, true, true, true, true, true, false, false, false, false, false, false] rfl rfl (by kernel_rfl) (fun _ _ _ h => h) (Or.inl ⟨by rfl, ?_⟩) hHeld ?_ ?_
       rotate_left
       ·rintro w' ⟨s0, s1, s2, s3, s4, s5, s6, s7, s8, s9, s10⟩
        go_simp
        with_reducible rfl
       rotate_left
       ·simp only [Act.put, List.setIfInBounds_toArray, List.set_cons_zero, List.set_cons_succ, i64_w, i32_w]
        rfl
       refine pure_ (i := 27) (N := some 39) (v := ?_) (a' := ?_) #[true, true, true, true, true, true, true, true, true, true, true, true, true, true, true, true, true, true, true, true, true, true, true, true, true, true, true, true, false, false, false, false, false] rfl rfl (by kernel_rfl) (fun _ _ _ h => h) (Or.inl ⟨by rfl, ?_⟩) ?_ ?_
       rotate_left
       ·intro w'
        go_simp
        with_reducible rfl
       rotate_left
       ·simp only [Act.put, List.setIfInBounds_toArray, List.set_cons_zero, List.set_cons_succ, i64_w, i32_w]
        rfl
       refine take_ (i := 28) (N := some 40) (v := ?_) (a' := ?_) #[true, true, true, true, true, true, true, true, true, true, true, true, true, true, true, true, true, true, true, true, true, true, true, true, true, true, true, true, true, false, false, false, false] rfl rfl (by kernel_rfl) (fun _ _ _ h => h) (Or.inl ⟨by rfl, ?_⟩) hHeld ?_ ?_
       rotate_left
       ·rintro w' ⟨s0, s1, s2, s3, s4, s5, s6, s7, s8, s9, s10⟩
        go_simp
        with_reducible rfl
       rotate_left
       ·simp only [Act.put, List.setIfInBounds_toArray, List.set_cons_zero, List.set_cons_succ, i64_w, i32_w]
        rfl
       refine pure_ (i := 29) (N := some 41) (v := ?_) (a' := ?_) #[true, true, true, true, true, true, true, true, true, true, true, true, true, true, true, true, true, true, true, true, true, true, true, true, true, true, true, true, true, true, false, false, false] rfl rfl (by kernel_rfl) (fun _ _ _ h => h) (Or.inl ⟨by rfl, ?_⟩) ?_ ?_
       rotate_left
       ·intro w'
        go_simp
        with_reducible rfl
       rotate_left
       ·simp only [Act.put, List.setIfInBounds_toArray, List.set_cons_zero, List.set_cons_succ, i64_w, i32_w]
        rfl
       refine one_ (i := 30) (N := some 42) #[true, true, true, true, true, true, true, true, true, true, true, true, true, true, true, true, true, true, true, true, true, true, true, true, true, true, true, true, true, true, true, false, false] rfl rfl (by kernel_rfl) (by decide) (fun K hK => ?_)
       refine goes_ Tryd.func25 (by kernel_rfl) rfl #[.agg #[.string x.f0, .string x.f1, .int .u8 x.f3, .int .i64 x.f4.f0, .int .i64 x.f4.f1, .int .i64 x.f4.f2, .int .i64 x.f4.f3, .slice A7 x.f5.length c7]] (by rfl) rfl rfl (by first | rfl | (simp [Act.eval]; done)) ?_
       refine (member_Good.calls kg x.f0 x.f1 x.f3 x.f4.f0 x.f4.f1 x.f4.f2 x.f4.f3 A7 c7 x.f5 gd wq ⟨by rw [← hwq]; exact Tabs.below HTA.out (below_drew (below_alloc (Below.refl _ _) _))⟩ (by rw [← hwq]; exact Kd.C_drew (HCA.out _)) hl7' HKG.out).mono ?_
       rintro e w5 ⟨rfl, hb5⟩
       refine ⟨_, rfl, ?_⟩
       refine hK.out _ _ ⟨bkeep hb5 hHeld.1, bkeep hb5 hHeld.2.1, bkeep hb5 hHeld.2.2.1, bkeep hb5 hHeld.2.2.2.1, bkeep hb5 hHeld.2.2.2.2.1, bkeep hb5 hHeld.2.2.2.2.2.1, bkeep hb5 hHeld.2.2.2.2.2.2.1, bkeep hb5 hHeld.2.2.2.2.2.2.2.1, bkeep hb5 hHeld.2.2.2.2.2.2.2.2.1, bkeep hb5 hHeld.2.2.2.2.2.2.2.2.2.1, bkeep hb5 hHeld.2.2.2.2.2.2.2.2.2.2⟩ (fun hHeld => ?_)
       clear hK K
       refine norm_ (a' := ?_) ?_ ?_
       rotate_left
       ·show Act.put _ (some 42) _ = _
        simp only [Act.put, List.setIfInBounds_toArray, List.set_cons_zero, List.set_cons_succ, i64_w, i32_w]
        rfl
       refine pure_ (i := 31) (N := some 43) (v := ?_) (a' := ?_) #[true, true, true, true, true, true, true, true, true, true, true, true, true, true, true, true, true, true, true, true, true, true, true, true, true, true, true, true, true, true, true, true, false] rfl rfl (by kernel_rfl) (fun _ _ _ h => h) (Or.inl ⟨by rfl, ?_⟩) ?_ ?_
       rotate_left
       ·intro w'
        go_simp
        with_reducible rfl
       rotate_left
       ·simp only [Act.put, List.setIfInBounds_toArray, List.set_cons_zero, List.set_cons_succ, i64_w, i32_w]
        rfl
       refine pure_ (i := 32) (N := some 44) (v := ?_) (a' := ?_) #[true, true, true, true, true, true, true, true, true, true, true, true, true, true, true, true, true, true, true, true, true, true, true, true, true, true, true, true, true, true, true, true, true] rfl rfl (by kernel_rfl) (fun _ _ _ h => h) (Or.inl ⟨by rfl, ?_⟩) ?_ ?_
       rotate_left
       ·intro w'
        go_simp
        with_reducible rfl
       rotate_left
       ·simp only [Act.put, List.setIfInBounds_toArray, List.set_cons_zero, List.set_cons_succ, i64_w, i32_w]
        rfl
       refine done_ (by kernel_rfl) ?_
       clear hw64
       go_wp2_with (fail)
       go_meet
       exact ⟨!gd, rfl, ⟨by unfold headOk'; rw [← HX.out, HGD.out, decide_eq_false H49.out, show lt (l[n.toNat - 1]'(by have := HNL.out; omega)).f0 x.f0 = true from (prev_lt' HY.out HJ.out hls)]; simp, (show Below wr.heap.size wr wq from by rw [← hwq]; exact below_drew (below_alloc (Below.refl _ _) _)).trans (hb5.mono (by rw [← hwq]; show wr.heap.size ≤ (wr.alloc (.cells #[.string x.f0, .string x.f1, .string x.f2, .int .u8 x.f3, .int .i64 x.f4.f0, .int .i64 x.f4.f1, .int .i64 x.f4.f2, .int .i64 x.f4.f3, .slice A7 x.f5.length c7] 38)).heap.size; rw [World.size_alloc]; omega))⟩⟩
   case rest =>
    obtain ⟨b, rfl, HM⟩ := hcut
    cases b with
    | true =>
     go_wp2
     rw [← hQ.out]
     exact ⟨by rw [goodTree_nothead n.toNat HNL.out (by have := HM.out.1; simpa using this.symm)], HB.out.trans (HM.out.2.mono HB.out.size)⟩
    | false =>
     have hfin : GRel l W (some ad) c0 (n + 1) wc := gRel_next HR.out HNL.out (by have := HM.out.1; simpa using this.symm) HM.out.2
     have HF := Aside0.mk hfin
     clear hfin
     go_wp2
     go_roundg (gk - 1)
     case measure => have := HG.out; omega
     case rel => exact ⟨n + 1, by go_num, HF, ⟨by have := HG.out; omega⟩⟩
  ·have c1b : decide (n < (l.length : Int)) = false := decide_eq_false hlt
   obtain ⟨hr, hgt⟩ := goodTree_head (l := l) (fun i hi => HR.out.2.2.1 i hi (by omega))
   have HCT := Aside0.mk (Contains_calls l hr ((nodesZ_iff l).2 HZ.out.1) A0 c0 HC0.out W.heap.size wr hbox (Kd.C_below HC.out HB.out))
   have HGT := Aside0.mk hgt
   clear hgt hr
   by_cases h4 : l.length ≤ 4096
   ·have h4b : decide ((l.length : Int) ≤ 4096) = true := decide_eq_true (by omega)
    have h4c : decide (l.length ≤ 4096) = true := decide_eq_true h4
    have H4 := Aside0.mk h4
    clear h4
    go_wp2_with (go_at_call 34; refine HCT.out.mono ?_; rintro e w1 ⟨rfl, hb1⟩)
    rw [← hQ.out]
    refine ⟨?_, HB.out.trans (hb1.mono HB.out.size)⟩
    rw [HGT.out, decide_eq_true H4.out]
    simp
   ·have h4b : decide ((l.length : Int) ≤ 4096) = false := decide_eq_false (by omega)
    have h4c : decide (l.length ≤ 4096) = false := decide_eq_false h4
    have H4 := Aside0.mk h4
    clear h4
    go_wp2
    rw [← hQ.out]
    refine ⟨?_, HB.out⟩
    rw [HGT.out, decide_eq_false H4.out]
    rfl
end Go.Proofs.YtiijbmaamblidaaDoor

namespace Go.Proofs.YtiijbmaamblidaaDoor
open Go.RowKit Go.Shelf Go.Proofs.YtiijbmaamblidaaDoor.Print Go.Proofs.YtiijbmaamblidaaDoorW.PrintWords
set_option linter.unusedVariables false
set_option linter.unusedSimpArgs false
def litW (w : World) (cs : Array Value) : World := (w.alloc (.cells cs 5)).freeze ⟨w.heap.size, cs.size, none⟩ 1
theorem litW_new (w : World) (cs : Array Value) : (litW w cs).heap[w.heap.size]? = some (.cells cs 5 (cs.size, cs.size + 1)) := by
 simp [litW, World.freeze, World.alloc, -World.alloc_eq]
 rw [Array.getElem_modify_self]
 simp
theorem litW_size (w : World) (cs : Array Value) : (litW w cs).heap.size = w.heap.size + 1 := by
 simp [litW, World.freeze, World.alloc, -World.alloc_eq]
theorem litW_old (w : World) (cs : Array Value) (j : Nat) (hj : j < w.heap.size) : (litW w cs).heap[j]? = w.heap[j]? := by
 have h1 : w.heap.size ≠ j := by omega
 simp [litW, World.freeze, World.alloc, -World.alloc_eq, Array.getElem?_modify, Array.getElem?_push, h1, Ne.symm h1]
theorem litW_below (w : World) (cs : Array Value) : Below w.heap.size w (litW w cs) :=
 ⟨rfl, rfl, rfl, by rw [litW_size]; omega, fun i hi => litW_old w cs i hi⟩
theorem litW_conv (w : World) (cs : Array Value) (n c : Nat) : (convert 25 25 (.slice (some ⟨w.heap.size, 0, none⟩) n c)).run Tryd.prog (w.alloc (.cells cs 5)) = .ok (.slice (some ⟨w.heap.size, 0, none⟩) n c) (litW w cs) := by
 have hsh : (w.alloc (.cells cs 5)).shape? w.heap.size = some (5, cs.size) := by
  simp [World.shape?, World.alloc, -World.alloc_eq]
 simp [convert, run_underlying Tryd.underlying25, run_underlying Tryd.underlying5, markStringish, litW, hsh, Result.andThen]
theorem C_block {α : Type} {d : Kd α} {w : World} {g : Nat} {cs : Array Value} {t : TypeId} {fz : Nat × Nat} {xs : List α} (hb : w.heap[g]? = some (.cells cs t fz)) (hm : xs.length ≤ 9223372036854775807) (hr : Reps (d.K w) d.sz xs cs.toList) : Kd.C d w (some ⟨g, 0, none⟩) xs.length xs := by
 refine ⟨rfl, hm, fun _ => ⟨_, rfl, fun j p hj => ?_⟩⟩
 refine ⟨(cs.toList.drop (j * d.sz)).take d.sz, ?_, hr.2 j p hj, fun i u hu => ?_⟩
 ·exact d.K_len (hr.2 j p hj)
 ·rw [add_plain]
  unfold World.cell?
  dsimp only
  rw [hb]
  dsimp only
  have hi : i < d.sz := by
   have h1 := (List.getElem?_eq_some_iff.1 hu).1
   rw [List.length_take] at h1
   omega
  rw [List.getElem?_take_of_lt hi, List.getElem?_drop] at hu
  simpa using hu
theorem Reps_cons {α : Type} {R : α → List Value → Prop} {size : Nat} {ps : List α} {cs c : List Value} {p : α} (hp : R p c) (hc : c.length = size) (h : Reps R size ps cs) : Reps R size (p :: ps) (c ++ cs) := by
 refine ⟨by rw [List.length_append, hc, h.1, List.length_cons, Nat.add_mul, Nat.one_mul, Nat.add_comm], fun j q hq => ?_⟩
 cases j with
 | zero =>
  simp only [List.getElem?_cons_zero, Option.some.injEq] at hq
  subst hq
  rw [Nat.zero_mul, List.drop_zero, List.take_append_of_le_length (by omega), List.take_of_length_le (by omega)]
  exact hp
 | succ j =>
  simp only [List.getElem?_cons_succ] at hq
  have := h.2 j q hq
  rw [Nat.add_mul, Nat.one_mul, Nat.add_comm, ← hc, List.drop_append, hc]
  rw [List.drop_eq_nil_of_le (by omega), List.nil_append, show size + j * size - size = j * size from by omega]
  exact this
abbrev aB : ByteArray := ⟨#[97]⟩
abbrev bB : ByteArray := ⟨#[98]⟩
abbrev l10 : List Mem := [⟨bB, emp, 48, ⟨0, 0, 0, 0⟩, [120]⟩, ⟨aB, bB, 49, ⟨0, 0, 0, 0⟩, []⟩]
abbrev t10 : List Node := [⟨aB, emp, aB, 48, ⟨0, 0, 0, 0⟩, [120]⟩, ⟨bB, emp, aB, 48, ⟨0, 0, 0, 0⟩, [120]⟩]
theorem str120 : strOfNums [120] = ⟨#[120]⟩ := by rfl
theorem fold10 : foldF l10 = (t10, 0, 0) := by kernel_rfl
theorem fold11 : foldF [⟨aB, bB, 49, ⟨0, 0, 0, 0⟩, []⟩] = ([], 7, 0) := by kernel_rfl
theorem good10 : goodTree t10 = true := by kernel_rfl
theorem good11 : goodTree [z38] = false := by kernel_rfl
def Ans1 (X : World) (e : Ending) (w' : World) : Prop := ∃ g c A8 c8, e = .returned (.tuple #[.slice (some ⟨g, 0, none⟩) 2 c, .agg #[.int .i64 0, .int .i64 0]]) ∧ Kd.C k38 w' (some ⟨g, 0, none⟩) 2 t10 ∧ w'.cell? ⟨g, 2, none⟩ = some (.string ⟨#[97]⟩) ∧ w'.cell? ⟨g, 11, none⟩ = some (.string ⟨#[97]⟩) ∧ w'.cell? ⟨g, 8, none⟩ = some (.slice A8 1 c8) ∧ Kd.C (Kd.int .u8) w' A8 1 [120] ∧ 2 ≤ c ∧ Below X.heap.size X w'
theorem ans1_calls (X : World) (hT : Tabs X) : Calls Tryd.prog 10 #[.slice (some ⟨X.heap.size + 1, 0, none⟩) 2 2] ((litW X #[.int .u8 120]).alloc (.cells #[.string ⟨#[98]⟩, .string ⟨#[]⟩, .int .u8 48, .int .i64 0, .int .i64 0, .int .i64 0, .int .i64 0, .slice (some ⟨X.heap.size, 0, none⟩) 1 1, .string ⟨#[97]⟩, .string ⟨#[98]⟩, .int .u8 49, .int .i64 0, .int .i64 0, .int .i64 0, .int .i64 0, .slice none 0 0] 27)) (Ans1 X) := by
 generalize hO : (Obj.cells _ _) = O
 have hb1 := litW_below X #[.int .u8 120]
 have hs1 := litW_size X #[.int .u8 120]
 have hb2 : Below X.heap.size X ((litW X #[.int .u8 120]).alloc O) := hb1.alloc (by omega) _
 have hblk : ((litW X #[.int .u8 120]).alloc O).heap[X.heap.size + 1]? = some O := by rw [← hs1]; exact blk_new _ _
 have hu : Kd.C (Kd.int .u8) ((litW X #[.int .u8 120]).alloc O) (some ⟨X.heap.size, 0, none⟩) 1 [120] := by
  have h1 : Kd.C (Kd.int .u8) (litW X #[.int .u8 120]) (some ⟨X.heap.size, 0, none⟩) ([120] : List Int).length [120] := C_block (litW_new X #[.int .u8 120]) (by decide) (Reps.one (show Kd.K (Kd.int .u8) _ 120 [.int .u8 120] from rfl) (Reps.none _ _))
  exact Kd.C_alloc h1 _
 subst hO
 have hC : Kd.C k27 _ (some ⟨X.heap.size + 1, 0, none⟩) l10.length l10 := C_block hblk (by decide)
  (Reps_cons (k27_mk _ _ (by decide) hu) rfl (Reps_cons (k27_mk _ _ (Nat.le_refl _) (Kd.C_nil _ _)) rfl (Reps.none _ _)))
 refine (Fold_calls (some ⟨X.heap.size + 1, 0, none⟩) 2 l10 _ (Tabs.below hT hb2) hC ((memsZ_iff _).1 (by decide))).mono ?_
 rintro e w' ⟨v, rfl, hV, hB, hform⟩
 rw [fold10] at hV hform ⊢
 obtain ⟨g, c, rfl⟩ := hform (by decide)
 obtain ⟨h1, h2, h3⟩ := Kd.V_reads' hV
 obtain ⟨ad, A8, c8, hA, x0, x1, x2, x3, x4, x5, x6, x7, x8, hl8, hC8⟩ := at_T38 h3 0 (by decide) (by decide)
 cases hA
 obtain ⟨ad, A9, c9, hA, y0, y1, y2, _⟩ := at_T38 h3 1 (by decide) (by decide)
 cases hA
 exact ⟨g, c, A8, c8, rfl, h3, x2, y2, x8, hC8, h2, hb2.trans (hB.mono hb2.size)⟩
def Ans2 (X : World) (e : Ending) (w' : World) : Prop := ∃ v, e = .returned (.tuple #[v, .agg #[.int .i64 7, .int .i64 0]]) ∧ Below X.heap.size X w'
theorem ans2_calls (X : World) (b : Nat) (hb : X.heap.size = b) (hT : Tabs X) : Calls Tryd.prog 10 #[.slice (some ⟨b, 0, none⟩) 1 1] (X.alloc (.cells #[.string ⟨#[97]⟩, .string ⟨#[98]⟩, .int .u8 49, .int .i64 0, .int .i64 0, .int .i64 0, .int .i64 0, .slice none 0 0] 27)) (Ans2 X) := by
 subst hb
 have hblk := blk_new X (Obj.cells #[.string ⟨#[97]⟩, .string ⟨#[98]⟩, .int .u8 49, .int .i64 0, .int .i64 0, .int .i64 0, .int .i64 0, .slice none 0 0] 27)
 have hb2 := below_alloc (Below.refl X.heap.size X) (Obj.cells #[.string ⟨#[97]⟩, .string ⟨#[98]⟩, .int .u8 49, .int .i64 0, .int .i64 0, .int .i64 0, .int .i64 0, .slice none 0 0] 27)
 have hC : Kd.C k27 _ (some ⟨X.heap.size, 0, none⟩) ([⟨aB, bB, 49, ⟨0, 0, 0, 0⟩, []⟩] : List Mem).length [⟨aB, bB, 49, ⟨0, 0, 0, 0⟩, []⟩] := C_block hblk (by decide)
  (Reps_cons (k27_mk _ _ (Nat.le_refl _) (Kd.C_nil _ _)) rfl (Reps.none _ _))
 refine (Fold_calls (some ⟨X.heap.size, 0, none⟩) 1 _ _ (Tabs.below hT hb2) hC ((memsZ_iff _).1 (by decide))).mono ?_
 rintro e w' ⟨v, rfl, hV, hB, hform⟩
 rw [fold11]
 exact ⟨v, rfl, hb2.trans (hB.mono hb2.size)⟩
theorem ans4_calls (X : World) (b : Nat) (hb : X.heap.size = b) (hT : Tabs X) : Calls Tryd.prog 22 #[.slice (some ⟨b, 0, none⟩) 1 1] (X.alloc (.cells #[.string ⟨#[]⟩, .string ⟨#[]⟩, .string ⟨#[]⟩, .int .u8 0, .int .i64 0, .int .i64 0, .int .i64 0, .int .i64 0, .slice none 0 0] 38)) fun e w' => e = .returned (.bool false) ∧ Below X.heap.size X w' := by
 subst hb
 have hblk := blk_new X (Obj.cells #[.string ⟨#[]⟩, .string ⟨#[]⟩, .string ⟨#[]⟩, .int .u8 0, .int .i64 0, .int .i64 0, .int .i64 0, .int .i64 0, .slice none 0 0] 38)
 have hb2 := below_alloc (Below.refl X.heap.size X) (Obj.cells #[.string ⟨#[]⟩, .string ⟨#[]⟩, .string ⟨#[]⟩, .int .u8 0, .int .i64 0, .int .i64 0, .int .i64 0, .int .i64 0, .slice none 0 0] 38)
 have hC : Kd.C k38 _ (some ⟨X.heap.size, 0, none⟩) ([z38] : List Node).length [z38] := C_block hblk (by decide)
  (Reps_cons (k38_mk _ z38 (Nat.le_refl _) (Kd.C_nil _ _)) rfl (Reps.none _ _))
 refine (Good_calls (some ⟨X.heap.size, 0, none⟩) 1 [z38] _ (Tabs.below hT hb2) hC (by decide) ((nodesG_iff _).1 (by decide))).mono ?_
 rintro e w' ⟨rfl, hB⟩
 rw [good11]
 exact ⟨rfl, hb2.trans (hB.mono hb2.size)⟩
theorem ans3_calls (Y : World) (g c : Nat) (hC : Kd.C k38 Y (some ⟨g, 0, none⟩) 2 t10) (hc : 2 ≤ c) (hT : Tabs Y) : Calls Tryd.prog 22 #[.slice (some ⟨g, 0, none⟩) 2 c] Y fun e w' => e = .returned (.bool true) ∧ Below Y.heap.size Y w' := by
 have h := Good_calls (some ⟨g, 0, none⟩) c t10 Y hT hC hc ((nodesG_iff _).1 (by decide))
 rw [good10] at h
 exact h
set_option maxRecDepth 100000 in
set_option maxHeartbeats 4000000 in
theorem answers10_calls (w : World) (hT : Tabs w) :
  Calls Tryd.prog 9 #[] w fun e w' => e = .returned (.bool true) ∧ Below w.heap.size w w' := by
 have HT : Aside0 (∀ X : World, Below w.heap.size w X → Tabs X) := ⟨fun X hb => Tabs.below hT hb⟩
 have c1 := Aside0.mk (ans1_calls w hT)
 have kc := fun (W : World) => litW_conv W (#[.int .u8 120] : Array Value) 1 1
 have hls := litW_size w #[.int .u8 120]
 clear hT
 go_enter Tryd.func9, Tryd.ntmps9
 go_wp2_with (first
  | (go_at_call 10; (with_reducible refine c1.out.mono ?_); rintro e w1 ⟨g, c, A8, c8, rfl, hC, x2, y2, x8, hC8, hc2, hb1⟩; have HC := Aside0.mk hC; have HC8 := Aside0.mk hC8; have HB1 := Aside0.mk hb1; have hg := World.block_lt_of_cell? w1 _ x2; dsimp only at hg; have hg1 : g < w1.heap.size + 1 := (by omega); have hgn : ¬ w1.heap.size = g := (by omega); have hgn1 : ¬ w1.heap.size + 1 = g := (by omega); have hw1 := hb1.size; clear hC hC8 hb1)
  | (go_at_call 10; refine (ans2_calls _ _ (by simp) (HT.out _ ?hx)).mono ?_; (case hx => repeat (first | with_reducible refine below_put ?_ _ _ (by omega) _ | with_reducible refine below_alloc ?_ _); exact HB1.out); rintro e w2 ⟨v2, rfl, hb2⟩; obtain ⟨hd2, hf2⟩ := bcell hb2; have hz2 := hb2.size; simp only [World.size_alloc, World.size_setCell] at hz2; have HB2 := Aside0.mk hb2; have hq1 : w1.heap.size < w2.heap.size := (by omega); have hq2 : ¬ w1.heap.size = w2.heap.size := (by omega); have hq3 : ¬ w2.heap.size = w1.heap.size := (by omega); have hq4 : g < w2.heap.size := (by omega); have hq5 : ¬ g = w2.heap.size := (by omega); have hq6 : ¬ w2.heap.size = g := (by omega); have hX : Below w1.heap.size w1 w2 := (by refine Below.trans ?_ (HB2.out.mono (by simp)); repeat (first | with_reducible refine below_put ?_ _ _ (by omega) _ | with_reducible refine below_alloc ?_ _); exact Below.refl _ _); have hstr := (fun (o : Obj) => Kd.C_string (P := Tryd.prog) (src := 25) (dst := 9) (n := 1) (c := c8) Tryd.underlying25 Tryd.underlying5 Tryd.underlying9 (Kd.C_alloc (Kd.C_below HC8.out hX) o)); rw [str120] at hstr; have HX := Aside0.mk hX; have HW2 := Aside0.mk (HB1.out.trans (HX.out.mono hw1)); clear hb2 hX)
  | (go_at_call 22; (with_reducible refine (ans3_calls _ g c (Kd.C_alloc (Kd.C_below HC.out HX.out) _) hc2 (HT.out _ (below_alloc HW2.out _))).mono ?_); rintro e w3 ⟨rfl, hb3⟩; obtain ⟨hd3, hf3⟩ := bcell hb3; have hz3 := hb3.size; simp only [World.size_alloc] at hz3; have HB3 := Aside0.mk hb3; have hs23 := HW2.out.size; have HW3 := Aside0.mk ((below_alloc HW2.out _).trans (HB3.out.mono (by rw [World.size_alloc]; omega))); clear hb3)
  | (go_at_call 22; refine (ans4_calls _ _ rfl (HT.out _ HW3.out)).mono ?_; rintro e w4 ⟨rfl, hb4⟩)
  | fail)
 go_ret
 exact ⟨rfl, HW3.out.trans (hb4.mono HW3.out.size)⟩
end Go.Proofs.YtiijbmaamblidaaDoor
namespace Go.Proofs.YtiijbmaamblidaaDoor.Print
open Go.RowKit Go.Proofs.YtiijbmaamblidaaDoor Go.Proofs.YtiijbmaamblidaaDoorW.PrintWords
def bindlelaw10_answers.f : Option (Bool) := some true
theorem bindlelaw10_answers.calls (r : Bool) (w : World) (hT : Aside0 (Tabs w)) (h : bindlelaw10_answers.f = some r) :
  Calls Tryd.prog 9 #[] w fun e w' => e = .returned (.bool r) ∧ Below w.heap.size w w' := by
 cases h
 exact answers10_calls w hT.out
end Go.Proofs.YtiijbmaamblidaaDoor.Print

namespace Go.Proofs.YtiijbmaamblidaaDoor
open Go.RowKit Go.Proofs.YtiijbmaamblidaaDoor.Print Go.Proofs.YtiijbmaamblidaaDoorW.PrintWords
theorem metHeap : Kd.Heap k24 := Kd.heap_iso _ (Kd.heap_pair (Kd.heap_int _) (Kd.heap_pair (Kd.heap_int _) (Kd.heap_pair (Kd.heap_int _) (Kd.heap_int _))))
theorem memHeap : Kd.Heap k27 := Kd.heap_iso _ (Kd.heap_pair Kd.heap_string (Kd.heap_pair Kd.heap_string (Kd.heap_pair (Kd.heap_int _) (Kd.heap_pair metHeap (Kd.heap_slice _ (Kd.heap_int _))))))
end Go.Proofs.YtiijbmaamblidaaDoor

namespace Go.Proofs.YtiijbmaamblidaaDoor
open Go.RowKit Go.Maps Go.Proofs.YtiijbmaamblidaaDoor.Print Go.Proofs.YtiijbmaamblidaaDoorW.PrintWords Go.Proofs.YtiijbmaamblidaaDoorW.PrintLast Go.Proofs.YtiijbmaamblidaaDoorW.PrintMore
set_option linter.unusedVariables false
set_option linter.unusedSimpArgs false
def memL (x : Mem) (v : Value) : List Value := [.string x.f0, .string x.f1, .int .u8 x.f2, .int .i64 x.f3.f0, .int .i64 x.f3.f1, .int .i64 x.f3.f2, .int .i64 x.f3.f3, v]
theorem mem_elem {W : World} {base g n cap : Nat} {ok : Nat → Prop} {xs : List Mem} (h : Kd.N k27 27 W base ok (.slice (some ⟨g, 0, none⟩) n cap) xs) (i : Nat) (hi : i < xs.length) (hn : n = xs.length) :
  ∃ A c, (∀ j u, (memL xs[i] (.slice A xs[i].f4.length c))[j]? = some u → W.cell? ⟨g, i * 8 + j, none⟩ = some u) ∧ (∀ j, W.frozen? ⟨g, i * 8 + j, none⟩ = false) ∧ xs[i].f4.length ≤ c ∧ Kd.F (Kd.int .u8) W (fun k => ok k ∧ k ≠ g) A xs[i].f4.length xs[i].f4 ∧
   Kd.FK k27 W (fun k => ok k ∧ k ≠ g) xs[i] (memL xs[i] (.slice A xs[i].f4.length c)) := by
 obtain ⟨c, hcl, hF, hcc, hfr⟩ := Kd.N_elem h z27 (i : Int) (by omega) (by omega)
 have e : xs.getD ((i : Int)).toNat z27 = xs[i] := by rw [Int.toNat_natCast, List.getD_eq_getElem?_getD, List.getElem?_eq_getElem hi]; rfl
 rw [e] at hF
 simp only [Int.toNat_natCast] at hcc hfr
 obtain ⟨A, c', rfl, hl, hf⟩ := k27_openF hF
 exact ⟨A, c', hcc, hfr, hl, hf, hF⟩
theorem memL_len (x : Mem) (v : Value) : (memL x v).length = 8 := rfl
theorem made_mem (W : World) (base : Nat) (hb : base ≤ W.heap.size := by exact Nat.le_refl _) : Kd.N k27 27 (W.alloc (.cells #[] 27)) base (fun k => W.heap.size ≤ k) (.slice (some ⟨W.heap.size, 0, none⟩) 0 0) [] :=
 ⟨fun k hk => by simp [Value.ownBlock] at hk; omega, [], rfl, ⟨fun k hk => hk.symm, [], World.ownsRow_made W #[] 0 hb (Nat.zero_le _) rfl, Reps.none _ _⟩, fun j x c h => by simp at h⟩
theorem N_putM {W : World} {base g n cap : Nat} {ok : Nat → Prop} {xs : List Mem} (h : Kd.N k27 27 W base ok (.slice (some ⟨g, 0, none⟩) n cap) xs) (i : Nat) (hi : i < xs.length) (hn : n = xs.length) {x : Mem} {v : Value}
  (hx : Kd.FK k27 W (fun k => ok k ∧ k ≠ g) x (memL x v)) :
  Kd.N k27 27 (W.setCells g (i * 8) (memL x v)) base ok (.slice (some ⟨g, 0, none⟩) n cap) (xs.set i x) ∧ W.grownBy (W.setCells g (i * 8) (memL x v)) (some g) := by
 obtain ⟨_, _, hc1, _, _, _, _⟩ := mem_elem h i hi hn
 obtain ⟨h1, g1⟩ := Kd.N_seg h (i : Int) (by omega) (by omega) (memL_len _ _) (by simp only [Int.toNat_natCast]; exact hc1) (seg := memL x v) (j := 0) (x' := x) (okp := fun k => ok k ∧ k ≠ g) (Nat.le_refl _) (by exact hx) (fun k hk => hk)
 simp only [Int.toNat_natCast, Nat.add_zero] at h1 g1
 exact ⟨h1, g1⟩
theorem memL_facts {W : World} {g o : Nat} {x : Mem} {v : Value} (h : ∀ j u, (memL x v)[j]? = some u → W.cell? ⟨g, o + j, none⟩ = some u) : W.cell? ⟨g, o, none⟩ = some (.string x.f0) ∧ W.cell? ⟨g, o + 1, none⟩ = some (.string x.f1) ∧ W.cell? ⟨g, o + 2, none⟩ = some (.int .u8 x.f2) ∧ W.cell? ⟨g, o + 3, none⟩ = some (.int .i64 x.f3.f0) ∧
  W.cell? ⟨g, o + 4, none⟩ = some (.int .i64 x.f3.f1) ∧ W.cell? ⟨g, o + 5, none⟩ = some (.int .i64 x.f3.f2) ∧ W.cell? ⟨g, o + 6, none⟩ = some (.int .i64 x.f3.f3) ∧ W.cell? ⟨g, o + 7, none⟩ = some v :=
 ⟨h 0 _ rfl, h 1 _ rfl, h 2 _ rfl, h 3 _ rfl, h 4 _ rfl, h 5 _ rfl, h 6 _ rfl, h 7 _ rfl⟩
def FineTo (l : List Mem) (i : Nat) : Prop := ∀ (j : Nat) (hj : j < l.length), j < i → (∀ (k : Nat) (hk : k < l.length), k < j → l[k].f0 ≠ l[j].f0) ∧ ¬ l[j].f2 = 49 ∧ goodM l[j] = true
def ORel1 (l : List Mem) (W : World) (i : Int) (wr : World) : Prop := 0 ≤ i ∧ i ≤ l.length ∧ FineTo l i.toNat ∧ Below W.heap.size W wr
def ORel2 (l : List Mem) (W : World) (i k : Int) (wr : World) : Prop := 0 ≤ k ∧ k ≤ i ∧ (∀ (j : Nat) (hj : j < l.length) (hi : i.toNat < l.length), (j : Int) < k → l[j].f0 ≠ l[i.toNat].f0) ∧ Below W.heap.size W wr
def MRow (W wr : World) (M : Nat) (v : Value) (xs : List Mem) : Prop := Kd.N k27 27 wr W.heap.size (fun k => k < M) v xs ∧ Below W.heap.size W wr ∧ M ≤ wr.heap.size
def ORel3 (l : List Mem) (W : World) (M : Nat) (v : Value) (i : Int) (wr : World) : Prop := 0 ≤ i ∧ i ≤ l.length ∧ ∃ xs : List Mem, xs.Perm l ∧ MRow W wr M v xs
theorem swap_perm {xs : List Mem} {i k : Nat} (hi : i < xs.length) (hk : k < xs.length) : ((xs.set i xs[k]).set k xs[i]).Perm xs := by
 have h := List.set_set_perm hi hk
 exact h
theorem MRow.below {W wr w1 : World} {M : Nat} {v : Value} {xs : List Mem} (h : MRow W wr M v xs) (hb : Below wr.heap.size wr w1) : MRow W w1 M v xs :=
 ⟨Kd.N_below h.1 hb, h.2.1.trans (hb.mono h.2.1.size), Nat.le_trans h.2.2 hb.size⟩
theorem rd_in {u : List Int} {n : Int} (h0 : 0 ≤ n) (h1 : n < (u.length : Int)) : rd u n ∈ u := by
 have e : rd u n = u[n.toNat]'(by omega) := by
  unfold rd
  rw [List.getD_eq_getElem?_getD, List.getElem?_eq_getElem (by omega)]
  rfl
 rw [e]
 exact List.getElem_mem _
def OFoldPost (l : List Mem) (W : World) (e : Ending) (W' : World) : Prop := ∃ A c z, e = .returned (.tuple #[.slice A l.length c, .agg #[.int .i64 0, .int .i64 z]]) ∧ Kd.C k38 W' A l.length (foldF l).1 ∧ l.length ≤ c ∧ Below W.heap.size W W'
theorem OFold (A0 : Option Addr) (c0 : Nat) (l m : List Mem) (W : World) (hT : Tabs W) (hp : m.Perm l) (hC : Kd.C k27 W A0 l.length m) (hz : MemsZ l) (hE : (foldF m).2.1 = 0) (hs : (foldF m).1 = (foldF l).1) (hl : (foldF l).1.length = l.length) :
  Calls Tryd.prog 10 #[.slice A0 l.length c0] W (OFoldPost l W) := by
 have hlen : m.length = l.length := hp.length_eq
 have hz' : MemsZ m := ⟨by rw [hlen]; exact hz.1, fun x hx => hz.2 x (hp.mem_iff.1 hx)⟩
 rw [← hlen] at hC
 have hcl := Fold_calls A0 c0 m W hT hC hz'
 rw [hlen] at hcl
 refine hcl.mono ?_
 rintro e w' ⟨v, rfl, hV, hB, _⟩
 obtain ⟨A, c, rfl⟩ := Kd.V_slice hV
 obtain ⟨h1, h2, h3⟩ := Kd.V_reads' hV
 rw [hE]
 rw [hs, hl] at h3 h2 ⊢
 exact ⟨A, c, _, rfl, h3, h2, hB⟩
set_option maxRecDepth 100000 in
set_option maxHeartbeats 8000000 in
theorem TreeOrder_calls (A0 : Option Addr) (c0 : Nat) (l : List Mem) (A1 : Option Addr) (c1 : Nat) (u : List Int) (W : World) (hT : Tabs W) (hC : Kd.C k27 W A0 l.length l) (hc : l.length ≤ c0) (hlen : l.length ≤ 140737488351232) (hz : ∀ x ∈ l, MemR x) (hCu : Kd.C (Kd.int .u8) W A1 u.length u) (hul : u.length ≤ 140737488351232) (hu : ∀ x ∈ u, 0 ≤ x ∧ x ≤ 255) :
  Calls Tryd.prog 4 #[.slice A0 l.length c0, .slice A1 u.length c1] W fun e W' => e = .returned (.bool true) ∧ Below W.heap.size W W' := by
 have HT := Aside0.mk (fun (w1 : World) (hb : Below W.heap.size W w1) => (⟨Tabs.below hT hb⟩ : Aside0 (Tabs w1)))
 have HC := Aside0.mk hC
 have HCL := Aside0.mk hc
 have HCU := Aside0.mk hCu
 have HU := Aside0.mk hu
 have HZ := Aside0.mk hz
 obtain ⟨b1, he1, hl1⟩ := light_eq l hlen
 obtain ⟨k1, hk1⟩ := Ev.rounds he1
 have HK1 := Aside0.mk hk1
 clear hT hC hc he1 hk1 hCu hu hz
 generalize hpost : (fun (e : Ending) (W' : World) => e = .returned (.bool true) ∧ Below W.heap.size W W') = Q
 have hQ := Aside0.mk hpost
 clear hpost
 cases b1 with
 | false =>
  clear hl1
  go_enter Tryd.func4, Tryd.ntmps4
  go_wp2_with (first
   | (go_at_call 7; refine (bindlelaw10_light.calls k1 A0 c0 l false _ HC.out HCL.out HK1.out).mono ?_; rintro e w1 ⟨rfl, hd⟩; obtain ⟨nd, hd⟩ := hd.out; have HB1 : Aside0 (Below W.heap.size W w1) := ⟨(by rw [hd]; exact pw_below_drewN (Below.refl _ _) _)⟩; clear hd)
   | (go_at_call 9; refine (bindlelaw10_answers.calls true _ (HT.out _ HB1.out) rfl).mono ?_; rintro e w9 ⟨rfl, hbe⟩; have HBE := Aside0.mk hbe; clear hbe))
  rw [← hQ.out]
  exact ⟨rfl, HB1.out.trans (HBE.out.mono HB1.out.size)⟩
 | true =>
  have hl := hl1 rfl
  have HL := Aside0.mk hl
  have h60 : l.length ≤ 60 := hl.1
  clear hl1 hl
  go_enter Tryd.func4, Tryd.ntmps4
  go_wp2_with (first
   | (go_at_call 7; refine (bindlelaw10_light.calls k1 A0 c0 l true _ HC.out HCL.out HK1.out).mono ?_; rintro e w1 ⟨rfl, hd⟩; obtain ⟨nd, hd⟩ := hd.out; have HB1 : Aside0 (Below W.heap.size W w1) := ⟨(by rw [hd]; exact pw_below_drewN (Below.refl _ _) _)⟩; clear hd)
   | fail)
  go_loopw [5] (fun i wr => ∃ n : Int, i = .int .i64 n ∧ Aside0 (ORel1 l W n wr)) (fun i _ => (l.length - (intOf i)).toNat)
  case atStart => exact ⟨0, rfl, ⟨⟨by omega, by omega, fun j hj h => absurd h (by simp), HB1.out⟩⟩⟩
  case round =>
   obtain ⟨n, rfl, HR⟩ := hrel
   have h0 := HR.out.1
   have h1 := HR.out.2.1
   have HB := Aside0.mk HR.out.2.2.2
   by_cases hlt : n < (l.length : Int)
   ·have c1b : decide (n < (l.length : Int)) = true := decide_eq_true hlt
    have hnl : n.toNat < l.length := by omega
    have HNL := Aside0.mk hnl
    clear hnl
    go_wp2
    obtain ⟨wo, rfl⟩ : ∃ wo : World, wo = wr := ⟨_, rfl⟩
    go_loopw [6] (fun i wr => ∃ k : Int, i = .int .i64 k ∧ Aside0 (ORel2 l W n k wr)) (fun i _ => (n - (intOf i)).toNat)
    case atStart => exact ⟨0, rfl, ⟨⟨by omega, by omega, fun j hj hi h => absurd h (by omega), HB.out⟩⟩⟩
    case round =>
     obtain ⟨m, rfl, HR2⟩ := hrel
     have hm0 := HR2.out.1
     have hm1 := HR2.out.2.1
     have HB2 := Aside0.mk HR2.out.2.2.2
     by_cases hmn : m < n
     ·have c2b : decide (m < n) = true := decide_eq_true hmn
      have hml : m < (l.length : Int) := by omega
      obtain ⟨ad, A7, c7, hA, x0, _⟩ := at_T27 (Kd.C_below HC.out HB2.out) n h0 hlt
      obtain ⟨ad', A8, c8, hA', y0, _⟩ := at_T27 (Kd.C_below HC.out HB2.out) m hm0 hml
      have had : ad' = ad := by rw [hA] at hA'; injection hA' with h; exact h.symm
      subst had
      subst hA
      have hx := rdM_at l n h0 hlt
      have hy := rdM_at l m hm0 hml
      rw [hx] at x0
      rw [hy] at y0
      have hmlN : m.toNat < l.length := by omega
      have HX := Aside0.mk (rfl : l[n.toNat]'HNL.out = l[n.toNat]'HNL.out)
      clear hA' hx hy
      by_cases he : (l[m.toNat]'hmlN).f0.toList = (l[n.toNat]'HNL.out).f0.toList
      ·have e1 : ((l[m.toNat]'hmlN).f0.toList == (l[n.toNat]'HNL.out).f0.toList) = true := by simpa using he
       generalize hpy : (l[m.toNat]'hmlN).f0 = py at y0 e1
       generalize hpx : (l[n.toNat]'HNL.out).f0 = px at x0 e1
       clear he hpy hpx
       go_upto_region 9 with (fail)
       go_quiet (fail)
       have HBQ : Aside0 (Below W.heap.size W (wr.drewN nq)) := ⟨pw_below_drewN HB2.out _⟩
       go_wp2_with (go_at_call 9; refine (bindlelaw10_answers.calls true _ (HT.out _ HBQ.out) rfl).mono ?_; rintro e w9 ⟨rfl, hbe⟩; have HBE := Aside0.mk hbe; clear hbe)
       rw [← hQ.out]
       exact ⟨rfl, HBQ.out.trans (HBE.out.mono HBQ.out.size)⟩
      ·have e1 : ((l[m.toNat]'hmlN).f0.toList == (l[n.toNat]'HNL.out).f0.toList) = false := by simpa using he
       have HE := Aside0.mk he
       generalize hpy : (l[m.toNat]'hmlN).f0 = py at y0 e1
       generalize hpx : (l[n.toNat]'HNL.out).f0 = px at x0 e1
       clear he hpy hpx
       go_upto_region 9 with (fail)
       go_quiet (fail)
       have hfin : ORel2 l W n (m + 1) (wr.drewN nq) := by
        refine ⟨by omega, by omega, fun j hj hi hjm => ?_, pw_below_drewN HB2.out _⟩
        rcases Nat.lt_or_ge j m.toNat with h | h
        ·exact HR2.out.2.2.1 j hj hi (by omega)
        ·obtain rfl : j = m.toNat := by omega
         intro e
         exact HE.out (by rw [e])
       have HFIN := Aside0.mk hfin
       clear hfin
       go_wp2
       go_roundw
       case rel => exact ⟨m + 1, by go_num, HFIN⟩
       case measure => simp [intOf]; omega
     ·have c2b : decide (m < n) = false := decide_eq_false hmn
      obtain ⟨ad, A7, c7, rfl, x0, x1, x2, x3, x4, x5, x6, x7, hl7, hC7⟩ := at_T27 (Kd.C_below HC.out HB2.out) n h0 hlt
      have hx := rdM_at l n h0 hlt
      have hxz : MemR (rd_T27 l n) := by rw [hx]; exact HZ.out _ (List.getElem_mem _)
      generalize rd_T27 l n = x at hx hxz x0 x1 x2 x3 x4 x5 x6 x7 hl7 hC7
      obtain ⟨kg, hkg⟩ := Ev.rounds (refGood_eq x hxz)
      have HX := Aside0.mk hx
      have HC7 := Aside0.mk hC7
      have HL7 := Aside0.mk hl7
      clear hx hxz hC7 hl7
      have hmeq : m = n := by omega
      have HME := Aside0.mk hmeq
      clear hmeq hm0 hm1 hmn
      by_cases h49 : x.f2 = 49
      ·have e49 : (x.f2 == 49) = true := beq_iff_eq.2 h49
       clear h49 hkg
       go_wp2_with (go_at_call 9; refine (bindlelaw10_answers.calls true _ (HT.out _ HB2.out) rfl).mono ?_; rintro e w9 ⟨rfl, hbe⟩; have HBE := Aside0.mk hbe; clear hbe)
       rw [← hQ.out]
       exact ⟨rfl, HB2.out.trans (HBE.out.mono HB2.out.size)⟩
      ·have e49 : (x.f2 == 49) = false := beq_eq_false_iff_ne.2 h49
       have H49 := Aside0.mk h49
       clear h49
       cases hgm : goodM x with
       | false =>
        rw [hgm] at hkg
        have HKG := Aside0.mk hkg
        clear hkg hgm
        go_wp2_with (first
         | (go_at_call 8; refine (bindleref08_Good.calls kg x.f0 x.f1 x.f2 x.f3.f0 x.f3.f1 x.f3.f2 x.f3.f3 A7 c7 x.f4 false _ HC7.out HL7.out HKG.out).mono ?_; rintro e w3 ⟨rfl, hb3⟩; have HB3 := Aside0.mk (HB2.out.trans (hb3.mono HB2.out.size)); clear hb3)
         | (go_at_call 9; refine (bindlelaw10_answers.calls true _ (HT.out _ HB3.out) rfl).mono ?_; rintro e w9 ⟨rfl, hbe⟩; have HBE := Aside0.mk hbe; clear hbe))
        rw [← hQ.out]
        exact ⟨rfl, HB3.out.trans (HBE.out.mono HB3.out.size)⟩
       | true =>
        rw [hgm] at hkg
        have HKG := Aside0.mk hkg
        have HGM := Aside0.mk hgm
        clear hkg hgm
        go_wp2_with (first
         | (go_at_call 8; refine (bindleref08_Good.calls kg x.f0 x.f1 x.f2 x.f3.f0 x.f3.f1 x.f3.f2 x.f3.f3 A7 c7 x.f4 true _ HC7.out HL7.out HKG.out).mono ?_; rintro e w3 ⟨rfl, hb3⟩; have HB3 := Aside0.mk (HB2.out.trans (hb3.mono HB2.out.size)); clear hb3)
         | fail)
        have hfin : ORel1 l W (n + 1) w3 := by
         refine ⟨by omega, by omega, fun j hj hjn => ?_, HB3.out⟩
         rcases Nat.lt_or_ge j n.toNat with h | h
         ·exact HR.out.2.2.1 j hj h
         ·obtain rfl : j = n.toNat := by omega
          refine ⟨fun k hk hkn => HR2.out.2.2.1 k hk hj (by have := HME.out; omega), ?_, ?_⟩
          ·rw [← HX.out]; exact H49.out
          ·rw [← HX.out]; exact HGM.out
        have HFIN := Aside0.mk hfin
        clear hfin
        go_roundw
        case rel => exact ⟨n + 1, by go_num, HFIN⟩
        case measure => simp [intOf]; omega
   ·have c1b : decide (n < (l.length : Int)) = false := decide_eq_false hlt
    have hft : FineTo l l.length := fun j hj h => HR.out.2.2.1 j hj (by omega)
    have hgl : l.findIdx? (fun m => !goodM m) = none := by
     rw [List.findIdx?_eq_none_iff]
     intro x hx
     obtain ⟨j, hj, rfl⟩ := List.getElem_of_mem hx
     rw [(hft j hj hj).2.2]
     rfl
    have hnd : (l.map (fun m => m.f0)).Nodup := by
     rw [List.nodup_iff_pairwise_ne, List.pairwise_iff_getElem]
     intro i j hi hj hij
     rw [List.getElem_map, List.getElem_map]
     exact (hft j (by simpa using hj) (by simpa using hj)).1 i (by simpa using hi) hij
    have h49 : ∀ x ∈ l, ¬ x.f2 = 49 := by
     intro x hx
     obtain ⟨j, hj, rfl⟩ := List.getElem_of_mem hx
     exact (hft j hj hj).2.1
    have HP := Aside0.mk (fun (m : List Mem) (hp : m.Perm l) => fold_perm hp hgl hnd h49)
    clear hft hgl hnd h49 hlt
    have hF := Kd.C_F memHeap (Kd.C_below HC.out HB.out)
    have HF := Aside0.mk hF
    have hbs := HB.out.size
    clear hF
    go_wp2_with (at_builtin; refine Kd.N_append_rows k27 (w0 := W) W.heap.size rfl (.tmp 56) (.tmp 57) 22 27 _ 96 rfl Tryd.underlying22 infoMem rfl (by decide) (by decide) (.slice (some ⟨wr.heap.size, 0, none⟩) 0 0) [] l A0 l.length c0 (fun _ => True) (fun k => k < wr.heap.size) rfl rfl ?hO (Kd.F_alloc HF.out _) (fun k hk => ⟨trivial, fun e => by have e' : k = wr.heap.size := (by simpa [Value.ownBlock] using e); omega⟩) (fun _ _ => trivial) (HB.out.alloc hbs _) (by rw [World.size_alloc]; omega) (by simp; omega) ?_; (case hO => exact Kd.N_mono (made_mem wr W.heap.size hbs) (fun _ _ => trivial)); intro v4 w4 hN4 hB4 hg4 hat4; rw [List.nil_append] at hN4; obtain ⟨A4, c4, rfl⟩ := Kd.N_slice hN4; have HN4 := Aside0.mk hN4; have HB4 := Aside0.mk hB4; clear hN4 hB4 hg4 hat4)
    have hrow : MRow W w4 w4.heap.size (.slice A4 l.length c4) l := ⟨Kd.N_mono (Kd.N_bound HN4.out) (fun k hk => hk.2), HB4.out, Nat.le_refl _⟩
    generalize hMe : w4.heap.size = M at hrow
    have HROW := Aside0.mk hrow
    clear hrow HN4 HB4 hMe hbs
    go_loopw [8] (fun i wr => ∃ n : Int, i = .int .i64 n ∧ Aside0 (ORel3 l W M (.slice A4 l.length c4) n wr)) (fun i _ => (l.length - (intOf i)).toNat)
    case atStart => exact ⟨0, rfl, ⟨⟨by omega, by omega, l, List.Perm.refl _, HROW.out⟩⟩⟩
    case round =>
     rename_i wr0 _ _
     obtain ⟨n, rfl, HR3⟩ := hrel
     have h30 := HR3.out.1
     obtain ⟨xs, hperm, hrow3⟩ := HR3.out.2.2
     rcases (show (n < (l.length : Int) ∧ n < (u.length : Int)) ∨ (n < (l.length : Int) ∧ ¬ n < (u.length : Int)) ∨ ¬ n < (l.length : Int) from by omega) with ⟨h1, h2⟩ | ⟨h1, h2⟩ | h1
     ·have c3b : decide (n < (l.length : Int)) = true := decide_eq_true h1
      have c4b : decide (n < (u.length : Int)) = true := decide_eq_true h2
      obtain ⟨adu, cu, hAu, _, _, _⟩ := Kd.C_get (Kd.C_below HCU.out hrow3.2.1) (0 : Int) n h30 h2
      subst hAu
      have hxu := Kd.foot_int (Kd.C_below HCU.out hrow3.2.1) n h30 h2
      have hru := HU.out _ (rd_in h30 h2)
      generalize rd u n = r at hxu hru
      have hd0 : 0 < (l.length : Int) - n := by omega
      have ht0 : 0 ≤ r % ((l.length : Int) - n) := Int.emod_nonneg _ (by omega)
      have ht1 : r % ((l.length : Int) - n) < (l.length : Int) - n := Int.emod_lt_of_pos _ hd0
      have hxl : xs.length = l.length := hperm.length_eq
      have hS := hrow3
      obtain ⟨g, cap, hv, hg0, hg1, _⟩ := Kd.N_form hS.1 (by omega)
      rw [hxl] at hv
      cases hv
      obtain ⟨k, hk⟩ : ∃ k, k = n + r % ((l.length : Int) - n) := ⟨_, rfl⟩
      have hk0 : 0 ≤ k := by omega
      have hkl : k < (l.length : Int) := by omega
      have hi1 : n.toNat < xs.length := by omega
      have hi2 : k.toNat < xs.length := by omega
      obtain ⟨Ax, cx, fx, rx, lx, _, kx⟩ := mem_elem hS.1 n.toNat hi1 hxl.symm
      obtain ⟨Ay, cy, fy, ry, ly, _, ky⟩ := mem_elem hS.1 k.toNat hi2 hxl.symm
      have HSW := Aside0.mk (swap_perm hi1 hi2)
      generalize hx : xs[n.toNat] = x at fx lx kx HSW
      generalize hy : xs[k.toNat] = y at fy ly ky HSW
      obtain ⟨x0, x1, x2, x3, x4, x5, x6, x7⟩ := memL_facts fx
      obtain ⟨y0, y1, y2, y3, y4, y5, y6, y7⟩ := memL_facts fy
      have rx0 := rx 0
      have ry0 := ry 0
      rw [Nat.add_zero] at rx0 ry0
      have HPM := Aside0.mk hperm
      have HS := Aside0.mk hS
      have HXL := Aside0.mk hxl
      have KX := Aside0.mk kx
      have KY := Aside0.mk ky
      have HK := Aside0.mk hk
      clear hperm hS hxl hrow3 hx hy kx ky fx fy hk
      go_upto_region 18 with (fail)
      rw [← HK.out]
      clear HK ht0 ht1
      refine start_ (n := 16) (S := fun w' => w'.cell? ⟨g, k.toNat * 8, none⟩ = some (.string y.f0) ∧ w'.cell? ⟨g, k.toNat * 8 + 1, none⟩ = some (.string y.f1) ∧ w'.cell? ⟨g, k.toNat * 8 + 2, none⟩ = some (.int .u8 y.f2) ∧ w'.cell? ⟨g, k.toNat * 8 + 3, none⟩ = some (.int .i64 y.f3.f0) ∧ w'.cell? ⟨g, k.toNat * 8 + 4, none⟩ = some (.int .i64 y.f3.f1) ∧ w'.cell? ⟨g, k.toNat * 8 + 5, none⟩ = some (.int .i64 y.f3.f2) ∧ w'.cell? ⟨g, k.toNat * 8 + 6, none⟩ = some (.int .i64 y.f3.f3) ∧ w'.cell? ⟨g, k.toNat * 8 + 7, none⟩ = some (.slice Ay y.f4.length cy) ∧ w'.cell? ⟨g, n.toNat * 8, none⟩ = some (.string x.f0) ∧ w'.cell? ⟨g, n.toNat * 8 + 1, none⟩ = some (.string x.f1) ∧ w'.cell? ⟨g, n.toNat * 8 + 2, none⟩ = some (.int .u8 x.f2) ∧ w'.cell? ⟨g, n.toNat * 8 + 3, none⟩ = some (.int .i64 x.f3.f0) ∧ w'.cell? ⟨g, n.toNat * 8 + 4, none⟩ = some (.int .i64 x.f3.f1) ∧ w'.cell? ⟨g, n.toNat * 8 + 5, none⟩ = some (.int .i64 x.f3.f2) ∧ w'.cell? ⟨g, n.toNat * 8 + 6, none⟩ = some (.int .i64 x.f3.f3) ∧ w'.cell? ⟨g, n.toNat * 8 + 7, none⟩ = some (.slice Ax x.f4.length cx)) (ds := [13, 15]) #[false, false, false, false, false, false, false, false, false, false, false, false, false, false, false, false] (by kernel_rfl) rfl rfl ⟨by exact y0, by exact y1, by exact y2, by exact y3, by exact y4, by exact y5, by exact y6, by exact y7, by exact x0, by exact x1, by exact x2, by exact x3, by exact x4, by exact x5, by exact x6, by exact x7⟩ (fun hHeld => ?_)
      generalize hwq : World.drew _ = wq at hHeld ⊢
      have hq0 : Below wr.heap.size wr wq := by rw [← hwq]; exact below_drew (Below.refl _ _)
      have hNq := HS.out.below hq0
      have put1 := N_putM hNq.1 n.toNat (by omega) HXL.out.symm (x := y) (v := .slice Ay y.f4.length cy) (Kd.FK_below KY.out hq0)
      have rqx : ∀ q, wq.frozen? ⟨g, n.toNat * 8 + q, none⟩ = false := fun q => by rw [← hwq]; exact rx q
      have rqx0 : wq.frozen? ⟨g, n.toNat * 8, none⟩ = false := by rw [← hwq]; exact rx0
      have HNQ := Aside0.mk hNq
      have HQ0 := Aside0.mk hq0
      clear hNq hq0
      refine pure_ (i := 0) (N := some 83) (v := ?_) (a' := ?_) #[true, false, false, false, false, false, false, false, false, false, false, false, false, false, false, false] rfl rfl (by kernel_rfl) (fun _ _ _ h => h) (Or.inl ⟨by rfl, ?_⟩) ?_ ?_
      rotate_left
      ·intro w'
       go_simp
       with_reducible rfl
      rotate_left
      ·simp only [Act.put, List.setIfInBounds_toArray, List.set_cons_zero, List.set_cons_succ, i64_w, i32_w]
       rfl
      refine pure_ (i := 1) (N := some 84) (v := ?_) (a' := ?_) #[true, true, false, false, false, false, false, false, false, false, false, false, false, false, false, false] rfl rfl (by kernel_rfl) (fun _ _ _ h => h) (Or.inl ⟨by rfl, ?_⟩) ?_ ?_
      rotate_left
      ·intro w'
       go_simp
       with_reducible rfl
      rotate_left
      ·simp only [Act.put, List.setIfInBounds_toArray, List.set_cons_zero, List.set_cons_succ, i64_w, i32_w]
       rfl
      refine pure_ (i := 2) (N := some 85) (v := ?_) (a' := ?_) #[true, true, true, false, false, false, false, false, false, false, false, false, false, false, false, false] rfl rfl (by kernel_rfl) (fun _ _ _ h => h) (Or.inl ⟨by rfl, ?_⟩) ?_ ?_
      rotate_left
      ·intro w'
       go_simp
       with_reducible rfl
      rotate_left
      ·simp only [Act.put, List.setIfInBounds_toArray, List.set_cons_zero, List.set_cons_succ, i64_w, i32_w]
       rfl
      refine pure_ (i := 3) (N := some 86) (v := ?_) (a' := ?_) #[true, true, true, true, false, false, false, false, false, false, false, false, false, false, false, false] rfl rfl (by kernel_rfl) (fun _ _ _ h => h) (Or.inl ⟨by rfl, ?_⟩) ?_ ?_
      rotate_left
      ·intro w'
       go_simp
       with_reducible rfl
      rotate_left
      ·simp only [Act.put, List.setIfInBounds_toArray, List.set_cons_zero, List.set_cons_succ, i64_w, i32_w]
       rfl
      refine pure_ (i := 4) (N := some 87) (v := ?_) (a' := ?_) #[true, true, true, true, true, false, false, false, false, false, false, false, false, false, false, false] rfl rfl (by kernel_rfl) (fun _ _ _ h => h) (Or.inl ⟨by rfl, ?_⟩) ?_ ?_
      rotate_left
      ·intro w'
       go_simp
       with_reducible rfl
      rotate_left
      ·simp only [Act.put, List.setIfInBounds_toArray, List.set_cons_zero, List.set_cons_succ, i64_w, i32_w]
       rfl
      refine pure_ (i := 5) (N := some 88) (v := ?_) (a' := ?_) #[true, true, true, true, true, true, false, false, false, false, false, false, false, false, false, false] rfl rfl (by kernel_rfl) (fun _ _ _ h => h) (Or.inl ⟨by rfl, ?_⟩) ?_ ?_
      rotate_left
      ·intro w'
       go_simp
       with_reducible rfl
      rotate_left
      ·simp only [Act.put, List.setIfInBounds_toArray, List.set_cons_zero, List.set_cons_succ, i64_w, i32_w]
       rfl
      refine pure_ (i := 6) (N := some 89) (v := ?_) (a' := ?_) #[true, true, true, true, true, true, true, false, false, false, false, false, false, false, false, false] rfl rfl (by kernel_rfl) (fun _ _ _ h => h) (Or.inl ⟨by rfl, ?_⟩) ?_ ?_
      rotate_left
      ·intro w'
       go_simp
       with_reducible rfl
      rotate_left
      ·simp only [Act.put, List.setIfInBounds_toArray, List.set_cons_zero, List.set_cons_succ, i64_w, i32_w]
       rfl
      refine take_ (i := 7) (N := some 90) (v := ?_) (a' := ?_) #[true, true, true, true, true, true, true, true, false, false, false, false, false, false, false, false] rfl rfl (by kernel_rfl) (fun _ _ _ h => h) (Or.inl ⟨by rfl, ?_⟩) hHeld ?_ ?_
      rotate_left
      ·rintro w' ⟨s0, s1, s2, s3, s4, s5, s6, s7, s8, s9, s10, s11, s12, s13, s14, s15⟩
       go_simp
       with_reducible rfl
      rotate_left
      ·simp only [Act.put, List.setIfInBounds_toArray, List.set_cons_zero, List.set_cons_succ, i64_w, i32_w]
       rfl
      refine pure_ (i := 8) (N := some 91) (v := ?_) (a' := ?_) #[true, true, true, true, true, true, true, true, true, false, false, false, false, false, false, false] rfl rfl (by kernel_rfl) (fun _ _ _ h => h) (Or.inl ⟨by rfl, ?_⟩) ?_ ?_
      rotate_left
      ·intro w'
       go_simp
       with_reducible rfl
      rotate_left
      ·simp only [Act.put, List.setIfInBounds_toArray, List.set_cons_zero, List.set_cons_succ, i64_w, i32_w]
       rfl
      refine pure_ (i := 9) (N := some 92) (v := ?_) (a' := ?_) #[true, true, true, true, true, true, true, true, true, true, false, false, false, false, false, false] rfl rfl (by kernel_rfl) (fun _ _ _ h => h) (Or.inl ⟨by rfl, ?_⟩) ?_ ?_
      rotate_left
      ·intro w'
       go_simp
       with_reducible rfl
      rotate_left
      ·simp only [Act.put, List.setIfInBounds_toArray, List.set_cons_zero, List.set_cons_succ, i64_w, i32_w]
       rfl
      refine pure_ (i := 10) (N := some 93) (v := ?_) (a' := ?_) #[true, true, true, true, true, true, true, true, true, true, true, false, false, false, false, false] rfl rfl (by kernel_rfl) (fun _ _ _ h => h) (Or.inl ⟨by rfl, ?_⟩) ?_ ?_
      rotate_left
      ·intro w'
       go_simp
       with_reducible rfl
      rotate_left
      ·simp only [Act.put, List.setIfInBounds_toArray, List.set_cons_zero, List.set_cons_succ, i64_w, i32_w]
       rfl
      refine take_ (i := 11) (N := some 94) (v := ?_) (a' := ?_) #[true, true, true, true, true, true, true, true, true, true, true, true, false, false, false, false] rfl rfl (by kernel_rfl) (fun _ _ _ h => h) (Or.inl ⟨by rfl, ?_⟩) hHeld ?_ ?_
      rotate_left
      ·rintro w' ⟨s0, s1, s2, s3, s4, s5, s6, s7, s8, s9, s10, s11, s12, s13, s14, s15⟩
       go_simp
       with_reducible rfl
      rotate_left
      ·simp only [Act.put, List.setIfInBounds_toArray, List.set_cons_zero, List.set_cons_succ, i64_w, i32_w]
       rfl
      refine pure_ (i := 12) (N := some 95) (v := ?_) (a' := ?_) #[true, true, true, true, true, true, true, true, true, true, true, true, true, false, false, false] rfl rfl (by kernel_rfl) (fun _ _ _ h => h) (Or.inl ⟨by rfl, ?_⟩) ?_ ?_
      rotate_left
      ·intro w'
       go_simp
       with_reducible rfl
      rotate_left
      ·simp only [Act.put, List.setIfInBounds_toArray, List.set_cons_zero, List.set_cons_succ, i64_w, i32_w]
       rfl
      refine last_ (i := 13) (N := none) #[true, true, true, true, true, true, true, true, true, true, true, true, true, true, false, false] rfl rfl (by kernel_rfl) (by decide) (fun K hK => ?_)
      refine skip_ (w1 := wq.setCells g (n.toNat * 8) (memL y (.slice Ay y.f4.length cy))) (by rfl) rfl ?_ ?_
      rotate_left
      ·refine hK.out _ _ ?_
       clear hK K
       obtain ⟨HP1, HG1⟩ := put1
       have hr2 := mem_elem HP1 k.toNat (by rw [List.length_set]; omega) (by rw [List.length_set]; exact HXL.out.symm)
       obtain ⟨_, _, f2, r2, _, _, _⟩ := hr2
       generalize hw2 : wq.setCells g (n.toNat * 8) (memL y (.slice Ay y.f4.length cy)) = w2 at HP1 HG1 r2 f2 ⊢
       obtain ⟨z0, z1, z2, z3, z4, z5, z6, z7⟩ := memL_facts f2
       have r20 := r2 0
       rw [Nat.add_zero] at r20
       have HP1 := Aside0.mk HP1
       have HG1 := Aside0.mk HG1
       clear hw2
       refine pure_ (i := 14) (N := some 96) (v := ?_) (a' := ?_) #[true, true, true, true, true, true, true, true, true, true, true, true, true, true, true, false] rfl rfl (by kernel_rfl) (fun _ _ _ h => h) (Or.inl ⟨by rfl, ?_⟩) ?_ ?_
       rotate_left
       ·intro w'
        go_simp
        with_reducible rfl
       rotate_left
       ·simp only [Act.put, List.setIfInBounds_toArray, List.set_cons_zero, List.set_cons_succ, i64_w, i32_w]
        rfl
       refine last_ (i := 15) (N := none) #[true, true, true, true, true, true, true, true, true, true, true, true, true, true, true, true] rfl rfl (by kernel_rfl) (by decide) (fun K hK => ?_)
       refine skip_ (w1 := w2.setCells g (k.toNat * 8) (memL x (.slice Ax x.f4.length cx))) (by rfl) rfl ?_ ?_
       rotate_left
       ·refine hK.out _ _ ?_
        clear hK K
        refine done_ (by kernel_rfl) ?_
        have hput2 := N_putM HP1.out k.toNat (by rw [List.length_set]; omega) (by rw [List.length_set]; exact HXL.out.symm) (x := x) (v := .slice Ax x.f4.length cx) (Kd.FK_grown (Kd.FK_below KX.out HQ0.out) HG1.out (fun q hq e => by cases e; exact hq.2 rfl))
        have hgs := HG1.out.size
        have hgs2 := hput2.2.size
        have hfin : ORel3 l W M (.slice (some ⟨g, 0, none⟩) l.length c4) (n + 1) (w2.setCells g (k.toNat * 8) (memL x (.slice Ax x.f4.length cx))) :=
         ⟨by omega, by omega, _, HSW.out.trans HPM.out, hput2.1, HNQ.out.2.1.grown (HG1.out.trans hput2.2) HNQ.out.2.1.size (fun q hq => by cases hq; exact hg0), by have := HNQ.out.2.2; omega⟩
        have HFIN := Aside0.mk hfin
        clear hfin hput2 hHeld
        generalize w2.setCells g (k.toNat * 8) (memL x (.slice Ax x.f4.length cx)) = w3 at HFIN ⊢
        go_wp2
        go_roundw
        case rel => exact ⟨n + 1, by go_num, HFIN⟩
        case measure => simp [intOf]; omega
       ·go_simp
        rfl
      ·go_simp
       rfl
     all_goals
      have hxl : xs.length = l.length := hperm.length_eq
      obtain ⟨hw0, hAc, hCm⟩ := Kd.N_reads' hrow3.1
      rw [hxl] at hCm
      obtain ⟨hE1, hE2, hs, hl4⟩ := HP.out xs hperm
      have hsame : sameB (foldF l).1 (foldF l).1 = true := sameB_refl _
      obtain ⟨ks, hks⟩ := Ev.rounds (sameTree_eq (foldF l).1 (foldF l).1 (by omega))
      rw [hsame] at hks
      have HKS := Aside0.mk hks
      have HL4 := Aside0.mk hl4
      have HB3 := Aside0.mk hrow3.2.1
      have HFL := Aside0.mk (fun (w1 : World) (hb : Below W.heap.size W w1) => OFold A0 c0 l l w1 (HT.out w1 hb).out (List.Perm.refl _) (Kd.C_below HC.out hb) HL.out.z hE1 rfl hl4)
      have HFM := Aside0.mk (fun (w1 : World) (hb : Below wr.heap.size wr w1) => OFold A4 c4 l xs w1 (HT.out w1 (HB3.out.trans (hb.mono HB3.out.size))).out hperm (Kd.C_below hCm hb) HL.out.z hE2 hs hl4)
      clear hw0 hxl hAc hCm hE1 hE2 hs hl4 hks hsame hrow3 hperm
     ·have c3b : decide (n < (l.length : Int)) = true := decide_eq_true h1
      have c4b : decide (n < (u.length : Int)) = false := decide_eq_false h2
      go_upto_region 20 with (first
       | (go_at_call 10; refine (HFL.out _ HB3.out).mono ?_; rintro e w5 ⟨A5, c5, z5, rfl, hC5, hc5, hB5⟩; have HC5 := Aside0.mk hC5; have HCL5 := Aside0.mk hc5; have HB5 := Aside0.mk hB5; clear hC5 hc5 hB5)
       | fail)
      have f6 : ∃ w6 b5, w6 = w5.alloc (Obj.cells #[Value.int IntKind.i64 0, Value.int IntKind.i64 z5] 34) ∧ b5 = w5.heap.size ∧ Below wr.heap.size wr w6 ∧ w6.cell? ⟨b5, 0, none⟩ = some (.int .i64 0) ∧ Kd.C k38 w6 A5 l.length (foldF l).1 ∧ b5 < w6.heap.size :=
       ⟨_, _, rfl, rfl, below_alloc HB5.out _, by unfold World.cell?; dsimp only; rw [blk_new]; rfl, Kd.C_alloc HC5.out _, by rw [World.size_alloc]; omega⟩
      obtain ⟨w6, b5, e6, e5, hB6, hx6, hC6, hl6⟩ := f6
      rw [← e6, ← e5]
      have HB6 := Aside0.mk hB6
      have HX6 := Aside0.mk hx6
      have HC6 := Aside0.mk hC6
      have HBL6 := Aside0.mk hl6
      clear e6 e5 hB6 hx6 hC6 hl6 HC5 HB5
      go_upto_region 21 with (first
       | (go_at_call 10; refine (HFM.out _ HB6.out).mono ?_; rintro e w7 ⟨A7, c7, z7, rfl, hC7, hc7, hB7⟩; have HC7 := Aside0.mk hC7; have HCL7 := Aside0.mk hc7; have HB7 := Aside0.mk hB7; clear hC7 hc7 hB7)
       | fail)
      have f8 : ∃ w8 b7, w8 = w7.alloc (Obj.cells #[Value.int IntKind.i64 0, Value.int IntKind.i64 z7] 34) ∧ b7 = w7.heap.size ∧ Below W.heap.size W w8 ∧ w8.cell? ⟨b5, 0, none⟩ = some (.int .i64 0) ∧ w8.cell? ⟨b7, 0, none⟩ = some (.int .i64 0) ∧ Kd.C k38 w8 A5 l.length (foldF l).1 ∧ Kd.C k38 w8 A7 l.length (foldF l).1 ∧ b5 < w8.heap.size ∧ b7 < w8.heap.size :=
       ⟨_, _, rfl, rfl, below_alloc (HB3.out.trans ((HB6.out.mono HB3.out.size).trans (HB7.out.mono (Nat.le_trans HB3.out.size HB6.out.size)))) _, (by have h := (below_alloc HB7.out (Obj.cells #[Value.int IntKind.i64 0, Value.int IntKind.i64 z7] 34)).cell (p := ⟨b5, 0, none⟩) HBL6.out; exact h.trans HX6.out), by unfold World.cell?; dsimp only; rw [blk_new]; rfl, Kd.C_alloc (Kd.C_below HC6.out HB7.out) _, Kd.C_alloc HC7.out _, by have := HB7.out.size; have := HBL6.out; rw [World.size_alloc]; omega, by rw [World.size_alloc]; omega⟩
      obtain ⟨w8, b7, e8, e7, hB8, hx8, hy8, hC8, hD8, hl8, hm8⟩ := f8
      rw [← e8, ← e7]
      have HB8 := Aside0.mk hB8
      have HX8 := Aside0.mk hx8
      have HY8 := Aside0.mk hy8
      have HC8 := Aside0.mk hC8
      have HD8 := Aside0.mk hD8
      have HL8 := Aside0.mk hl8
      have HM8 := Aside0.mk hm8
      clear e8 e7 hB8 hx8 hy8 hC8 hD8 hl8 hm8 HC7 HB7 HB6 HX6 HC6 HBL6
      go_wp2_with (first
       | (go_at_call 9; refine (bindlelaw10_answers.calls true _ (HT.out _ HB8.out) rfl).mono ?_; rintro e w9 ⟨rfl, hbe⟩; have hx9 := (hbe.cell (p := ⟨b5, 0, none⟩) HL8.out).trans HX8.out; have hy9 := (hbe.cell (p := ⟨b7, 0, none⟩) HM8.out).trans HY8.out; have HBE := Aside0.mk hbe; clear hbe)
       | (go_at_call 13; have hsm := bindleref08_SameTree.calls ks A5 c5 (foldF l).1 A7 c7 (foldF l).1 true _ (by rw [HL4.out]; exact Kd.C_below HC8.out HBE.out) (by rw [HL4.out]; exact HCL5.out) (by rw [HL4.out]; exact Kd.C_below HD8.out HBE.out) (by rw [HL4.out]; exact HCL7.out) HKS.out; rw [HL4.out] at hsm; refine hsm.mono ?_; clear hsm; rintro e w10 ⟨rfl, hbs⟩; have HBS := Aside0.mk hbs; clear hbs)
       | fail)
      have hB9 := HB8.out.trans (HBE.out.mono HB8.out.size)
      rw [← hQ.out]
      exact ⟨rfl, hB9.trans (HBS.out.mono hB9.size)⟩
     ·have c3b : decide (n < (l.length : Int)) = false := decide_eq_false h1
      go_upto_region 20 with (first
       | (go_at_call 10; refine (HFL.out _ HB3.out).mono ?_; rintro e w5 ⟨A5, c5, z5, rfl, hC5, hc5, hB5⟩; have HC5 := Aside0.mk hC5; have HCL5 := Aside0.mk hc5; have HB5 := Aside0.mk hB5; clear hC5 hc5 hB5)
       | fail)
      have f6 : ∃ w6 b5, w6 = w5.alloc (Obj.cells #[Value.int IntKind.i64 0, Value.int IntKind.i64 z5] 34) ∧ b5 = w5.heap.size ∧ Below wr.heap.size wr w6 ∧ w6.cell? ⟨b5, 0, none⟩ = some (.int .i64 0) ∧ Kd.C k38 w6 A5 l.length (foldF l).1 ∧ b5 < w6.heap.size :=
       ⟨_, _, rfl, rfl, below_alloc HB5.out _, by unfold World.cell?; dsimp only; rw [blk_new]; rfl, Kd.C_alloc HC5.out _, by rw [World.size_alloc]; omega⟩
      obtain ⟨w6, b5, e6, e5, hB6, hx6, hC6, hl6⟩ := f6
      rw [← e6, ← e5]
      have HB6 := Aside0.mk hB6
      have HX6 := Aside0.mk hx6
      have HC6 := Aside0.mk hC6
      have HBL6 := Aside0.mk hl6
      clear e6 e5 hB6 hx6 hC6 hl6 HC5 HB5
      go_upto_region 21 with (first
       | (go_at_call 10; refine (HFM.out _ HB6.out).mono ?_; rintro e w7 ⟨A7, c7, z7, rfl, hC7, hc7, hB7⟩; have HC7 := Aside0.mk hC7; have HCL7 := Aside0.mk hc7; have HB7 := Aside0.mk hB7; clear hC7 hc7 hB7)
       | fail)
      have f8 : ∃ w8 b7, w8 = w7.alloc (Obj.cells #[Value.int IntKind.i64 0, Value.int IntKind.i64 z7] 34) ∧ b7 = w7.heap.size ∧ Below W.heap.size W w8 ∧ w8.cell? ⟨b5, 0, none⟩ = some (.int .i64 0) ∧ w8.cell? ⟨b7, 0, none⟩ = some (.int .i64 0) ∧ Kd.C k38 w8 A5 l.length (foldF l).1 ∧ Kd.C k38 w8 A7 l.length (foldF l).1 ∧ b5 < w8.heap.size ∧ b7 < w8.heap.size :=
       ⟨_, _, rfl, rfl, below_alloc (HB3.out.trans ((HB6.out.mono HB3.out.size).trans (HB7.out.mono (Nat.le_trans HB3.out.size HB6.out.size)))) _, (by have h := (below_alloc HB7.out (Obj.cells #[Value.int IntKind.i64 0, Value.int IntKind.i64 z7] 34)).cell (p := ⟨b5, 0, none⟩) HBL6.out; exact h.trans HX6.out), by unfold World.cell?; dsimp only; rw [blk_new]; rfl, Kd.C_alloc (Kd.C_below HC6.out HB7.out) _, Kd.C_alloc HC7.out _, by have := HB7.out.size; have := HBL6.out; rw [World.size_alloc]; omega, by rw [World.size_alloc]; omega⟩
      obtain ⟨w8, b7, e8, e7, hB8, hx8, hy8, hC8, hD8, hl8, hm8⟩ := f8
      rw [← e8, ← e7]
      have HB8 := Aside0.mk hB8
      have HX8 := Aside0.mk hx8
      have HY8 := Aside0.mk hy8
      have HC8 := Aside0.mk hC8
      have HD8 := Aside0.mk hD8
      have HL8 := Aside0.mk hl8
      have HM8 := Aside0.mk hm8
      clear e8 e7 hB8 hx8 hy8 hC8 hD8 hl8 hm8 HC7 HB7 HB6 HX6 HC6 HBL6
      go_wp2_with (first
       | (go_at_call 9; refine (bindlelaw10_answers.calls true _ (HT.out _ HB8.out) rfl).mono ?_; rintro e w9 ⟨rfl, hbe⟩; have hx9 := (hbe.cell (p := ⟨b5, 0, none⟩) HL8.out).trans HX8.out; have hy9 := (hbe.cell (p := ⟨b7, 0, none⟩) HM8.out).trans HY8.out; have HBE := Aside0.mk hbe; clear hbe)
       | (go_at_call 13; have hsm := bindleref08_SameTree.calls ks A5 c5 (foldF l).1 A7 c7 (foldF l).1 true _ (by rw [HL4.out]; exact Kd.C_below HC8.out HBE.out) (by rw [HL4.out]; exact HCL5.out) (by rw [HL4.out]; exact Kd.C_below HD8.out HBE.out) (by rw [HL4.out]; exact HCL7.out) HKS.out; rw [HL4.out] at hsm; refine hsm.mono ?_; clear hsm; rintro e w10 ⟨rfl, hbs⟩; have HBS := Aside0.mk hbs; clear hbs)
       | fail)
      have hB9 := HB8.out.trans (HBE.out.mono HB8.out.size)
      rw [← hQ.out]
      exact ⟨rfl, hB9.trans (HBS.out.mono hB9.size)⟩
end Go.Proofs.YtiijbmaamblidaaDoor

namespace Go.Proofs.YtiijbmaamblidaaDoor.Print
open Go.RowKit Go.Proofs.YtiijbmaamblidaaDoor Go.Proofs.YtiijbmaamblidaaDoorW.PrintWords Go.Proofs.YtiijbmaamblidaaDoorW.PrintLast Go.Proofs.YtiijbmaamblidaaDoorW.PrintMore
def OrdCond (l : List Mem) (u : List Int) : Prop := (∀ x ∈ l, MemR x) ∧ l.length ≤ 140737488351232 ∧ (∀ x ∈ u, 0 ≤ x ∧ x ≤ 255) ∧ u.length ≤ 140737488351232
open Classical in
noncomputable def bindlelaw10_TreeOrder.f (_k : Nat) (l0 : List S27) (l1 : List Int) : Option Bool := if OrdCond l0 l1 then some true else none
theorem bindlelaw10_TreeOrder.calls (k : Nat) (A0 : Option Addr) (c0 : Nat) (l0 : List S27) (A1 : Option Addr) (c1 : Nat) (l1 : List Int) (r : Bool) (w : World) (hT : Aside0 (Tabs w)) (hr0 : Kd.C k27 w A0 l0.length l0) (hc0 : l0.length ≤ c0) (hr1 : Kd.C (Kd.int .u8) w A1 l1.length l1) (_hc1 : l1.length ≤ c1) (h : bindlelaw10_TreeOrder.f k l0 l1 = some r) :
  Calls Tryd.prog 4 #[.slice A0 l0.length c0, .slice A1 l1.length c1] w fun e w' => e = .returned (.bool r) ∧ Below w.heap.size w w' := by
 unfold bindlelaw10_TreeOrder.f at h
 split at h
 ·rename_i hc
  obtain rfl := Option.some.inj h
  exact TreeOrder_calls A0 c0 l0 A1 c1 l1 w hT.out hr0 hc0 hc.2.1 hc.1 hr1 hc.2.2.2 hc.2.2.1
 ·cases h
theorem bindlelaw10_TreeOrder.true_of (l : List S27) (u : List Int) (h1 : ∀ x ∈ l, MemR x) (h2 : l.length ≤ 140737488351232) (h3 : ∀ x ∈ u, 0 ≤ x ∧ x ≤ 255) (h4 : u.length ≤ 140737488351232) : Ev (fun k => bindlelaw10_TreeOrder.f k l u) true :=
 Ev.congr (fun _ => if_pos ⟨h1, h2, h3, h4⟩) (Ev.now true)
end Go.Proofs.YtiijbmaamblidaaDoor.Print

namespace Go.Proofs.YtiijbmaamblidaaDoor
open Go.RowKit Go.Lib Go.Proofs.YtiijbmaamblidaaDoorW.PrintWords
theorem laidOut : laidOutB Tryd.prog = true := by kernel_rfl
end Go.Proofs.YtiijbmaamblidaaDoor

namespace Go.Proofs.YtiijbmaamblidaaDoor
open Go.ChangeShapes Go.WideShapes Go.RowKit Go.Proofs.YtiijbmaamblidaaDoorW.PrintWords
structure Opens {α : Type} (P : Program) (d : Kd α) (t : TypeId) (B : α → Prop) : Prop where
 sz : P.cellsOf t = d.sz
 get : ∀ {H : Type} {enc : TypeId × Value → H} {W : World} {fuel : Nat} {cs : List Value} {x : DataW H × List MemPlace},
  DataW.trod enc P W 0 (fun _ => true) true fuel t cs = some x → (∀ n ∈ x.1.weights P t, n ≤ reachBytes) → ∃ a, d.K W a cs ∧ B a
theorem Opens.int {P : Program} {t : TypeId} {k : IntKind} (ht : P.underlying t = some (.int k)) (hc : P.cellsOf t = 1) : Opens P (Kd.int k) t (fun n => (Lit.int k n).wf = true) :=
 ⟨hc, fun h _ => by
  obtain ⟨n, rfl, rfl, hw⟩ := DataW.trod_int ht h
  exact ⟨n, rfl, hw⟩⟩
theorem Opens.bool {P : Program} {t : TypeId} (ht : P.underlying t = some .bool) (hc : P.cellsOf t = 1) : Opens P Kd.bool t (fun _ => True) :=
 ⟨hc, fun h _ => by
  obtain ⟨n, rfl, rfl⟩ := DataW.trod_bool ht h
  exact ⟨n, rfl, trivial⟩⟩
theorem Opens.string {P : Program} {t : TypeId} (ht : P.underlying t = some .string) (hc : P.cellsOf t = 1) : Opens P Kd.string t (fun s => s.size ≤ 140737488351232) :=
 ⟨hc, fun h hw => by
  obtain ⟨s, rfl, rfl, _⟩ := DataW.trod_string ht h
  refine ⟨s, rfl, ?_⟩
  have := hw s.data.toList.length (by simp [DataW.weights])
  have e : s.data.toList.length = s.size := by simp
  rw [e] at this
  exact this⟩
theorem each_list {α : Type} {Q : Nat → α → Prop} : ∀ n : Nat, (∀ i, i < n → ∃ x, Q i x) → ∃ xs : List α, xs.length = n ∧ ∀ i x, xs[i]? = some x → Q i x := by
 intro n
 induction n with
 | zero => exact fun _ => ⟨[], rfl, fun i x h => by simp at h⟩
 | succ n ih =>
  intro h
  obtain ⟨xs, hl, hx⟩ := ih (fun i hi => h i (by omega))
  obtain ⟨y, hy⟩ := h n (by omega)
  refine ⟨xs ++ [y], by simp [hl], fun i x hi => ?_⟩
  rcases Nat.lt_or_ge i n with h1 | h1
  ·rw [List.getElem?_append_left (by omega)] at hi
   exact hx i x hi
  ·rw [List.getElem?_append_right (by omega)] at hi
   have h0 : i - xs.length = 0 := by
    have := (List.getElem?_eq_some_iff.1 hi).1
    simp at this
    omega
   rw [h0] at hi
   simp at hi
   subst hi
   obtain rfl : i = n := by omega
   exact hy
theorem weights_all {H : Type} {P : Program} {e : TypeId} : ∀ {l : List (DataW H)} {y : DataW H}, y ∈ l → ∀ n ∈ y.weights P e, n ∈ DataW.weightsAll P e l
 | z :: r, y, hy, n, hn => by
  simp only [DataW.weightsAll, List.mem_append]
  rcases List.mem_cons.1 hy with rfl | hy
  ·exact .inl hn
  ·exact .inr (weights_all hy n hn)
theorem add_add (a : Addr) (x y : Nat) : (a.add x).add y = a.add (x + y) := by
 unfold Addr.add
 split
 ·rename_i h
  subst h
  simp
 ·rename_i h
  split
  ·rename_i h2
   subst h2
   simp [h]
  ·rw [if_neg (by omega)]
   simp [Nat.add_assoc]
theorem Opens.slice {α : Type} {P : Program} {d : Kd α} {B : α → Prop} {t e : TypeId} (ht : P.underlying t = some (.slice e)) (hc : P.cellsOf t = 1) (h : Opens P d e B) :
  Opens P (Kd.slice e d) t (fun xs => xs.length * P.bytesOf e ≤ 140737488351232 ∧ ∀ x ∈ xs, B x) :=
 ⟨hc, fun {H enc W fuel cs x} hf hw => by
  rcases DataW.trod_slice ht hf with ⟨rfl, rfl⟩ | ⟨a, len, cap, elems, rest, n, _, rfl, rfl, hb, hl, hm, hlen, hel, hsp, hns⟩
  ·exact ⟨[], ⟨none, 0, rfl, Nat.le_refl _, Kd.C_nil d W⟩, by simp, fun x hx => by cases hx⟩
  ·simp only [DataW.weights, ht] at hw
   have each : ∀ i, i < len → ∃ z : α, B z ∧ ∃ c, c.length = d.sz ∧ d.K W z c ∧ ∀ j u, c[j]? = some u → W.cell? (a.add (i * d.sz + j)) = some u := by
    intro i hi
    have h1 := hel i hi
    have hi' : i < elems.length := by omega
    rw [List.getElem?_eq_getElem hi', Option.bind_eq_some_iff] at h1
    obtain ⟨c, hcs, hy⟩ := h1
    obtain ⟨-, h2, h3⟩ := World.cells?_some hcs
    obtain ⟨z, hz, hB⟩ := h.get hy (fun n hn => hw n (by
     simp only [List.mem_cons, List.mem_append]
     exact .inr (.inl (weights_all (List.mem_map.2 ⟨_, List.getElem_mem hi', rfl⟩) n hn))))
    refine ⟨z, hB, c, by rw [h2, h.sz], hz, fun j u hj => ?_⟩
    have hj' : j < P.cellsOf e := by
     have := (List.getElem?_eq_some_iff.1 hj).1
     omega
    have h4 := h3 j hj'
    rw [add_add, h.sz] at h4
    rw [h4, hj]
   obtain ⟨xs, hxl, hxs⟩ := each_list len each
   subst hxl
   have hz := hw _ (List.mem_cons_self ..)
   simp only [List.length_map] at hz
   have h5 : xs.length * P.bytesOf e ≤ (elems.length + rest.length) * P.bytesOf e := Nat.mul_le_mul_right _ (by omega)
   have h6 : reachBytes = 140737488351232 := rfl
   refine ⟨xs, ⟨some a, cap, rfl, hl, rfl, ?_, fun _ => ⟨a, rfl, fun j p hj => (hxs j p hj).2⟩⟩, by omega, fun x hx => ?_⟩
   ·have : maxLen = 9223372036854775807 := rfl
    omega
   ·obtain ⟨i, hi⟩ := List.getElem?_of_mem hx
    exact (hxs i x hi).1⟩
structure OpensF {α : Type} (P : Program) (d : Kd α) (fs : List Field) (o : Nat) (B : α → Prop) : Prop where
 get : ∀ {H : Type} {enc : TypeId × Value → H} {W : World} {n : Nat} {cs : List Value} {xs : List (DataW H × List MemPlace)}, xs.length = fs.length →
  (∀ (i : Nat) (f : Field), fs[i]? = some f → DataW.trod enc P W 0 (fun _ => true) true n f.type ((cs.drop f.offset).take (P.cellsOf f.type)) = xs[i]?) →
  (∀ m ∈ DataW.weightsEach P (fs.map (·.type)) (xs.map (·.1)), m ≤ reachBytes) → ∃ a, d.K W a ((cs.drop o).take d.sz) ∧ B a
theorem OpensF.one {α : Type} {P : Program} {d : Kd α} {B : α → Prop} {f : Field} {o : Nat} (ho : f.offset = o) (h : Opens P d f.type B) : OpensF P d [f] o B := by
 refine ⟨fun {H enc W n cs xs} hl hx hw => ?_⟩
 match xs, hl with
 | [x], _ =>
  have h0 := hx 0 f rfl
  rw [h.sz, ho] at h0
  simp only [List.getElem?_cons_zero] at h0
  exact h.get h0 (fun m hm => hw m (by simp only [List.map_cons, List.map_nil, DataW.weightsEach, List.mem_append]; exact .inl hm))
theorem OpensF.cons {α β : Type} {P : Program} {d : Kd α} {d' : Kd β} {B : α → Prop} {B' : β → Prop} {f : Field} {fs : List Field} {o : Nat} (ho : f.offset = o) (h : Opens P d f.type B) (h' : OpensF P d' fs (o + d.sz) B') :
  OpensF P (Kd.pair d d') (f :: fs) o (fun x => B x.1 ∧ B' x.2) := by
 refine ⟨fun {H enc W n cs xs} hl hx hw => ?_⟩
 match xs, hl with
 | x :: xs, hl =>
  have h0 := hx 0 f rfl
  rw [h.sz, ho] at h0
  simp only [List.getElem?_cons_zero] at h0
  obtain ⟨a, ha, hB⟩ := h.get h0 (fun m hm => hw m (by simp only [List.map_cons, DataW.weightsEach, List.mem_append]; exact .inl hm))
  obtain ⟨b, hb, hB'⟩ := h'.get (enc := enc) (W := W) (n := n) (cs := cs) (xs := xs) (by simpa using hl) (fun i g hg => by have := hx (i + 1) g (by simpa using hg); simpa using this)
   (fun m hm => hw m (by simp only [List.map_cons, DataW.weightsEach, List.mem_append]; exact .inr hm))
  refine ⟨(a, b), ⟨_, _, ?_, ha, hb⟩, hB, hB'⟩
  show (cs.drop o).take (d.sz + d'.sz) = _
  rw [List.take_add, List.drop_drop]
theorem Opens.struct {α β : Type} {P : Program} {d : Kd α} {B : α → Prop} {t : TypeId} {fs : Array Field} (ht : P.underlying t = some (.struct fs)) (hc : P.cellsOf t = d.sz) (h : OpensF P d fs.toList 0 B) (f : β → α) (g : α → β) (hg : ∀ a, f (g a) = a) :
  Opens P (Kd.iso d f) t (fun x => B (f x)) :=
 ⟨hc, fun {H enc W fuel cs x} hf hw => by
  obtain ⟨xs, n, _, rfl, hl, hlen, hx⟩ := DataW.trod_struct ht hf
  simp only [DataW.weights, ht] at hw
  obtain ⟨a, ha, hB⟩ := h.get (enc := enc) (W := W) (n := n) (cs := cs) (xs := xs) (by simpa using hlen) (fun i g hg => hx i g (by simpa using hg)) hw
  refine ⟨g a, ?_, by rw [hg]; exact hB⟩
  show d.K W (f (g a)) cs
  rw [hg]
  rw [List.drop_zero, List.take_of_length_le (by omega)] at ha
  exact ha⟩
theorem Opens.imp {α : Type} {P : Program} {d : Kd α} {t : TypeId} {B B' : α → Prop} (h : Opens P d t B) (hB : ∀ a, B a → B' a) : Opens P d t B' :=
 ⟨h.sz, fun hf hw => by obtain ⟨a, ha, hb⟩ := h.get hf hw; exact ⟨a, ha, hB a hb⟩⟩
theorem Opens.param {α : Type} {P : Program} {d : Kd α} {t : TypeId} {B : α → Prop} (h : Opens P d t B) {H : Type} {enc : TypeId × Value → H} {W : World} {v : Value} {x : DataW H} {p : List MemPlace} {ts : List TypeId} {ds : List (DataW H)} {j : Nat}
  (hsz : (DataW.weightsEach P ts ds).all (· ≤ reachBytes) = true) (hj : ts[j]? = some t) (hd : ds[j]? = some x) (ht : DataW.Trod enc P W 0 (fun _ => true) true t v x p) : ∃ a, d.K W a v.cells.toList ∧ B a := by
 obtain ⟨fuel, hf⟩ := ht
 exact h.get hf (fun n hn => by simpa using List.all_eq_true.1 hsz _ (DataW.weights_mem_each hj hd n hn))
theorem Opens.row {α : Type} {P : Program} {d : Kd α} {t e : TypeId} {B : List α → Prop} (h : Opens P (Kd.slice e d) t B) {H : Type} {enc : TypeId × Value → H} {W : World} {A : Option Addr} {n c : Nat} {x : DataW H} {p : List MemPlace} {ts : List TypeId} {ds : List (DataW H)} {j : Nat}
  (hsz : (DataW.weightsEach P ts ds).all (· ≤ reachBytes) = true) (hj : ts[j]? = some t) (hd : ds[j]? = some x) (ht : DataW.Trod enc P W 0 (fun _ => true) true t (.slice A n c) x p) :
  ∃ xs : List α, xs.length = n ∧ d.C W A n xs ∧ n ≤ c ∧ B xs := by
 obtain ⟨xs, ⟨A', c', he, hl, hC⟩, hB⟩ := h.param hsz hj hd ht
 simp [Value.cells] at he
 obtain ⟨rfl, rfl, rfl⟩ := he
 exact ⟨xs, rfl, hC, hl, hB⟩
end Go.Proofs.YtiijbmaamblidaaDoor

namespace Go.Proofs.YtiijbmaamblidaaDoor
open Go.RowKit Go.Proofs.YtiijbmaamblidaaDoor.Print Go.Proofs.YtiijbmaamblidaaDoorW.PrintWords
theorem o_str : Opens Tryd.prog Kd.string 9 (fun s => s.size ≤ 140737488351232) := Opens.string Tryd.underlying9 (by kernel_rfl)
theorem o_u8 : Opens Tryd.prog (Kd.int .u8) 5 (fun n => (Lit.int .u8 n).wf = true) := Opens.int Tryd.underlying5 (by kernel_rfl)
theorem o_int : Opens Tryd.prog (Kd.int .i64) 3 (fun n => (Lit.int .i64 n).wf = true) := Opens.int Tryd.underlying3 (by kernel_rfl)
theorem o_bytes : Opens Tryd.prog (Kd.slice 5 (Kd.int .u8)) 25 (fun xs => xs.length ≤ 140737488351232) :=
 (Opens.slice Tryd.underlying25 (by kernel_rfl) o_u8).imp (fun xs h => by
  have hb : Tryd.prog.bytesOf 5 = 1 := by kernel_rfl
  have h1 := h.1
  rw [hb] at h1
  omega)
theorem o_meta : Opens Tryd.prog k24 24 (fun _ => True) := by
 have h := Opens.struct Tryd.underlying24 (by kernel_rfl) (OpensF.cons rfl o_int (OpensF.cons rfl o_int (OpensF.cons rfl o_int (OpensF.one rfl o_int)))) (fun x : S24 => (x.f0, x.f1, x.f2, x.f3)) (fun p => ⟨p.1, p.2.1, p.2.2.1, p.2.2.2⟩) (fun _ => rfl)
 exact Opens.imp h (fun _ _ => trivial)
theorem o_mem : Opens Tryd.prog k27 27 MemR := by
 have h := Opens.struct Tryd.underlying27 (by kernel_rfl) (OpensF.cons rfl o_str (OpensF.cons rfl o_str (OpensF.cons rfl o_u8 (OpensF.cons rfl o_meta (OpensF.one rfl o_bytes))))) (fun x : S27 => (x.f0, x.f1, x.f2, x.f3, x.f4)) (fun p => ⟨p.1, p.2.1, p.2.2.1, p.2.2.2.1, p.2.2.2.2⟩) (fun _ => rfl)
 exact Opens.imp h (fun _ hx => ⟨hx.1, hx.2.1, hx.2.2.2.2⟩)
theorem o_mems : Opens Tryd.prog (Kd.slice 27 k27) 22 (fun xs => (∀ x ∈ xs, MemR x) ∧ xs.length ≤ 140737488351232) :=
 (Opens.slice Tryd.underlying22 (by kernel_rfl) o_mem).imp (fun xs h => ⟨h.2, by
  have hb : Tryd.prog.bytesOf 27 = 96 := by kernel_rfl
  have h1 := h.1
  rw [hb] at h1
  omega⟩)
theorem u8_range {n : Int} (h : (Lit.int .u8 n).wf = true) : 0 ≤ n ∧ n ≤ 255 := by
 simp [Lit.wf, IntKind.min, IntKind.max, IntKind.bits, IntKind.signed] at h
 omega
theorem o_turns : Opens Tryd.prog (Kd.slice 5 (Kd.int .u8)) 25 (fun xs => (∀ x ∈ xs, 0 ≤ x ∧ x ≤ 255) ∧ xs.length ≤ 140737488351232) :=
 (Opens.slice Tryd.underlying25 (by kernel_rfl) o_u8).imp (fun xs h => ⟨fun x hx => u8_range (h.2 x hx), by
  have hb : Tryd.prog.bytesOf 5 = 1 := by kernel_rfl
  have h1 := h.1
  rw [hb] at h1
  omega⟩)
end Go.Proofs.YtiijbmaamblidaaDoor
