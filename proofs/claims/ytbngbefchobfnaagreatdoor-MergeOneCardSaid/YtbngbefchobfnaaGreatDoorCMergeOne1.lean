/-
  Part of the proof that MergeOne answers true: texts put together (wip/bundle.py).
-/
import Derived.Shelf.Strings.Builder1
import Derived.Shelf.Strings.Builder2
import Derived.Shelf.Strings.OnBuilder
import Derived.Shelf.Small.Bits
import Derived.Shelf.Small.Strs
import Derived.Shelf.Strconv.Itoa0
import Derived.Shelf.Strings.Search1
import Derived.Shelf.Strings.Search2
import Derived.Shelf.Strings.Search3
import Derived.Shelf.LaysM
import Derived.Shelf.Strings.Shaped
import Derived.Shelf.Strings.Prefix
import Derived.Shelf.Unicode.DecodeSlow
import Derived.Shelf.Unicode.DecodeAny
import Derived.Ground.SlgmProg
import Derived.Shelf.SortM.Plain
import Derived.Shelf.SortM.SortNone
import Derived.Shelf.Bytes.SlEqualAll
import Derived.Shelf.Bytes.Small
import Derived.Test.YtbngbefchobfnaaGreatDoorProg
import Derived.Shelf.Unicode.ValidAny
import Derived.Lib.Bytealg
import Derived.Lib.ValidU
import Derived.WalkKit
import Derived.WalkMore
import Derived.Below
import Derived.KernelRfl
import Derived.Test.YtbngbefchobfnaaGreatDoorRows
import Derived.Lib.LaidU8
import Derived.Lib.LaidIn
import Derived.ChangeArms
import Derived.Deep.Draws
import Derived.Deep.AppendLies
import Derived.Maps.AppendAt
import Derived.OwnWalk
import Derived.Laws.BytesArg
import Derived.Laws.MakeOwn
import Derived.Laws.OwnMore
import Derived.Deep.OwnRows
import Derived.Tactics
import Derived.Lib.ConvBytes
import Derived.Laws.Slices
import Derived.RowKit3
import Derived.Deep.LoopGhost
import Derived.Deep.QuietTactic
import Derived.BigQuiet
import Derived.WideLaws
import Derived.Deep.DeepCutAuto
import Derived.Deep.CutBlock
import Derived.Deep.RegionHeld3
import Derived.Laws.Rows
import Derived.Lib.AppendStr
import Derived.ArgAppend
import Derived.Laws.IdiomCopy
import Derived.RowKit
import Derived.OrdersHeld
import Derived.Laws.BitsLemmas
import Derived.Laws.StructEq
import Derived.SizedLaws
import Derived.ChangeSlices
import Derived.Maps.OwnSet
import Derived.Maps.Ext
import Derived.StringKeys
import Derived.WideKeyEntry
import Derived.DeepKeys4
import Derived.Lib.IndexBytes
import Derived.Lib.Strings
import Derived.Lib.Join
import Derived.Sort.KeysCollected
import Derived.Maps.Range
import Derived.RangeFuncNested
import Derived.RangeFuncBound
import Derived.RangeFuncCalls
import Derived.RangeFuncLeaves
import Derived.Shelf.Abstract
import Derived.Shelf.RegionOpen
import Derived.OwnWalkIn
import Derived.TacticsInMore
import Derived.LoopNIn
import Derived.LoopIn
import Derived.Lib.Hide
import Derived.RangeFuncBox
namespace Go.Proofs.YtbngbefchobfnaaGreatDoor
def tb_ (n m : Nat) : Array Bool := ((List.range n).map (fun i => m.testBit i)).toArray
end Go.Proofs.YtbngbefchobfnaaGreatDoor
namespace Go.Proofs
open Go.Shelf
def Tryz.lays156_ren : Go.Shelf.Ren := ⟨fun | 156 => 91 | 165 => 103 | 166 => 104 | 169 => 105 | 240 => 112 | 241 => 113 | 276 => 116 | 277 => 117 | n => n, fun | 31 => 25 | 9 => 9 | 3 => 3 | 4 => 4 | 0 => 0 | 20 => 20 | 72 => 144 | 76 => 148 | 70 => 142 | 37 => 40 | 75 => 147 | 127 => 161 | 164 => 162 | 5 => 5 | 80 => 150 | n => n, fun | n => n⟩
theorem Tryz.lays156 : Go.Proofs.Lays.n156 Tryz.prog Tryz.lays156_ren := {
 mixed := by kernel_rfl
 f156 := Tryz.func91.trans (congrArg some (by kernel_rfl))
 f165 := Tryz.func103.trans (congrArg some (by kernel_rfl))
 f166 := Tryz.func104.trans (congrArg some (by kernel_rfl))
 f169 := Tryz.func105.trans (congrArg some (by kernel_rfl))
 f240 := Tryz.func112.trans (congrArg some (by kernel_rfl))
 f241 := Tryz.func113.trans (congrArg some (by kernel_rfl))
 f276 := Tryz.func116.trans (congrArg some (by kernel_rfl))
 f277 := Tryz.func117.trans (congrArg some (by kernel_rfl))
 t0 := Tryz.underlying0
 a0 := Tryz.isAgg0
 z0 := Tryz.sizeOf0
 v0 := Tryz.zeroValue0
 t3 := Tryz.underlying3
 a3 := Tryz.isAgg3
 z3 := Tryz.sizeOf3
 v3 := Tryz.zeroValue3
 t4 := Tryz.underlying4
 a4 := Tryz.isAgg4
 z4 := Tryz.sizeOf4
 v4 := Tryz.zeroValue4
 t9 := Tryz.underlying9
 a9 := Tryz.isAgg9
 z9 := Tryz.sizeOf9
 v9 := Tryz.zeroValue9
 t20 := Tryz.underlying20
 a20 := Tryz.isAgg20
 z20 := Tryz.sizeOf20
 v20 := Tryz.zeroValue20
 t31 := Tryz.underlying25
 a31 := Tryz.isAgg25
 z31 := Tryz.sizeOf25
 v31 := Tryz.zeroValue25
 t37 := Tryz.underlying40
 a37 := Tryz.isAgg40
 z37 := Tryz.sizeOf40
 v37 := Tryz.zeroValue40
 t70 := Tryz.underlying142
 a70 := Tryz.isAgg142
 z70 := Tryz.sizeOf142
 v70 := Tryz.zeroValue142
 t72 := Tryz.underlying144
 a72 := Tryz.isAgg144
 z72 := Tryz.sizeOf144
 v72 := Tryz.zeroValue144
 t75 := Tryz.underlying147
 a75 := Tryz.isAgg147
 z75 := Tryz.sizeOf147
 v75 := Tryz.zeroValue147
 t76 := Tryz.underlying148
 a76 := Tryz.isAgg148
 z76 := Tryz.sizeOf148
 v76 := Tryz.zeroValue148
 t127 := Tryz.underlying161
 a127 := Tryz.isAgg161
 z127 := Tryz.sizeOf161
 v127 := Tryz.zeroValue161
 t164 := Tryz.underlying162
 a164 := Tryz.isAgg162
 z164 := Tryz.sizeOf162
 v164 := Tryz.zeroValue162 }
theorem Tryz.Builder_Extra_156 : Builder.Extra Tryz.prog Tryz.lays156_ren := {
 sizeBuilder := by kernel_rfl
 liesBuilder := by kernel_rfl
 t5 := Tryz.underlying5
 a5 := Tryz.isAgg5
 z5 := Tryz.sizeOf5
 v5 := Tryz.zeroValue5
 infoByte := by kernel_rfl
 cellsByte := by kernel_rfl
 sizeByte := by kernel_rfl
 neB5 := by decide }
open Go.RowKit in
theorem Tryz.strings_Join_none (a : Option Addr) (c : Nat) (sep : ByteArray) (w : World) :
  Calls Tryz.prog 91 #[.slice a 0 c, .string sep] w fun e w' => e = .returned (.string ⟨#[]⟩) ∧ w' = w := Any.strings_Join_none Tryz.lays156 Tryz.Builder_Extra_156 a c sep w
open Go.RowKit in
theorem Tryz.strings_Join (bk o c : Nat) (xs : List ByteArray) (sep : ByteArray) (w : World) (hcells : ∀ (j : Nat) x, xs[j]? = some x → w.cell? ⟨bk, o + j, none⟩ = some (.string x)) (hbk : bk < w.heap.size) (hN : xs.length ≤ 140737488355328) (hcap : xs.length ≤ c) (hlen : (Lib.join (xs.map (·.data.toList)) sep.data.toList).length ≤ 140737488355328) :
  Calls Tryz.prog 91 #[.slice (some ⟨bk, o, none⟩) xs.length c, .string sep] w fun e w' => e = .returned (.string ⟨(Lib.join (xs.map (·.data.toList)) sep.data.toList).toArray⟩) ∧ Below w.heap.size w w' := Any.strings_Join Tryz.lays156 Tryz.Builder_Extra_156 bk o c xs sep w hcells hbk hN hcap hlen
def Tryz.lays106_ren : Go.Shelf.Ren := ⟨fun | 106 => 77 | 213 => 94 | 265 => 108 | n => n, fun | 9 => 9 | 3 => 3 | n => n, fun | n => n⟩
theorem Tryz.lays106 : Go.Proofs.Lays.n106 Tryz.prog Tryz.lays106_ren := {
 mixed := by kernel_rfl
 f106 := Tryz.func77.trans (congrArg some (by kernel_rfl))
 f213 := Tryz.func94.trans (congrArg some (by kernel_rfl))
 f265 := Tryz.func108.trans (congrArg some (by kernel_rfl))
 t3 := Tryz.underlying3
 a3 := Tryz.isAgg3
 z3 := Tryz.sizeOf3
 v3 := Tryz.zeroValue3
 t9 := Tryz.underlying9
 a9 := Tryz.isAgg9
 z9 := Tryz.sizeOf9
 v9 := Tryz.zeroValue9 }
open Go.RowKit in
theorem Tryz.strings_Compare (a b : ByteArray) (w : World) :
  Calls Tryz.prog 77 #[.string a, .string b] w fun e w' => e = .returned (.int .i64 (Lib.compareBytes a.data.toList b.data.toList)) ∧ w' = w := Any.strings_Compare Tryz.lays106 a b w
def Tryz.lays143_ren : Go.Shelf.Ren := ⟨fun | 143 => 107 | 219 => 114 | 217 => 118 | 225 => 119 | 224 => 120 | 267 => 121 | 266 => 122 | 314 => 123 | n => n, fun | 9 => 9 | 3 => 3 | 4 => 4 | 5 => 5 | 46 => 115 | 146 => 167 | 51 => 130 | n => n, fun | 1 => 3 | n => n⟩
theorem Tryz.lays143 : Go.Proofs.Lays.n143 Tryz.prog Tryz.lays143_ren := {
 mixed := by kernel_rfl
 f143 := Tryz.func107.trans (congrArg some (by kernel_rfl))
 f217 := Tryz.func118.trans (congrArg some (by kernel_rfl))
 f219 := Tryz.func114.trans (congrArg some (by kernel_rfl))
 f224 := Tryz.func120.trans (congrArg some (by kernel_rfl))
 f225 := Tryz.func119.trans (congrArg some (by kernel_rfl))
 f266 := Tryz.func122.trans (congrArg some (by kernel_rfl))
 f267 := Tryz.func121.trans (congrArg some (by kernel_rfl))
 f314 := Tryz.func123.trans (congrArg some (by kernel_rfl))
 t3 := Tryz.underlying3
 a3 := Tryz.isAgg3
 z3 := Tryz.sizeOf3
 v3 := Tryz.zeroValue3
 t4 := Tryz.underlying4
 a4 := Tryz.isAgg4
 z4 := Tryz.sizeOf4
 v4 := Tryz.zeroValue4
 t5 := Tryz.underlying5
 a5 := Tryz.isAgg5
 z5 := Tryz.sizeOf5
 v5 := Tryz.zeroValue5
 t9 := Tryz.underlying9
 a9 := Tryz.isAgg9
 z9 := Tryz.sizeOf9
 v9 := Tryz.zeroValue9
 t46 := Tryz.underlying115
 a46 := Tryz.isAgg115
 z46 := Tryz.sizeOf115
 v46 := Tryz.zeroValue115
 t51 := Tryz.underlying130
 a51 := Tryz.isAgg130
 z51 := Tryz.sizeOf130
 v51 := Tryz.zeroValue130
 t146 := Tryz.underlying167
 a146 := Tryz.isAgg167
 z146 := Tryz.sizeOf167
 v146 := Tryz.zeroValue167
 g1 := by kernel_rfl }
open Go.RowKit Go.Lib in
theorem Tryz.strings_Index_one (s : ByteArray) (c : UInt8) (w : World) :
  Calls Tryz.prog 107 #[.string s, .string ⟨#[c]⟩] w fun e w' => e = .returned (.int .i64 (Lib.indexByte s.data.toList c)) ∧ w' = w := Any.strings_Index_one Tryz.lays143 s c w
def Tryz.lays144_ren : Go.Shelf.Ren := ⟨fun | 144 => 93 | 143 => 107 | 219 => 114 | 217 => 118 | 225 => 119 | 224 => 120 | 267 => 121 | 266 => 122 | 314 => 123 | n => n, fun | 9 => 9 | 4 => 4 | 3 => 3 | 5 => 5 | 46 => 115 | 146 => 167 | 51 => 130 | n => n, fun | 1 => 3 | n => n⟩
theorem Tryz.lays144 : Go.Proofs.Lays.n144 Tryz.prog Tryz.lays144_ren := {
 mixed := by kernel_rfl
 f143 := Tryz.func107.trans (congrArg some (by kernel_rfl))
 f144 := Tryz.func93.trans (congrArg some (by kernel_rfl))
 f217 := Tryz.func118.trans (congrArg some (by kernel_rfl))
 f219 := Tryz.func114.trans (congrArg some (by kernel_rfl))
 f224 := Tryz.func120.trans (congrArg some (by kernel_rfl))
 f225 := Tryz.func119.trans (congrArg some (by kernel_rfl))
 f266 := Tryz.func122.trans (congrArg some (by kernel_rfl))
 f267 := Tryz.func121.trans (congrArg some (by kernel_rfl))
 f314 := Tryz.func123.trans (congrArg some (by kernel_rfl))
 t3 := Tryz.underlying3
 a3 := Tryz.isAgg3
 z3 := Tryz.sizeOf3
 v3 := Tryz.zeroValue3
 t4 := Tryz.underlying4
 a4 := Tryz.isAgg4
 z4 := Tryz.sizeOf4
 v4 := Tryz.zeroValue4
 t5 := Tryz.underlying5
 a5 := Tryz.isAgg5
 z5 := Tryz.sizeOf5
 v5 := Tryz.zeroValue5
 t9 := Tryz.underlying9
 a9 := Tryz.isAgg9
 z9 := Tryz.sizeOf9
 v9 := Tryz.zeroValue9
 t46 := Tryz.underlying115
 a46 := Tryz.isAgg115
 z46 := Tryz.sizeOf115
 v46 := Tryz.zeroValue115
 t51 := Tryz.underlying130
 a51 := Tryz.isAgg130
 z51 := Tryz.sizeOf130
 v51 := Tryz.zeroValue130
 t146 := Tryz.underlying167
 a146 := Tryz.isAgg167
 z146 := Tryz.sizeOf167
 v146 := Tryz.zeroValue167
 g1 := by kernel_rfl }
open Go.RowKit Go.Lib in
theorem Tryz.strings_Contains_one (s : ByteArray) (c : UInt8) (w : World) :
  Calls Tryz.prog 93 #[.string s, .string ⟨#[c]⟩] w fun e w' => e = .returned (.bool (decide (0 ≤ Lib.indexByte s.data.toList c))) ∧ w' = w := Any.strings_Contains_one Tryz.lays144 s c w
def Tryz.lays99_ren : Go.Shelf.Ren := ⟨fun | 99 => 89 | 206 => 101 | n => n, fun | 9 => 9 | 4 => 4 | 3 => 3 | n => n, fun | n => n⟩
theorem Tryz.lays99 : Go.Proofs.Lays.n99 Tryz.prog Tryz.lays99_ren := {
 mixed := by kernel_rfl
 f99 := Tryz.func89.trans (congrArg some (by kernel_rfl))
 f206 := Tryz.func101.trans (congrArg some (by kernel_rfl))
 t3 := Tryz.underlying3
 a3 := Tryz.isAgg3
 z3 := Tryz.sizeOf3
 v3 := Tryz.zeroValue3
 t4 := Tryz.underlying4
 a4 := Tryz.isAgg4
 z4 := Tryz.sizeOf4
 v4 := Tryz.zeroValue4
 t9 := Tryz.underlying9
 a9 := Tryz.isAgg9
 z9 := Tryz.sizeOf9
 v9 := Tryz.zeroValue9 }
open Go.RowKit Go.Lib in
theorem Tryz.strings_HasPrefix (s p : ByteArray) (w : World) :
  Calls Tryz.prog 89 #[.string s, .string p] w fun e w' => e = .returned (.bool (Lib.hasPrefix s.data.toList p.data.toList)) ∧ w' = w := Any.strings_HasPrefix Tryz.lays99 s p w
def Tryz.laysValid_ren : Go.Shelf.Ren := ⟨fun | 196 => 92 | 259 => 106 | n => n, fun | 9 => 9 | 4 => 4 | 3 => 3 | 5 => 5 | 12 => 12 | 119 => 152 | 0 => 0 | 46 => 115 | 139 => 155 | 138 => 154 | 53 => 132 | n => n, fun | 3 => 1 | 4 => 2 | n => n⟩
theorem Tryz.laysValid : Go.Proofs.Lays.n196 Tryz.prog Tryz.laysValid_ren := {
 mixed := by kernel_rfl
 f196 := Tryz.func92.trans (congrArg some (by kernel_rfl))
 f259 := Tryz.func106.trans (congrArg some (by kernel_rfl))
 t0 := Tryz.underlying0
 a0 := Tryz.isAgg0
 z0 := Tryz.sizeOf0
 v0 := Tryz.zeroValue0
 t3 := Tryz.underlying3
 a3 := Tryz.isAgg3
 z3 := Tryz.sizeOf3
 v3 := Tryz.zeroValue3
 t4 := Tryz.underlying4
 a4 := Tryz.isAgg4
 z4 := Tryz.sizeOf4
 v4 := Tryz.zeroValue4
 t5 := Tryz.underlying5
 a5 := Tryz.isAgg5
 z5 := Tryz.sizeOf5
 v5 := Tryz.zeroValue5
 t9 := Tryz.underlying9
 a9 := Tryz.isAgg9
 z9 := Tryz.sizeOf9
 v9 := Tryz.zeroValue9
 t12 := Tryz.underlying12
 a12 := Tryz.isAgg12
 z12 := Tryz.sizeOf12
 v12 := Tryz.zeroValue12
 t46 := Tryz.underlying115
 a46 := Tryz.isAgg115
 z46 := Tryz.sizeOf115
 v46 := Tryz.zeroValue115
 t53 := Tryz.underlying132
 a53 := Tryz.isAgg132
 z53 := Tryz.sizeOf132
 v53 := Tryz.zeroValue132
 t119 := Tryz.underlying152
 a119 := Tryz.isAgg152
 z119 := Tryz.sizeOf152
 t138 := Tryz.underlying154
 a138 := Tryz.isAgg154
 z138 := Tryz.sizeOf154
 v138 := Tryz.zeroValue154
 t139 := Tryz.underlying155
 a139 := Tryz.isAgg155
 z139 := Tryz.sizeOf155
 v139 := Tryz.zeroValue155
 g3 := by kernel_rfl
 g4 := by kernel_rfl }
end Go.Proofs

namespace Go.Proofs.YtbngbefchobfnaaGreatDoor
def rightB (s : ByteArray) : Bool := Lib.validD s.data.toList && !(decide (0 ≤ Lib.indexByte s.data.toList 0))
end Go.Proofs.YtbngbefchobfnaaGreatDoor

namespace Go.Proofs.YtbngbefchobfnaaGreatDoor
open Go.RowKit Go.Shelf Go.Lib
structure Tabs (w : World) : Prop where
 u8 : Lib.Utf8Tabs 1 2 w
 end1 : w.cell? ⟨0, 1, none⟩ = some (.string ⟨#[46, 111, 117, 114, 115]⟩)
 end2 : w.cell? ⟨0, 2, none⟩ = some (.string ⟨#[46, 116, 104, 101, 105, 114, 115]⟩)
theorem Tabs.below {w W : World} (h : Tabs w) (hb : Below w.heap.size w W) : Tabs W := by
 have lt : ∀ (g c : Nat) v, w.cell? ⟨g, c, none⟩ = some v → W.cell? ⟨g, c, none⟩ = some v := fun g c v hc =>
  (hb.cell (p := ⟨g, c, none⟩) (World.block_lt_of_cell? w _ hc)).trans hc
 exact ⟨⟨fun c hc => lt _ _ _ (h.u8.1 c hc), fun i hi => ⟨lt _ _ _ (h.u8.2 i hi).1, lt _ _ _ (h.u8.2 i hi).2⟩⟩, lt _ _ _ h.end1, lt _ _ _ h.end2⟩
set_option maxHeartbeats 1000000 in
theorem right_calls (s : ByteArray) (w : World) (hs : s.size ≤ 9223372036854775807) (hT : Tabs w) :
  Calls Tryz.prog 74 #[.string s] w fun e w' => e = .returned (.bool (rightB s)) ∧ Below w.heap.size w w' := by
 have cV : Calls Tryz.prog 92 #[.string s] w _ := Any.utf8_ValidString Tryz.laysValid s w hs hT.u8
 have cC : ∀ W, Calls Tryz.prog 93 #[.string s, .string ⟨#[0]⟩] W _ := fun W => Tryz.strings_Contains_one s 0 W
 unfold rightB
 generalize hV : Lib.validD s.data.toList = V at cV ⊢
 generalize decide (0 ≤ Lib.indexByte s.data.toList 0) = Z at cC ⊢
 clear hV hT hs
 cases V
 ·go_enter Tryz.func74, Tryz.ntmps74
  go_wp2_with (first | (go_at_call 92; refine cV.mono ?_; rintro e w' ⟨rfl, hb⟩) | (go_at_call 93; refine (cC _).mono ?_; rintro e w' ⟨rfl, rfl⟩))
  go_ret
  exact ⟨rfl, by assumption⟩
 ·go_enter Tryz.func74, Tryz.ntmps74
  go_wp2_with (first | (go_at_call 92; refine cV.mono ?_; rintro e w' ⟨rfl, hb⟩) | (go_at_call 93; refine (cC _).mono ?_; rintro e w' ⟨rfl, rfl⟩))
  go_ret
  exact ⟨rfl, by assumption⟩
end Go.Proofs.YtbngbefchobfnaaGreatDoor

namespace Go.Proofs.YtbngbefchobfnaaGreatDoor
open Go.RowKit Go.Lib Go.Shelf
theorem ownGo : ownKnob Tryz.prog.godebug = none := by kernel_rfl
def laidL : List (String × DataW Unit) := [("unicode/utf8.acceptRanges", Rows.laid_unicode_utf8_acceptRanges), ("bindle/merge.ends", Rows.laid_bindle_merge_ends), ("unicode/utf8.first", Rows.laid_unicode_utf8_first)]
theorem accept_eq : (Rows.laid_unicode_utf8_acceptRanges : DataW Unit) = acceptData := by kernel_rfl
theorem first_eq : Rows.laid_unicode_utf8_first = firstData := by kernel_rfl
theorem nFirst : Tryz.prog.globalNamed "unicode/utf8.first" = some 1 := by kernel_rfl
theorem nAccept : Tryz.prog.globalNamed "unicode/utf8.acceptRanges" = some 2 := by kernel_rfl
theorem yFirst : (Tryz.prog.globals[1]?).map (·.type) = some 152 := by kernel_rfl
theorem yAccept : (Tryz.prog.globals[2]?).map (·.type) = some 155 := by kernel_rfl
theorem c5 : Tryz.prog.cellsOf 5 = 1 := by kernel_rfl
theorem c256 : Tryz.prog.cellsOf 152 = 256 := by kernel_rfl
theorem cRange : Tryz.prog.cellsOf 154 = 2 := by kernel_rfl
theorem nEnds : Tryz.prog.globalNamed "bindle/merge.ends" = some 0 := by kernel_rfl
theorem yEnds : (Tryz.prog.globals[0]?).map (·.type) = some 107 := by kernel_rfl
theorem cStr : Tryz.prog.cellsOf 9 = 1 := by kernel_rfl
theorem ends_at {w : World} (h : laidMetH Tryz.prog laidL w) (i : Nat) (l : List UInt8) (hi : ([[], [46, 111, 117, 114, 115], [46, 116, 104, 101, 105, 114, 115]] : List (List UInt8))[i]? = some l) : w.cell? ⟨0, i, none⟩ = some (.string ⟨l.toArray⟩) := by
 have h' : laidMet Tryz.prog laidL w := (show laidMetH Tryz.prog laidL w = laidMet Tryz.prog laidL w by kernel_rfl).mp h
 have h3 : VarReads Tryz.prog w "bindle/merge.ends" Rows.laid_bindle_merge_ends := laidMet.reads h' (.tail _ (.head _))
 obtain ⟨g, t, cs, fuel, p, hg, hty, hvar, hd⟩ := h3
 obtain rfl := Option.some.inj (nEnds.symm.trans hg)
 obtain rfl := Option.some.inj (yEnds.symm.trans hty)
 have hi3 : i < 3 := by
  rcases Nat.lt_or_ge i 3 with h | h
  ·exact h
  ·rw [List.getElem?_eq_none (by simpa using h)] at hi; cases hi
 obtain ⟨fuel', d, q, hdi, he⟩ := array_elem Tryz.underlying107 hd i hi3
 have hdl : d = .lit (.string l) := by
  have e : ([.lit (.string []), .lit (.string [46, 111, 117, 114, 115]), .lit (.string [46, 116, 104, 101, 105, 114, 115])] : List (DataW Unit)) = ([[], [46, 111, 117, 114, 115], [46, 116, 104, 101, 105, 114, 115]] : List (List UInt8)).map (fun l => .lit (.string l)) := rfl
  rw [e, List.getElem?_map, hi] at hdi
  exact (Option.some.inj hdi).symm
 subst hdl
 rw [cStr] at he
 obtain ⟨s, h1, h2, _⟩ := DataW.trod_string Tryz.underlying9 he
 have h3 : l = s.data.toList := by
  simp only [Prod.mk.injEq, DataW.lit.injEq, Lit.string.injEq] at h2
  exact h2.1
 have hs : s = ⟨l.toArray⟩ := by
  rw [h3]
 subst hs
 have e0 := congrArg (·[0]?) h1
 simp only [List.getElem?_take, List.getElem?_drop] at e0
 rw [World.var?_cell hg hvar i, ← Array.getElem?_toList]
 simpa using e0
theorem u8_of_laid {w : World} (h : laidMetH Tryz.prog laidL w) : Lib.Utf8Tabs 1 2 w := by
 have h' : laidMet Tryz.prog laidL w := (show laidMetH Tryz.prog laidL w = laidMet Tryz.prog laidL w by kernel_rfl).mp h
 have h3 : VarReads Tryz.prog w "unicode/utf8.first" firstData := first_eq ▸ laidMet.reads h' (.tail _ (.tail _ (.head _)))
 have h4 : VarReads Tryz.prog w "unicode/utf8.acceptRanges" acceptData := accept_eq ▸ laidMet.reads h' (.head _)
 refine ⟨fun c hc => ?_, fun i hi => ?_⟩
 ·obtain ⟨g, t, cs, fuel, p, hg, hty, hvar, hd⟩ := h3
  obtain rfl := Option.some.inj (nFirst.symm.trans hg)
  obtain rfl := Option.some.inj (yFirst.symm.trans hty)
  have hcs := cells_of_tab Tryz.underlying152 Tryz.underlying5 c5 c256 hd
  have := World.var?_cell hg hvar c
  rw [this, ← Array.getElem?_toList, hcs]
  simp [firstTab, hc]
 ·obtain ⟨g, t, cs, fuel, p, hg, hty, hvar, hd⟩ := h4
  obtain rfl := Option.some.inj (nAccept.symm.trans hg)
  obtain rfl := Option.some.inj (yAccept.symm.trans hty)
  obtain ⟨fuel', d, q, hdi, he⟩ := array_elem Tryz.underlying155 hd i hi
  simp only [List.getElem?_map, List.getElem?_range hi, Option.map_some, Option.some.injEq] at hdi
  subst hdi
  rw [cRange] at he
  have hcs := ints_of_struct Tryz.underlying154 (fun j f hj => by
   match j, hj with
   | 0, hj => simp at hj; subst hj; exact ⟨Tryz.underlying5, rfl, c5⟩
   | 1, hj => simp at hj; subst hj; exact ⟨Tryz.underlying5, rfl, c5⟩
   | j + 2, hj => simp at hj) (by rw [cRange]; rfl) he
  have e0 := congrArg (·[0]?) hcs
  have e1 := congrArg (·[1]?) hcs
  simp only [List.getElem?_take, List.getElem?_drop] at e0 e1
  constructor
  ·rw [World.var?_cell hg hvar (2 * i), ← Array.getElem?_toList]
   simpa [Nat.mul_comm] using e0
  ·rw [World.var?_cell hg hvar (2 * i + 1), ← Array.getElem?_toList]
   simpa [Nat.mul_comm] using e1
theorem tabs_of_laid {w : World} (h : laidMetH Tryz.prog laidL w) : Tabs w := ⟨u8_of_laid h, ends_at h 1 _ rfl, ends_at h 2 _ rfl⟩
noncomputable def laidWorld (os : Os) : World :=
 let w0 := World.holding Tryz.prog os ⟨#[], #[], []⟩
 let put (h : Array Obj) (g : Nat) (cs : Array Value) : Array Obj := h.modify g fun
  | .cells _ t frozen => .cells cs t frozen
  | o => o
 let h0 := put w0.heap 0 #[.string ⟨#[]⟩, .string ⟨#[46, 111, 117, 114, 115]⟩, .string ⟨#[46, 116, 104, 101, 105, 114, 115]⟩]
 let h1 := put h0 1 (Lib.firstTab.map fun z => Value.int .u8 z).toArray
 { w0 with heap := put h1 2 ((List.range 16).flatMap fun i => [Value.int .u8 (Lib.accLo i), Value.int .u8 (Lib.accHi i)]).toArray }
theorem laid_met (os : Os) (args : Array Value) : laidMet Tryz.prog laidL ((laidWorld os).forCall (fun _ _ => 0) ⟨#[], args, []⟩).memory :=
 (LaidIn.of_run [1, 0, 2] 8 (by kernel_rfl) (by kernel_rfl) (by kernel_rfl) (by kernel_rfl) : LaidIn Tryz.prog ((laidWorld os).forCall (fun _ _ => 0) ⟨#[], args, []⟩).memory laidL [1, 0, 2]).met
end Go.Proofs.YtbngbefchobfnaaGreatDoor

set_option linter.unusedVariables false
set_option linter.unusedSimpArgs false
namespace Go.Proofs.YtbngbefchobfnaaGreatDoorW.PrintWords
open Go.RowKit
structure Aside0 (p : Prop) : Prop where mk :: (out : p)
structure Drawn0 (w w' : World) : Prop where mk :: (out : ∃ n, w' = w.drewN n)
theorem Drawn0.refl (w : World) : Drawn0 w w := ⟨⟨0, rfl⟩⟩
theorem Drawn0.step {w w' : World} (h : Drawn0 w w') (n : Nat) : Drawn0 w (w'.drewN n) := by
  obtain ⟨m, rfl⟩ := h
  exact ⟨⟨m + n, World.drewN_drewN ..⟩⟩
theorem Drawn0.grown {w w' : World} (h : Drawn0 w w') : Grown w w' := by
  obtain ⟨n, rfl⟩ := h
  induction n with
  | zero => exact Grown.refl _
  | succ n ih => rw [← World.drew_drewN]; exact Grown.drew ih
theorem Drawn0.below {w w' : World} (h : Drawn0 w w') : Below w.heap.size w w' := by
  obtain ⟨n, rfl⟩ := h
  induction n with
  | zero => exact Below.refl _ _
  | succ n ih => rw [← World.drew_drewN]; exact ih.drew
def rd (xs : List Int) (i : Int) : Int := xs.getD i.toNat 0
def bt (s : ByteArray) (i : Int) : Int := if h : i.toNat < s.size then ((s[i.toNat]'h).toNat : Int) else 0
theorem bt_at (s : ByteArray) (i : Int) : ∀ h : i.toNat < s.size, ((s[i.toNat]'h).toNat : Int) = bt s i := fun h => by simp [bt, h]
def nums (k : IntKind) (xs : List Int) : List Value := xs.map fun x => .int k x
theorem below_alloc {w W : World} (h : Below w.heap.size w W) (o : Obj) : Below w.heap.size w (W.alloc o) := h.alloc h.size o
theorem below_drew {B : Nat} {w W : World} (h : Below B w W) : Below B w W.drew := ⟨h.os, h.tape, h.output, h.size, h.block⟩
theorem pw_below_drewN {B : Nat} {w W : World} (h : Below B w W) (n : Nat) : Below B w (W.drewN n) := ⟨h.os, h.tape, h.output, h.size, h.block⟩
theorem below_then {B : Nat} {w w1 w2 : World} (h : Below B w w1) (hB : B ≤ w1.heap.size) (k : Below w1.heap.size w1 w2) : Below B w w2 :=
  h.trans ⟨k.os, k.tape, k.output, k.size, fun i hi => k.block i (Nat.lt_of_lt_of_le hi hB)⟩
theorem grown_of_below {w w1 : World} (h : Below w.heap.size w w1) (row : Option Nat) : w.grownBy w1 row := ⟨h.os, h.tape, h.output, h.size, fun i hi _ => h.block i hi⟩
theorem pw_cell_below {w w1 : World} (h : Below w.heap.size w w1) {a : Addr} {v : Value} (hc : w.cell? a = some v) : w1.cell? a = some v := (h.cell (World.block_lt_of_cell? w a hc)).trans hc
def ReadsInt (w : World) (k : IntKind) (A : Option Addr) (n : Nat) (xs : List Int) : Prop :=
  xs.length = n ∧ n ≤ 9223372036854775807 ∧ (0 < n → ∃ ad, A = some ad ∧ ∀ j, j < n → w.cell? (ad.add j) = some (.int k (xs.getD j 0)))
theorem ReadsInt.at_ {w : World} {k : IntKind} {A : Option Addr} {n : Nat} {xs : List Int} (h : ReadsInt w k A n xs) (i : Int) (h0 : 0 ≤ i) (h1 : i < n) : ∃ ad, A = some ad ∧ w.cell? (ad.add i.toNat) = some (.int k (rd xs i)) := by
  obtain ⟨ad, e, hc⟩ := h.2.2 (by omega)
  exact ⟨ad, e, hc _ (by omega)⟩
theorem ReadsInt.below {w w1 : World} {k : IntKind} {A : Option Addr} {n : Nat} {xs : List Int} (h : ReadsInt w k A n xs) (hb : Below w.heap.size w w1) : ReadsInt w1 k A n xs :=
  ⟨h.1, h.2.1, fun hn => by
    obtain ⟨ad, e, hc⟩ := h.2.2 hn
    exact ⟨ad, e, fun j hj => pw_cell_below hb (hc j hj)⟩⟩
theorem own_nil (W : World) (base : Nat) (e : TypeId) (size : Nat) : W.ownsRow base e size (.slice none 0 0) 0 [] := ⟨by simp, .inl ⟨rfl, rfl⟩⟩
theorem own_base {w : World} {base : Nat} {e : TypeId} {size n : Nat} {v : Value} {xs : List Value} (h : w.ownsRow base e size v n xs) (k : Nat) (hk : v.ownBlock = some k) : base ≤ k := by
  rcases h.2 with ⟨rfl, _⟩ | ⟨g, cap, cur, rfl, hb, _⟩
  · simp [Value.ownBlock] at hk
  · have : g = k := by simpa [Value.ownBlock] using hk
    omega
theorem own_lt {w : World} {base : Nat} {e : TypeId} {size n : Nat} {v : Value} {xs : List Value} (h : w.ownsRow base e size v n xs) (k : Nat) (hk : v.ownBlock = some k) : k < w.heap.size := by
  rcases h.2 with ⟨rfl, _⟩ | ⟨g, cap, cur, rfl, hb, hh, _⟩
  · simp [Value.ownBlock] at hk
  · have : g = k := by simpa [Value.ownBlock] using hk
    subst this
    exact (Array.getElem?_eq_some_iff.1 hh).1
theorem pw_own_below {w w1 : World} {base : Nat} {e : TypeId} {size n : Nat} {v : Value} {xs : List Value} (h : w.ownsRow base e size v n xs) (hb : Below w.heap.size w w1) : w1.ownsRow base e size v n xs :=
  h.kept (grown_of_below hb none) (by cases v.ownBlock <;> simp)
theorem own_other {w w1 : World} {base : Nat} {e : TypeId} {size n : Nat} {v : Value} {xs : List Value} (h : w.ownsRow base e size v n xs) {row : Option Nat} (hg : w.grownBy w1 row) (hne : v.ownBlock = none ∨ v.ownBlock ≠ row) : w1.ownsRow base e size v n xs := h.kept hg hne
section
variable {P : Program} {ops : Array Oper} {rest : List Oper} {o : Oper} {a : Act} {Q : Exit → Act → World → Prop}
end
section
variable {P : Program}
end
theorem own_lit (W : World) (base : Nat) (e : TypeId) (k : IntKind) (xs : List Int) (hb : base ≤ W.heap.size) (hm : xs.length ≤ 9223372036854775807) :
    (W.alloc (.cells (nums k xs).toArray e)).ownsRow base e 1 (.slice (some ⟨W.heap.size, 0, none⟩) xs.length xs.length) xs.length (nums k xs) := by
  have h := World.ownsRow_lit (base := base) (e := e) (size := 1) W (nums k xs).toArray xs.length hb (by simpa [maxLen] using hm) (by simp [nums])
  simpa using h
section
variable {P : Program} {ops : Array Oper} {rest : List Oper} {o : Oper} {a : Act} {Q : Exit → Act → World → Prop}
end
def bytesOf (s : ByteArray) : List Int := s.data.toList.map fun b => (b.toNat : Int)
theorem ReadsInt.take_ {w : World} {k : IntKind} {A : Option Addr} {n : Nat} {xs : List Int} (h : ReadsInt w k A n xs) (i : Nat) (hi : i ≤ n) : ReadsInt w k A i (xs.take i) := by
  refine ⟨by rw [List.length_take, h.1]; omega, by have := h.2.1; omega, fun hp => ?_⟩
  obtain ⟨ad, e, hc⟩ := h.2.2 (by omega)
  refine ⟨ad, e, fun j hj => ?_⟩
  rw [hc j (by omega)]
  simp [List.getD_eq_getElem?_getD, hj]
def LeO {α : Type} (a b : Option α) : Prop := ∀ r, a = some r → b = some r
theorem LeO.refl {α : Type} (a : Option α) : LeO a a := fun _ h => h
theorem LeO.none {α : Type} (b : Option α) : LeO Option.none b := fun _ h => by cases h
theorem LeO.trans {α : Type} {a b c : Option α} (h : LeO a b) (k : LeO b c) : LeO a c := fun r hr => k r (h r hr)
theorem LeO.bind {α β : Type} {a a' : Option α} {f f' : α → Option β} (h : LeO a a') (k : ∀ x, LeO (f x) (f' x)) : LeO (a.bind f) (a'.bind f') := by
  intro r hr
  obtain ⟨x, hx, hf⟩ := Option.bind_eq_some_iff.1 hr
  exact Option.bind_eq_some_iff.2 ⟨x, h x hx, k x r hf⟩
theorem LeO.map {α β : Type} {a a' : Option α} (f : α → β) (h : LeO a a') : LeO (a.map f) (a'.map f) := by
  intro r hr
  obtain ⟨x, hx, hf⟩ := Option.map_eq_some_iff.1 hr
  exact Option.map_eq_some_iff.2 ⟨x, h x hx, hf⟩
theorem more_rounds {α : Type} {g : Nat → Option α} (h : ∀ k, LeO (g k) (g (k + 1))) (k : Nat) : ∀ j, LeO (g k) (g (k + j))
  | 0 => LeO.refl _
  | j + 1 => (more_rounds h k j).trans (h (k + j))
theorem at_rounds {α : Type} {g : Nat → Option α} (h : ∀ k, LeO (g k) (g (k + 1))) {k k' : Nat} (hk : k ≤ k') {r : α} (hr : g k = some r) : g k' = some r := by
  have := more_rounds h k (k' - k) r hr
  rwa [Nat.add_sub_cancel' hk] at this
def Reps {α : Type} (R : α → List Value → Prop) (size : Nat) (ps : List α) (cs : List Value) : Prop :=
  cs.length = ps.length * size ∧ ∀ j p, ps[j]? = some p → R p ((cs.drop (j * size)).take size)
theorem Reps.none {α : Type} (R : α → List Value → Prop) (size : Nat) : Reps R size [] [] := ⟨by simp, fun j p h => by simp at h⟩
theorem Reps.snoc {α : Type} {R : α → List Value → Prop} {size : Nat} {ps : List α} {cs c : List Value} {p : α} (h : Reps R size ps cs) (hp : R p c) (hc : c.length = size) : Reps R size (ps ++ [p]) (cs ++ c) := by
  refine ⟨by rw [List.length_append, h.1, hc, List.length_append, List.length_singleton, Nat.add_mul, Nat.one_mul], fun j q hq => ?_⟩
  rcases Nat.lt_or_ge j ps.length with hj | hj
  · rw [List.getElem?_append_left hj] at hq
    have h1 : j * size + size ≤ cs.length := by rw [h.1, ← Nat.succ_mul]; exact Nat.mul_le_mul_right _ hj
    have h2 := h.2 j q hq
    rw [List.drop_append_of_le_length (by omega), List.take_append_of_le_length (by rw [List.length_drop]; omega)]
    exact h2
  · have hj' : j = ps.length := by
      have := (List.getElem?_eq_some_iff.1 hq).1
      rw [List.length_append, List.length_singleton] at this
      omega
    subst hj'
    have hq' : p = q := by simpa using hq
    subst hq'
    rw [← h.1, List.drop_left, ← hc, List.take_length]
    exact hp
theorem Reps.imp_ {α : Type} {R R' : α → List Value → Prop} {size : Nat} {ps : List α} {cs : List Value} (h : Reps R size ps cs) (hR : ∀ p c, R p c → R' p c) : Reps R' size ps cs := ⟨h.1, fun j p hj => hR _ _ (h.2 j p hj)⟩
def ReadsRow {α : Type} (R : α → List Value → Prop) (size : Nat) (w : World) (A : Option Addr) (n : Nat) (ps : List α) : Prop :=
  ps.length = n ∧ n ≤ 9223372036854775807 ∧ (0 < n → ∃ ad, A = some ad ∧ ∀ j p, ps[j]? = some p → ∃ c, c.length = size ∧ R p c ∧ ∀ i u, c[i]? = some u → w.cell? (ad.add (j * size + i)) = some u)
theorem ReadsRow.get_ {α : Type} {R : α → List Value → Prop} {size : Nat} {w : World} {A : Option Addr} {n : Nat} {ps : List α} (h : ReadsRow R size w A n ps) (d : α) (i : Int) (h0 : 0 ≤ i) (h1 : i < n) :
    ∃ ad c, A = some ad ∧ c.length = size ∧ R (ps.getD i.toNat d) c ∧ ∀ j u, c[j]? = some u → w.cell? (ad.add (i.toNat * size + j)) = some u := by
  obtain ⟨ad, e, hc⟩ := h.2.2 (by omega)
  have hl : i.toNat < ps.length := by have := h.1; omega
  obtain ⟨c, hs, hr, hcell⟩ := hc i.toNat _ (List.getElem?_eq_getElem hl)
  refine ⟨ad, c, e, hs, ?_, hcell⟩
  rw [List.getD_eq_getElem?_getD, List.getElem?_eq_getElem hl]
  exact hr
theorem ReadsRow.imp_ {α : Type} {R R' : α → List Value → Prop} {size : Nat} {w w1 : World} {A : Option Addr} {n : Nat} {ps : List α} (h : ReadsRow R size w A n ps) (hb : Below w.heap.size w w1) (hR : ∀ p c, R p c → R' p c) : ReadsRow R' size w1 A n ps :=
  ⟨h.1, h.2.1, fun hn => by
    obtain ⟨ad, e, hc⟩ := h.2.2 hn
    refine ⟨ad, e, fun j p hj => ?_⟩
    obtain ⟨c, hs, hr, hcell⟩ := hc j p hj
    exact ⟨c, hs, hR _ _ hr, fun i u hu => pw_cell_below hb (hcell i u hu)⟩⟩
theorem own_reads_row {α : Type} {R : α → List Value → Prop} {w : World} {base n size : Nat} {e : TypeId} {v : Value} {ps : List α} {cs : List Value} (h : w.ownsRow base e size v n cs) (hR : Reps R size ps cs) (hn : ps.length = n) :
    ∃ A c, v = .slice A n c ∧ ReadsRow R size w A n ps := by
  rcases Nat.eq_zero_or_pos n with h0 | h0
  · rcases h.2 with ⟨rfl, rfl⟩ | ⟨g, cap, cur, rfl, _⟩
    · exact ⟨none, 0, rfl, hn, by omega, fun hp => absurd hp (by omega)⟩
    · exact ⟨_, cap, rfl, hn, by omega, fun hp => absurd hp (by omega)⟩
  · obtain ⟨g, cap, rfl, _, _⟩ := h.form h0
    have hm : n ≤ 9223372036854775807 := by
      rcases h.2 with ⟨_, h1⟩ | ⟨g', cap', cur, he, _, _, h1, h2, _⟩
      · omega
      · simp only [maxLen] at h2
        omega
    refine ⟨_, cap, rfl, hn, hm, fun _ => ⟨_, rfl, fun j p hj => ⟨(cs.drop (j * size)).take size, ?_, hR.2 j p hj, fun i u hu => ?_⟩⟩⟩
    · have hjl := (List.getElem?_eq_some_iff.1 hj).1
      have h1 : j * size + size ≤ cs.length := by rw [hR.1, ← Nat.succ_mul]; exact Nat.mul_le_mul_right _ hjl
      rw [List.length_take, List.length_drop]
      omega
    · refine h.cells (g := g) rfl _ u ?_
      rw [List.getElem?_take] at hu
      split at hu
      · rw [List.getElem?_drop] at hu
        exact hu
      · cases hu
theorem add_field (ad : Addr) (m j : Nat) (hj : 0 < j) : ad.add (m + j) = ⟨(ad.add m).block, (ad.add m).off + j, none⟩ := by
  unfold Addr.add
  by_cases hm : m = 0
  · subst hm
    simp [Nat.ne_of_gt hj]
  · simp [hm, Nat.add_assoc]
section
variable {P : Program} {ops : Array Oper} {rest : List Oper} {o : Oper} {a : Act} {Q : Exit → Act → World → Prop}
theorem print_append_cells {w0 W : World} (base : Nat) (hgd : o.guard = none) (s x : Operand) (t e : TypeId) (z : Value) (size bytes : Nat)
    (ho : o.op = .call { callee := .builtin .append, args := #[s, x], argTypes := #[t, t] })
    (ht : P.underlying t = some (.slice e)) (hinfo : (P.info? e).map (fun i => (i.zero, i.size, i.bytes)) = some (some z, size, bytes)) (hz : z.cells.size = size) (hs0 : 0 < size) (hb0 : 0 < bytes)
    (v : Value) (n : Nat) (xs ys : List Value) (hs : a.eval s = v) (hx : a.eval x = .slice (some ⟨W.heap.size, 0, none⟩) 1 1) (hys : ys.length = size) (h1 : ∀ u ∈ ys, u.oneCell' = true)
    (HO : W.ownsRow base e size v n xs) (HB : Below base w0 W) (hbase : base ≤ W.heap.size) (hl : (n + 1) * bytes ≤ 140737488355328)
    (h : ∀ v1 w1, w1.ownsRow base e size v1 (n + 1) (xs ++ ys) → Below base w0 w1 → W.grownBy w1 v.ownBlock → (v1.ownBlock = v.ownBlock ∨ ∃ b, v1.ownBlock = some b ∧ W.heap.size ≤ b) → wpList P ops Q rest (a.put o.dst v1) w1) :
    wpList P ops Q (o :: rest) a (W.alloc (.cells ys.toArray e)) := by
  obtain ⟨i0, hi, hzz⟩ := Option.map_eq_some_iff.1 hinfo
  simp only [Prod.mk.injEq] at hzz
  obtain ⟨hz0, hz1, hz2⟩ := hzz
  have hlen : n + 1 ≤ 140737488355328 := Nat.le_trans (Nat.le_mul_of_pos_right _ hb0) hl
  refine wpList_append_own_at (W.alloc (.cells ys.toArray e)) hgd s x t ho base e i0 z size bytes ht hi hz0 hz1 hz2 hz hs0 v n xs hs (HO.alloc _) ⟨W.heap.size, 0, none⟩ 1 1 ys hx (by rw [hys]; simp)
    (by simpa using World.news_of_block (cs := ys.toArray) (t := e) (fr := (0, 0)) (heap_alloc_new W (.cells ys.toArray e))) h1 (by simp only [maxLen]; omega) hl (by simp; omega) ?_
  intro v1 w1 hown hg _ hat
  refine h v1 w1 hown ((HB.alloc hbase _).grown hg (by simp; omega) (own_base HO)) (World.grownBy.trans (World.grownBy_alloc W _ _) hg) ?_
  rcases hat with hat | hat
  · exact .inl hat
  · exact .inr ⟨_, hat, by simp⟩
end
theorem own_ne {w : World} {base : Nat} {e t : TypeId} {size n g : Nat} {v : Value} {xs : List Value} {cs : Array Value} (h : w.ownsRow base e size v n xs) (hg : w.heap[g]? = some (.cells cs t (0, 0))) (hne : e ≠ t) : some g ≠ v.ownBlock := by
  rcases h.2 with ⟨rfl, _⟩ | ⟨g', cap, cur, rfl, _, hh, _⟩
  · simp [Value.ownBlock]
  · intro he
    have : g = g' := by simpa [Value.ownBlock] using he
    subst this
    rw [hg] at hh
    injection hh with hh
    injection hh with _ ht
    exact hne ht.symm
theorem blk_set {w : World} {g : Nat} {t : TypeId} {cs : Array Value} (h : w.heap[g]? = some (.cells cs t (0, 0))) (i : Nat) (u : Value) : (w.setCell ⟨g, i, none⟩ u).heap[g]? = some (.cells (cs.setIfInBounds i u) t (0, 0)) := by
  simp [World.setCell, Array.getElem?_modify, h]
theorem blk_lt {w : World} {g : Nat} {o : Obj} (h : w.heap[g]? = some o) : g < w.heap.size := (Array.getElem?_eq_some_iff.1 h).1
theorem blk_cell {w : World} {g : Nat} {t : TypeId} {cs : Array Value} (h : w.heap[g]? = some (.cells cs t (0, 0))) (i : Nat) : w.cell? ⟨g, i, none⟩ = cs[i]? := cell_of_row w g i cs t (0, 0) h
theorem blk_frozen {w : World} {g : Nat} {t : TypeId} {cs : Array Value} (h : w.heap[g]? = some (.cells cs t (0, 0))) (i : Nat) : w.frozen? ⟨g, i, none⟩ = false := by simp [World.frozen?, h]
def KeepBut (w w' : World) (g : Nat) (row : Option Nat) : Prop := w.heap.size ≤ w'.heap.size ∧ ∀ i, i < w.heap.size → i ≠ g → some i ≠ row → w'.heap[i]? = w.heap[i]?
theorem KeepBut.refl (w : World) (g : Nat) (row : Option Nat) : KeepBut w w g row := ⟨Nat.le_refl _, fun _ _ _ _ => rfl⟩
theorem KeepBut.of_below {w w1 : World} (h : Below w.heap.size w w1) (g : Nat) (row : Option Nat) : KeepBut w w1 g row := ⟨h.size, fun i hi _ _ => h.block i hi⟩
theorem KeepBut.trans {w w1 w2 : World} {g : Nat} {row row1 : Option Nat} (h : KeepBut w w1 g row) (k : KeepBut w1 w2 g row1) (hr : row1 = row ∨ ∃ b, row1 = some b ∧ w.heap.size ≤ b) : KeepBut w w2 g row :=
  ⟨Nat.le_trans h.1 k.1, fun i hi hg hn => by
    refine (k.2 i (Nat.lt_of_lt_of_le hi h.1) hg ?_).trans (h.2 i hi hg hn)
    rcases hr with rfl | ⟨b, rfl, hb⟩
    · exact hn
    · intro e
      injection e with e
      omega⟩
theorem KeepBut.blk {w w1 : World} {g g' : Nat} {row : Option Nat} {o : Obj} (h : KeepBut w w1 g row) (hb : w.heap[g']? = some o) (hg : g' ≠ g) (hr : some g' ≠ row) : w1.heap[g']? = some o := (h.2 g' (blk_lt hb) hg hr).trans hb
theorem KeepBut.own {w w1 : World} {g : Nat} {row : Option Nat} {base : Nat} {e : TypeId} {size n : Nat} {v : Value} {xs : List Value} (h : KeepBut w w1 g row) (ho : w.ownsRow base e size v n xs) (hg : v.ownBlock ≠ some g) (hr : v.ownBlock = none ∨ v.ownBlock ≠ row) : w1.ownsRow base e size v n xs := by
  obtain ⟨h1, h2⟩ := ho
  refine ⟨h1, ?_⟩
  rcases h2 with h2 | ⟨b, cap, cur, rfl, hb, hh, r⟩
  · exact .inl h2
  · refine .inr ⟨b, cap, cur, rfl, hb, h.blk hh ?_ ?_, r⟩
    · intro e
      exact hg (by rw [← e]; rfl)
    · rcases hr with hr | hr
      · simp [Value.ownBlock] at hr
      · exact hr
def Ev {α : Type} (g : Nat → Option α) (r : α) : Prop := ∃ K, ∀ k, K ≤ k → g k = some r
theorem Ev.of {α : Type} {g : Nat → Option α} {r : α} (hg : ∀ k, LeO (g k) (g (k + 1))) {k : Nat} (h : g k = some r) : Ev g r := ⟨k, fun _ hk => at_rounds hg hk h⟩
theorem Ev.now {α : Type} (r : α) : Ev (fun _ => some r) r := ⟨0, fun _ _ => rfl⟩
theorem Ev.rounds {α : Type} {g : Nat → Option α} {r : α} (h : Ev g r) : ∃ k, g k = some r := by
  obtain ⟨K, h⟩ := h
  exact ⟨K, h K (Nat.le_refl _)⟩
theorem Ev.bind {α β : Type} {g : Nat → Option α} {f : Nat → α → Option β} {a : α} {r : β} (h : Ev g a) (k : Ev (fun n => f n a) r) : Ev (fun n => (g n).bind (f n)) r := by
  obtain ⟨K, h⟩ := h
  obtain ⟨K', k⟩ := k
  refine ⟨max K K', fun n hn => ?_⟩
  have h1 := h n (by omega)
  have h2 := k n (by omega)
  simp only [h1, Option.bind_some]
  exact h2
theorem Ev.step {α : Type} {g f : Nat → Option α} {r : α} (h : ∀ k, g (k + 1) = f k) (k : Ev f r) : Ev g r := by
  obtain ⟨K, k⟩ := k
  refine ⟨K + 1, fun n hn => ?_⟩
  obtain ⟨m, rfl⟩ : ∃ m, n = m + 1 := ⟨n - 1, by omega⟩
  rw [h]
  exact k m (by omega)
theorem Ev.congr {α : Type} {g f : Nat → Option α} {r : α} (h : ∀ k, g k = f k) (k : Ev f r) : Ev g r := by
  obtain ⟨K, k⟩ := k
  exact ⟨K, fun n hn => (h n).trans (k n hn)⟩
section
variable {P : Program} {ops : Array Oper} {o : Oper} {a : Act} {Q : Exit → Act → World → Prop} {K : Act → World → Prop}
end
theorem own_weaken {w : World} {base base' : Nat} {e : TypeId} {size n : Nat} {v : Value} {xs : List Value} (h : w.ownsRow base e size v n xs) (hb : base' ≤ base) : w.ownsRow base' e size v n xs := by
  obtain ⟨h1, h2⟩ := h
  refine ⟨h1, ?_⟩
  rcases h2 with h2 | ⟨g, cap, cur, rfl, hg, r⟩
  · exact .inl h2
  · exact .inr ⟨g, cap, cur, rfl, Nat.le_trans hb hg, r⟩
section
variable {α : Type} {enc : α → Value} {d : α}
def encs (enc : α → Value) (xs : List α) : List Value := xs.map enc
def rdOf (d : α) (xs : List α) (i : Int) : α := xs.getD i.toNat d
theorem encs_length (xs : List α) : (encs enc xs).length = xs.length := by simp [encs]
theorem encs_get (xs : List α) (j : Nat) (h : j < xs.length) : (encs enc xs)[j]? = some (enc (xs.getD j d)) := by
  simp [encs, List.getElem?_eq_getElem h, List.getD_eq_getElem?_getD]
def ReadsOf (enc : α → Value) (d : α) (w : World) (A : Option Addr) (n : Nat) (xs : List α) : Prop :=
  xs.length = n ∧ n ≤ 9223372036854775807 ∧ (0 < n → ∃ ad, A = some ad ∧ ∀ j, j < n → w.cell? (ad.add j) = some (enc (xs.getD j d)))
theorem ReadsOf.at_ {w : World} {A : Option Addr} {n : Nat} {xs : List α} (h : ReadsOf enc d w A n xs) (i : Int) (h0 : 0 ≤ i) (h1 : i < n) : ∃ ad, A = some ad ∧ w.cell? (ad.add i.toNat) = some (enc (rdOf d xs i)) := by
  obtain ⟨ad, e, hc⟩ := h.2.2 (by omega)
  exact ⟨ad, e, hc _ (by omega)⟩
theorem ReadsOf.below {w w1 : World} {A : Option Addr} {n : Nat} {xs : List α} (h : ReadsOf enc d w A n xs) (hb : Below w.heap.size w w1) : ReadsOf enc d w1 A n xs :=
  ⟨h.1, h.2.1, fun hn => by
    obtain ⟨ad, e, hc⟩ := h.2.2 hn
    exact ⟨ad, e, fun j hj => pw_cell_below hb (hc j hj)⟩⟩
theorem ReadsOf.take_ {w : World} {A : Option Addr} {n : Nat} {xs : List α} (h : ReadsOf enc d w A n xs) (i : Nat) (hi : i ≤ n) : ReadsOf enc d w A i (xs.take i) := by
  refine ⟨by rw [List.length_take, h.1]; omega, by have := h.2.1; omega, fun hp => ?_⟩
  obtain ⟨ad, e, hc⟩ := h.2.2 (by omega)
  refine ⟨ad, e, fun j hj => ?_⟩
  rw [hc j (by omega)]
  simp [List.getD_eq_getElem?_getD, hj]
end
section
variable {α : Type} {P : Program} {ops : Array Oper} {rest : List Oper} {o : Oper} {a : Act} {Q : Exit → Act → World → Prop}
theorem print_append_row_of {w0 W : World} (enc : α → Value) (d : α) (base : Nat) (hgd : o.guard = none) (s x : Operand) (t e : TypeId) (z : Value) (bytes : Nat)
    (ho : o.op = .call { callee := .builtin .append, args := #[s, x], argTypes := #[t, t] })
    (ht : P.underlying t = some (.slice e)) (hinfo : (P.info? e).map (fun i => (i.zero, i.size, i.bytes)) = some (some z, 1, bytes)) (hz : z.cells.size = 1) (hb0 : 0 < bytes) (h1 : ∀ x : α, (enc x).oneCell' = true)
    (v : Value) (xs ys : List α) (A : Option Addr) (m c : Nat) (hs : a.eval s = v) (hx : a.eval x = .slice A m c)
    (HO : W.ownsRow base e 1 v xs.length (encs enc xs)) (HR : ReadsOf enc d W A m ys) (HB : Below base w0 W) (hbase : base ≤ W.heap.size) (hl : (xs.length + m) * bytes ≤ 140737488355328)
    (h : ∀ v1 w1, w1.ownsRow base e 1 v1 (xs ++ ys).length (encs enc (xs ++ ys)) → Below base w0 w1 → W.grownBy w1 v.ownBlock → (v1.ownBlock = v.ownBlock ∨ ∃ b, v1.ownBlock = some b ∧ W.heap.size ≤ b) → wpList P ops Q rest (a.put o.dst v1) w1) :
    wpList P ops Q (o :: rest) a W := by
  obtain ⟨i0, hi, hzz⟩ := Option.map_eq_some_iff.1 hinfo
  simp only [Prod.mk.injEq] at hzz
  obtain ⟨hz0, hz1, hz2⟩ := hzz
  have hm : ys.length = m := HR.1
  have hlen : xs.length + m ≤ 140737488355328 := Nat.le_trans (Nat.le_mul_of_pos_right _ hb0) hl
  have hrun : ∃ v1 w1, (Builtin.append_ #[t, t] o.type #[v, .slice A m c]).run P W = .ok v1 w1 ∧ w1.ownsRow base e 1 v1 (xs ++ ys).length (encs enc (xs ++ ys)) ∧ W.grownBy w1 v.ownBlock ∧ (v1.ownBlock = v.ownBlock ∨ v1.ownBlock = some W.heap.size) := by
    rcases A with _ | ad
    · have h0 : m = 0 := by
        rcases Nat.eq_zero_or_pos m with h0 | h0
        · exact h0
        · obtain ⟨ad, h, _⟩ := HR.2.2 h0
          cases h
      subst h0
      obtain rfl : ys = [] := List.eq_nil_of_length_eq_zero hm
      refine ⟨v, W, ?_, by simpa using HO, World.grownBy.refl W _, .inl rfl⟩
      rcases HO.2 with ⟨rfl, hn⟩ | ⟨g, cap, cur, rfl, _, _, hnc, _⟩
      · simp [Builtin.append_, run_underlying ht, sizeOf, typeInfo, hi, Builtin.lenOf, Builtin.firstCells]
      · simp [Builtin.append_, run_underlying ht, sizeOf, typeInfo, hi, Builtin.lenOf, Builtin.firstCells, hnc, storeCells]
    · have hcells : ∀ j u, (encs enc ys)[j]? = some u → W.cell? (ad.add j) = some u := by
        intro j u hu
        have hj : j < ys.length := by
          rcases Nat.lt_or_ge j ys.length with h | h
          · exact h
          · simp [encs, List.getElem?_eq_none h] at hu
        obtain ⟨ad', h', hc⟩ := HR.2.2 (by omega)
        injection h' with h'
        subst h'
        rw [encs_get (d := d) ys j hj] at hu
        rw [← hu]
        exact hc j (by omega)
      obtain ⟨v1, w1, hr, h2, h3, _, h5⟩ := run_append_own_at (P := P) W base t o.type e i0 z 1 bytes ht hi hz0 hz1 hz2 hz (by omega) v xs.length (encs enc xs) HO ad m c (encs enc ys) (by simp [encs, hm]) hcells
        (by intro u hu; simp only [encs, List.mem_map] at hu; obtain ⟨q, _, rfl⟩ := hu; exact h1 q) (by simp only [maxLen]; omega) hl hbase
      exact ⟨v1, w1, hr, by simpa [encs, hm] using h2, h3, h5⟩
  obtain ⟨v1, w1, hr, hown, hg, hat⟩ := hrun
  refine wpList_plain hgd fun K hK => ?_
  unfold Oper.wp execOp
  simp only [ho, resolve, invoke, builtin, Sem.run_bind, Sem.run_pure, Result.andThen_ok, List.map_toArray, List.map_cons, List.map_nil, hs, hx, hr]
  refine hK _ _ (h v1 w1 hown (HB.grown hg hbase (own_base HO)) hg ?_)
  rcases hat with hat | hat
  · exact .inl hat
  · exact .inr ⟨_, hat, Nat.le_refl _⟩
end
theorem blk_alloc {w : World} {g : Nat} {o : Obj} (h : w.heap[g]? = some o) (o' : Obj) : (w.alloc o').heap[g]? = some o := (Below.heap_alloc w o' g (blk_lt h)).trans h
theorem blk_drew {w : World} {g : Nat} {o : Obj} (h : w.heap[g]? = some o) : w.drew.heap[g]? = some o := h
theorem blk_drewN {w : World} {g : Nat} {o : Obj} (h : w.heap[g]? = some o) (n : Nat) : (w.drewN n).heap[g]? = some o := h
theorem blk_below {w w1 : World} {g : Nat} {o : Obj} (h : w.heap[g]? = some o) (hb : Below w.heap.size w w1) : w1.heap[g]? = some o := (hb.block g (blk_lt h)).trans h
theorem blk_new (w : World) (o : Obj) : (w.alloc o).heap[w.heap.size]? = some o := heap_alloc_new w o
section
variable {P : Program}
theorem results_ct {fn : Func} {p u : Tmp} {ty : TypeId} (h : fn.results = #[.cell p ty, .tmp u]) (tmps : Array Value) (w : World) (g : Nat) (t : TypeId) (cs : Array Value) (fr : Nat × Nat) (d : TypeDesc)
    (hp : tmps.getD p undef = .pointer (some ⟨g, 0, none⟩)) (hg : w.heap[g]? = some (.cells cs t fr))
    (hu : P.underlying ty = some d) (hd : (match d with | .struct _ | .array _ _ => true | _ => false) = true) (hi : (P.info? ty).map (·.size) = some cs.size) :
    (results fn tmps).run P w = .ok (.tuple #[.agg cs, tmps.getD u undef]) w := by
  have hp' : tmps[p]?.getD undef = .pointer (some ⟨g, 0, none⟩) := by simpa using hp
  simp [results, h, hp', asAddr, run_loadVar_row w g t ty cs fr d hg hu hd hi]
end
theorem own_le {w : World} {base n m c size : Nat} {e : TypeId} {A : Option Addr} {xs : List Value} (h : w.ownsRow base e size (.slice A m c) n xs) : m ≤ c := by
  rcases h.2 with ⟨he, _⟩ | ⟨g, cap, cur, he, _, _, hnc, _⟩
  · injection he with _ h2 h3
    omega
  · injection he with _ h2 h3
    omega
def OwnRow {α : Type} (R : α → List Value → Prop) (e : TypeId) (size : Nat) (w : World) (base : Nat) (v : Value) (ps : List α) : Prop :=
  ∃ inner, w.ownsRow base e size v ps.length inner ∧ Reps R size ps inner
section
variable {α : Type} {R R' : α → List Value → Prop} {e : TypeId} {size : Nat} {w w1 : World} {base : Nat} {v : Value} {ps : List α}
theorem OwnRow.none_ (R : α → List Value → Prop) (e : TypeId) (size : Nat) (w : World) (base : Nat) : OwnRow R e size w base (.slice none 0 0) [] := ⟨[], own_nil _ _ _ _, Reps.none _ _⟩
theorem OwnRow.imp_ (h : OwnRow R e size w base v ps) (hR : ∀ p c, R p c → R' p c) : OwnRow R' e size w base v ps := by
  obtain ⟨inner, ho, hr⟩ := h
  exact ⟨inner, ho, hr.imp_ hR⟩
theorem OwnRow.below (h : OwnRow R e size w base v ps) (hb : Below w.heap.size w w1) : OwnRow R e size w1 base v ps := by
  obtain ⟨inner, ho, hr⟩ := h
  exact ⟨inner, pw_own_below ho hb, hr⟩
theorem OwnRow.other (h : OwnRow R e size w base v ps) {row : Option Nat} (hg : w.grownBy w1 row) (hne : v.ownBlock = none ∨ v.ownBlock ≠ row) : OwnRow R e size w1 base v ps := by
  obtain ⟨inner, ho, hr⟩ := h
  exact ⟨inner, own_other ho hg hne, hr⟩
theorem OwnRow.keep (h : OwnRow R e size w base v ps) {g : Nat} {t : TypeId} {cells : Array Value} (hb : w.heap[g]? = some (.cells cells t (0, 0))) (ht : e ≠ t) (hk : KeepBut w w1 g none) : OwnRow R e size w1 base v ps := by
  obtain ⟨inner, ho, hr⟩ := h
  exact ⟨inner, hk.own ho (Ne.symm (own_ne ho hb ht)) (by cases v.ownBlock <;> simp), hr⟩
theorem OwnRow.reads (h : OwnRow R e size w base v ps) : ∃ A c, v = .slice A ps.length c ∧ ps.length ≤ c ∧ ReadsRow R size w A ps.length ps := by
  obtain ⟨inner, ho, hr⟩ := h
  obtain ⟨A, c, rfl, hrow⟩ := own_reads_row ho hr rfl
  exact ⟨A, c, rfl, own_le ho, hrow⟩
theorem OwnRow.lit (W : World) (base : Nat) {inner : List Value} (hr : Reps R size ps inner) (hb : base ≤ W.heap.size) (hm : ps.length ≤ 9223372036854775807) :
    OwnRow R e size (W.alloc (.cells inner.toArray e)) base (.slice (some ⟨W.heap.size, 0, none⟩) ps.length ps.length) ps := by
  have h := World.ownsRow_lit (base := base) (e := e) (size := size) W inner.toArray ps.length hb (by simpa [maxLen] using hm) (by simpa using hr.1)
  exact ⟨inner, by simpa using h, hr⟩
end
section
variable {P : Program} {ops : Array Oper} {rest : List Oper} {o : Oper} {a : Act} {Q : Exit → Act → World → Prop} {α : Type} {R : α → List Value → Prop}
theorem OwnRow.append {w0 W : World} (base : Nat) (hgd : o.guard = none) (s x : Operand) (t e : TypeId) (z : Value) (size bytes : Nat)
    (ho : o.op = .call { callee := .builtin .append, args := #[s, x], argTypes := #[t, t] })
    (ht : P.underlying t = some (.slice e)) (hinfo : (P.info? e).map (fun i => (i.zero, i.size, i.bytes)) = some (some z, size, bytes)) (hz : z.cells.size = size) (hs0 : 0 < size) (hb0 : 0 < bytes)
    (v : Value) (ps : List α) (p : α) (cs : List Value) (hs : a.eval s = v) (hx : a.eval x = .slice (some ⟨W.heap.size, 0, none⟩) 1 1) (hp : R p cs) (hcs : cs.length = size) (h1 : ∀ u ∈ cs, u.oneCell' = true)
    (HO : OwnRow R e size W base v ps) (HB : Below base w0 W) (hbase : base ≤ W.heap.size) (hl : (ps.length + 1) * bytes ≤ 140737488355328)
    (h : ∀ v1 w1, OwnRow R e size w1 base v1 (ps ++ [p]) → Below base w0 w1 → W.grownBy w1 v.ownBlock → (v1.ownBlock = v.ownBlock ∨ ∃ b, v1.ownBlock = some b ∧ W.heap.size ≤ b) → wpList P ops Q rest (a.put o.dst v1) w1) :
    wpList P ops Q (o :: rest) a (W.alloc (.cells cs.toArray e)) := by
  obtain ⟨inner, hown, hr⟩ := HO
  refine print_append_cells base hgd s x t e z size bytes ho ht hinfo hz hs0 hb0 v ps.length inner cs hs hx hcs h1 hown HB hbase hl ?_
  intro v1 w1 hown1 hb1 hg1 hat1
  exact h v1 w1 ⟨inner ++ cs, by rw [List.length_append, List.length_singleton]; exact hown1, hr.snoc hp hcs⟩ hb1 hg1 hat1
end
section
variable {P : Program} {ops : Array Oper} {o : Oper} {a : Act} {Q : Exit → Act → World → Prop} {K : Act → World → Prop} {α : Type} {R : α → List Value → Prop}
end
section
variable {α : Type} {P : Program}
theorem ReadsOf.len_ {enc : α → Value} {d : α} {w : World} {A : Option Addr} {n : Nat} {xs : List α} (h : ReadsOf enc d w A n xs) : ReadsOf enc d w A xs.length xs := by rw [h.1]; exact h
end
section
variable {P : Program} {ops : Array Oper} {rest : List Oper} {o : Oper} {a : Act} {Q : Exit → Act → World → Prop}
end
structure Kd (α : Type) where
  sz : Nat
  E : List Nat
  K : World → α → List Value → Prop
  M : World → Nat → (Nat → Prop) → α → List Value → Prop
  K_len : ∀ {w x cs}, K w x cs → cs.length = sz
  K_one : ∀ {w x cs}, K w x cs → ∀ u ∈ cs, u.oneCell' = true
  K_below : ∀ {w w1 : World} {x cs}, Below w.heap.size w w1 → K w x cs → K w1 x cs
  K_of_M : ∀ {w base ok x cs}, M w base ok x cs → K w x cs
  M_mono : ∀ {w base ok ok' x cs}, (∀ k, ok k → ok' k) → M w base ok x cs → M w base ok' x cs
  M_bound : ∀ {w : World} {base ok x cs}, M w base ok x cs → M w base (fun k => ok k ∧ base ≤ k ∧ k < w.heap.size ∧ ∃ q, q ∈ E ∧ ∃ cells, w.heap[k]? = some (.cells cells q (0, 0))) x cs
  M_move : ∀ {w w1 : World} {base ok x cs}, (∀ k, ok k → w1.heap[k]? = w.heap[k]?) → M w base ok x cs → M w1 base ok x cs
  M_lower : ∀ {w base base' ok x cs}, base' ≤ base → M w base ok x cs → M w base' ok x cs
theorem own_move {w w1 : World} {base : Nat} {e : TypeId} {size n : Nat} {v : Value} {xs : List Value} (h : w.ownsRow base e size v n xs) (hm : ∀ k, v.ownBlock = some k → w1.heap[k]? = w.heap[k]?) : w1.ownsRow base e size v n xs := by
  obtain ⟨h1, h2⟩ := h
  refine ⟨h1, ?_⟩
  rcases h2 with h2 | ⟨g, cap, cur, rfl, hg, hh, r⟩
  · exact .inl h2
  · exact .inr ⟨g, cap, cur, rfl, hg, (hm g (by simp [Value.ownBlock])).trans hh, r⟩
theorem own_typed {w : World} {base : Nat} {e : TypeId} {size n : Nat} {v : Value} {xs : List Value} (h : w.ownsRow base e size v n xs) (k : Nat) (hk : v.ownBlock = some k) : ∃ cells, w.heap[k]? = some (.cells cells e (0, 0)) := by
  rcases h.2 with ⟨rfl, _⟩ | ⟨g, cap, cur, rfl, hg, hh, r⟩
  · simp [Value.ownBlock] at hk
  · have : g = k := by simpa [Value.ownBlock] using hk
    subst this
    exact ⟨cur, hh⟩
namespace Kd
def C {α : Type} (d : Kd α) (w : World) (A : Option Addr) (n : Nat) (xs : List α) : Prop := ReadsRow (d.K w) d.sz w A n xs
def R {α : Type} (d : Kd α) (e : Nat) (w : World) (base : Nat) (ok : Nat → Prop) (v : Value) (xs : List α) : Prop :=
  (∀ k, v.ownBlock = some k → ok k) ∧ OwnRow (d.M w base (fun k => ok k ∧ some k ≠ v.ownBlock)) e d.sz w base v xs
section
variable {α : Type} {d : Kd α} {e : Nat} {w w1 : World} {base : Nat} {ok ok' : Nat → Prop} {v : Value} {xs : List α}
theorem C_below {A : Option Addr} {n : Nat} (h : d.C w A n xs) (hb : Below w.heap.size w w1) : d.C w1 A n xs := ReadsRow.imp_ h hb (fun _ _ hp => d.K_below hb hp)
theorem R_nil (d : Kd α) (e : Nat) (w : World) (base : Nat) (ok : Nat → Prop) : d.R e w base ok (.slice none 0 0) [] := ⟨fun k hk => by simp [Value.ownBlock] at hk, OwnRow.none_ _ _ _ _ _⟩
theorem R_mono (h : d.R e w base ok v xs) (hok : ∀ k, ok k → ok' k) : d.R e w base ok' v xs := ⟨fun k hk => hok k (h.1 k hk), h.2.imp_ (fun _ _ hp => d.M_mono (fun k hk => ⟨hok k hk.1, hk.2⟩) hp)⟩
theorem R_bound (h : d.R e w base ok v xs) : d.R e w base (fun k => ok k ∧ base ≤ k ∧ k < w.heap.size ∧ ∃ q, q ∈ e :: d.E ∧ ∃ cells, w.heap[k]? = some (.cells cells q (0, 0))) v xs := by
  obtain ⟨h0, inner, ho, hr⟩ := h
  refine ⟨fun k hk => ?_, inner, ho, hr.imp_ (fun _ _ hp => d.M_mono (fun k hk => ?_) (d.M_bound hp))⟩
  · obtain ⟨cells, hc⟩ := own_typed ho k hk
    exact ⟨h0 k hk, own_base ho k hk, own_lt ho k hk, e, List.mem_cons_self, cells, hc⟩
  · obtain ⟨⟨h1, h2⟩, h3, h4, q, hq, hc⟩ := hk
    exact ⟨⟨h1, h3, h4, q, List.mem_cons_of_mem _ hq, hc⟩, h2⟩
theorem R_move (h : d.R e w base ok v xs) (hm : ∀ k, ok k → w1.heap[k]? = w.heap[k]?) : d.R e w1 base ok v xs := by
  obtain ⟨h0, inner, ho, hr⟩ := h
  exact ⟨h0, inner, own_move ho (fun k hk => hm k (h0 k hk)), hr.imp_ (fun _ _ hp => d.M_move (fun k hk => hm k hk.1) hp)⟩
theorem R_lower {base' : Nat} (h : d.R e w base ok v xs) (hb : base' ≤ base) : d.R e w base' ok v xs := by
  obtain ⟨h0, inner, ho, hr⟩ := h
  exact ⟨h0, inner, own_weaken ho hb, hr.imp_ (fun _ _ hp => d.M_lower hb hp)⟩
theorem R_step (h : d.R e w base ok v xs) (hm : ∀ k, ok k → k < w.heap.size → w1.heap[k]? = w.heap[k]?) : d.R e w1 base ok v xs :=
  R_mono (R_move (R_bound h) (fun k hk => hm k hk.1 hk.2.2.1)) (fun _ hk => hk.1)
theorem M_step {x : α} {cs : List Value} (h : d.M w base ok x cs) (hm : ∀ k, ok k → k < w.heap.size → w1.heap[k]? = w.heap[k]?) : d.M w1 base ok x cs :=
  d.M_mono (fun _ hk => hk.1) (d.M_move (fun k hk => hm k hk.1 hk.2.2.1) (d.M_bound h))
theorem R_below (h : d.R e w base ok v xs) (hb : Below w.heap.size w w1) : d.R e w1 base ok v xs := R_step h (fun k _ hk => hb.block k hk)
theorem M_below {x : α} {cs : List Value} (h : d.M w base ok x cs) (hb : Below w.heap.size w w1) : d.M w1 base ok x cs := M_step h (fun k _ hk => hb.block k hk)
theorem R_grown (h : d.R e w base ok v xs) {row : Option Nat} (hg : w.grownBy w1 row) (hok : ∀ k, ok k → some k ≠ row) : d.R e w1 base ok v xs := R_step h (fun k ho hk => hg.block k hk (hok k ho))
theorem R_far (h : d.R e w base ok v xs) {p : Addr} (hok : ∀ k, ok k → k ≠ p.block) (u : Value) : d.R e (w.setCell p u) base ok v xs := R_step h (fun k ho _ => Below.heap_setCell w p u k (hok k ho))
theorem R_types (h : d.R e w base ok v xs) {g t : Nat} {cells : Array Value} (hb : w.heap[g]? = some (.cells cells t (0, 0))) (ht : ∀ q, q ∈ e :: d.E → q ≠ t) : d.R e w base (fun k => ok k ∧ k ≠ g) v xs :=
  R_mono (R_bound h) (fun k hk => ⟨hk.1, by
    obtain ⟨_, _, _, q, hq, cells', hc⟩ := hk
    rintro rfl
    rw [hc] at hb
    injection hb with hb
    injection hb with _ hb
    exact ht q hq hb⟩)
theorem R_set (h : d.R e w base ok v xs) {g t : Nat} {cells : Array Value} (hb : w.heap[g]? = some (.cells cells t (0, 0))) (ht : ∀ q, q ∈ e :: d.E → q ≠ t) (j : Nat) (u : Value) : d.R e (w.setCell ⟨g, j, none⟩ u) base ok v xs :=
  R_mono (R_far (p := ⟨g, j, none⟩) (R_types h hb ht) (fun _ hk => hk.2) u) (fun _ hk => hk.1)
theorem R_reads (h : d.R e w base ok v xs) : ∃ A c, v = .slice A xs.length c ∧ xs.length ≤ c ∧ d.C w A xs.length xs := by
  obtain ⟨A, c, he, hl, hr⟩ := OwnRow.reads h.2
  exact ⟨A, c, he, hl, hr.imp_ (Below.refl _ _) (fun _ _ hp => d.K_of_M hp)⟩
theorem R_slice (h : d.R e w base ok v xs) : ∃ A c, v = .slice A xs.length c := by
  obtain ⟨A, c, he, _⟩ := R_reads h
  exact ⟨A, c, he⟩
theorem R_own (h : d.R e w base ok v xs) : ∃ inner, w.ownsRow base e d.sz v xs.length inner := by
  obtain ⟨_, inner, ho, _⟩ := h
  exact ⟨inner, ho⟩
end
def scalar {α : Type} (enc : α → Value) (h1 : ∀ x, (enc x).oneCell' = true) : Kd α where
  sz := 1
  E := []
  K := fun _ x cs => cs = [enc x]
  M := fun _ _ _ x cs => cs = [enc x]
  K_len := fun h => by rw [h]; rfl
  K_one := fun h u hu => by
    rw [h] at hu
    rw [List.mem_singleton.1 hu]
    exact h1 _
  K_below := fun _ h => h
  K_of_M := fun h => h
  M_mono := fun _ h => h
  M_bound := fun h => h
  M_move := fun _ h => h
  M_lower := fun _ h => h
def int (k : IntKind) : Kd Int := scalar (Value.int k) (fun _ => rfl)
def bool : Kd Bool := scalar Value.bool (fun _ => rfl)
def string : Kd ByteArray := scalar Value.string (fun _ => rfl)
def slice {α : Type} (e : Nat) (d : Kd α) : Kd (List α) where
  sz := 1
  E := e :: d.E
  K := fun w xs cs => ∃ A c, cs = [.slice A xs.length c] ∧ xs.length ≤ c ∧ d.C w A xs.length xs
  M := fun w base ok xs cs => ∃ v, cs = [v] ∧ d.R e w base ok v xs
  K_len := by
    rintro w x cs ⟨A, c, rfl, _⟩
    rfl
  K_one := by
    rintro w x cs ⟨A, c, rfl, _⟩ u hu
    rw [List.mem_singleton.1 hu]
    rfl
  K_below := by
    rintro w w1 x cs hb ⟨A, c, rfl, hl, hr⟩
    exact ⟨A, c, rfl, hl, C_below hr hb⟩
  K_of_M := by
    rintro w base ok x cs ⟨v, rfl, h⟩
    obtain ⟨A, c, rfl, hl, hr⟩ := R_reads h
    exact ⟨A, c, rfl, hl, hr⟩
  M_mono := by
    rintro w base ok ok' x cs hok ⟨v, rfl, h⟩
    exact ⟨v, rfl, R_mono h hok⟩
  M_bound := by
    rintro w base ok x cs ⟨v, rfl, h⟩
    exact ⟨v, rfl, R_bound h⟩
  M_move := by
    rintro w w1 base ok x cs hm ⟨v, rfl, h⟩
    exact ⟨v, rfl, R_move h hm⟩
  M_lower := by
    rintro w base base' ok x cs hb ⟨v, rfl, h⟩
    exact ⟨v, rfl, R_lower h hb⟩
def pair {α β : Type} (a : Kd α) (b : Kd β) : Kd (α × β) where
  sz := a.sz + b.sz
  E := a.E ++ b.E
  K := fun w x cs => ∃ c0 c1, cs = c0 ++ c1 ∧ a.K w x.1 c0 ∧ b.K w x.2 c1
  M := fun w base ok x cs => ∃ c0 c1, cs = c0 ++ c1 ∧ a.M w base ok x.1 c0 ∧ b.M w base ok x.2 c1
  K_len := by
    rintro w x cs ⟨c0, c1, rfl, h0, h1⟩
    rw [List.length_append, a.K_len h0, b.K_len h1]
  K_one := by
    rintro w x cs ⟨c0, c1, rfl, h0, h1⟩ u hu
    rcases List.mem_append.1 hu with hu | hu
    · exact a.K_one h0 u hu
    · exact b.K_one h1 u hu
  K_below := by
    rintro w w1 x cs hb ⟨c0, c1, rfl, h0, h1⟩
    exact ⟨c0, c1, rfl, a.K_below hb h0, b.K_below hb h1⟩
  K_of_M := by
    rintro w base ok x cs ⟨c0, c1, rfl, h0, h1⟩
    exact ⟨c0, c1, rfl, a.K_of_M h0, b.K_of_M h1⟩
  M_mono := by
    rintro w base ok ok' x cs hok ⟨c0, c1, rfl, h0, h1⟩
    exact ⟨c0, c1, rfl, a.M_mono hok h0, b.M_mono hok h1⟩
  M_bound := by
    rintro w base ok x cs ⟨c0, c1, rfl, h0, h1⟩
    refine ⟨c0, c1, rfl, a.M_mono ?_ (a.M_bound h0), b.M_mono ?_ (b.M_bound h1)⟩
    · rintro k ⟨h2, h3, h4, q, hq, hc⟩
      exact ⟨h2, h3, h4, q, List.mem_append_left _ hq, hc⟩
    · rintro k ⟨h2, h3, h4, q, hq, hc⟩
      exact ⟨h2, h3, h4, q, List.mem_append_right _ hq, hc⟩
  M_move := by
    rintro w w1 base ok x cs hm ⟨c0, c1, rfl, h0, h1⟩
    exact ⟨c0, c1, rfl, a.M_move hm h0, b.M_move hm h1⟩
  M_lower := by
    rintro w base base' ok x cs hb ⟨c0, c1, rfl, h0, h1⟩
    exact ⟨c0, c1, rfl, a.M_lower hb h0, b.M_lower hb h1⟩
def iso {α β : Type} (d : Kd α) (f : β → α) : Kd β where
  sz := d.sz
  E := d.E
  K := fun w x cs => d.K w (f x) cs
  M := fun w base ok x cs => d.M w base ok (f x) cs
  K_len := d.K_len
  K_one := d.K_one
  K_below := d.K_below
  K_of_M := d.K_of_M
  M_mono := d.M_mono
  M_bound := d.M_bound
  M_move := d.M_move
  M_lower := d.M_lower
def bot {α : Type} (sz : Nat) (E : List Nat) : Kd α where
  sz := sz
  E := E
  K := fun _ _ _ => False
  M := fun _ _ _ _ _ => False
  K_len := fun h => h.elim
  K_one := fun h => h.elim
  K_below := fun _ h => h
  K_of_M := fun h => h
  M_mono := fun _ h => h
  M_bound := fun h => h
  M_move := fun _ h => h
  M_lower := fun _ h => h
def upto {α : Type} (F : Kd α → Kd α) (sz : Nat) (E : List Nat) : Nat → Kd α
  | 0 => bot sz E
  | n + 1 => F (upto F sz E n)
theorem C_get {α : Type} {d : Kd α} {w : World} {A : Option Addr} {n : Nat} {xs : List α} (h : d.C w A n xs) (z : α) (i : Int) (h0 : 0 ≤ i) (h1 : i < n) :
    ∃ ad c, A = some ad ∧ c.length = d.sz ∧ d.K w (xs.getD i.toNat z) c ∧ ∀ j u, c[j]? = some u → w.cell? (ad.add (i.toNat * d.sz + j)) = some u := ReadsRow.get_ h z i h0 h1
theorem R_appended {α : Type} {d : Kd α} {e base : Nat} {ok okp : Nat → Prop} {W w1 : World} {v v1 : Value} {xs : List α} {p : α} {inner cs : List Value} (h0 : ∀ k, v.ownBlock = some k → ok k) (hr : Reps (d.M W base (fun k => ok k ∧ some k ≠ v.ownBlock)) d.sz xs inner) (hp : d.M W base okp p cs) (hokp : ∀ k, okp k → ok k ∧ some k ≠ v.ownBlock) (hfresh : ∀ k, W.heap.size ≤ k → ok k)
    (hown : w1.ownsRow base e d.sz v1 (xs.length + 1) (inner ++ cs)) (hg : W.grownBy w1 v.ownBlock) (hat : v1.ownBlock = v.ownBlock ∨ ∃ b, v1.ownBlock = some b ∧ W.heap.size ≤ b) : d.R e w1 base ok v1 (xs ++ [p]) := by
  have hne : ∀ k, some k ≠ v.ownBlock → k < W.heap.size → some k ≠ v1.ownBlock := by
    intro k hk hlt
    rcases hat with hat | ⟨b, hb, hle⟩
    · rw [hat]; exact hk
    · rw [hb]
      intro he
      injection he with he
      omega
  have step : ∀ {q : α} {c : List Value} {o : Nat → Prop}, d.M W base o q c → (∀ k, o k → ok k ∧ some k ≠ v.ownBlock) → d.M w1 base (fun k => ok k ∧ some k ≠ v1.ownBlock) q c := by
    intro q c o hq ho
    have h1 := d.M_move (w1 := w1) (fun k hk => hg.block k hk.2.2.1 (ho k hk.1).2) (d.M_bound hq)
    exact d.M_mono (fun k hk => ⟨(ho k hk.1).1, hne k (ho k hk.1).2 hk.2.2.1⟩) h1
  refine ⟨fun k hk => ?_, inner ++ cs, by rw [List.length_append, List.length_singleton]; exact hown, ?_⟩
  · rcases hat with hat | ⟨b, hb, hle⟩
    · exact h0 k (hat ▸ hk)
    · rw [hb] at hk
      injection hk with hk
      exact hfresh k (by omega)
  · exact (hr.imp_ (fun _ _ hq => step hq (fun _ hk => hk))).snoc (step hp hokp) (d.K_len (d.K_of_M hp))
section
variable {P : Program} {ops : Array Oper} {rest : List Oper} {o : Oper} {a : Act} {Q : Exit → Act → World → Prop} {α : Type}
theorem R_append (d : Kd α) {w0 W : World} (base : Nat) (hgd : o.guard = none) (s x : Operand) (t e : TypeId) (z : Value) (bytes : Nat)
    (ho : o.op = .call { callee := .builtin .append, args := #[s, x], argTypes := #[t, t] })
    (ht : P.underlying t = some (.slice e)) (hinfo : (P.info? e).map (fun i => (i.zero, i.size, i.bytes)) = some (some z, d.sz, bytes)) (hz : z.cells.size = d.sz) (hs0 : 0 < d.sz) (hb0 : 0 < bytes)
    (v : Value) (xs : List α) (p : α) (cs : List Value) (ok okp : Nat → Prop) (hs : a.eval s = v) (hx : a.eval x = .slice (some ⟨W.heap.size, 0, none⟩) 1 1) (hp : d.M W base okp p cs) (hokp : ∀ k, okp k → ok k ∧ some k ≠ v.ownBlock) (hfresh : ∀ k, W.heap.size ≤ k → ok k)
    (HO : d.R e W base ok v xs) (HB : Below base w0 W) (hbase : base ≤ W.heap.size) (hl : (xs.length + 1) * bytes ≤ 140737488355328)
    (h : ∀ v1 w1, d.R e w1 base ok v1 (xs ++ [p]) → Below base w0 w1 → W.grownBy w1 v.ownBlock → (v1.ownBlock = v.ownBlock ∨ ∃ b, v1.ownBlock = some b ∧ W.heap.size ≤ b) → wpList P ops Q rest (a.put o.dst v1) w1) :
    wpList P ops Q (o :: rest) a (W.alloc (.cells cs.toArray e)) := by
  obtain ⟨h0, inner, hown, hr⟩ := HO
  refine print_append_cells base hgd s x t e z d.sz bytes ho ht hinfo hz hs0 hb0 v xs.length inner cs hs hx (d.K_len (d.K_of_M hp)) (d.K_one (d.K_of_M hp)) hown HB hbase hl ?_
  intro v1 w1 hown1 hb1 hg1 hat1
  exact h v1 w1 (R_appended h0 hr hp hokp hfresh hown1 hg1 hat1) hb1 hg1 hat1
end
section
variable {P : Program} {ops : Array Oper} {o : Oper} {a : Act} {Q : Exit → Act → World → Prop} {Kc : Act → World → Prop} {α : Type}
end
theorem reps_scalar {α : Type} {enc : α → Value} (xs : List α) : Reps (fun (x : α) (cs : List Value) => cs = [enc x]) 1 xs (encs enc xs) := by
  refine ⟨by simp [encs], fun j p hj => ?_⟩
  obtain ⟨hl, hp⟩ := List.getElem?_eq_some_iff.1 hj
  have hl' : j < (encs enc xs).length := by rw [encs_length]; exact hl
  rw [Nat.mul_one, List.drop_eq_getElem_cons hl']
  simp [encs, hp]
theorem R_of_own {α : Type} {enc : α → Value} {h1 : ∀ x, (enc x).oneCell' = true} {e : Nat} {w : World} {base : Nat} {ok : Nat → Prop} {v : Value} {xs : List α} (ho : w.ownsRow base e 1 v xs.length (encs enc xs)) (hok : ∀ k, v.ownBlock = some k → ok k) : (scalar enc h1).R e w base ok v xs := ⟨hok, encs enc xs, ho, reps_scalar xs⟩
theorem own_of_R {α : Type} {enc : α → Value} {h1 : ∀ x, (enc x).oneCell' = true} {e : Nat} {w : World} {base : Nat} {ok : Nat → Prop} {v : Value} {xs : List α} (h : (scalar enc h1).R e w base ok v xs) : w.ownsRow base e 1 v xs.length (encs enc xs) := by
  obtain ⟨_, inner, ho, hr⟩ := h
  have : inner = encs enc xs := by
    apply List.ext_getElem?
    intro j
    rcases Nat.lt_or_ge j xs.length with hj | hj
    · have h2 := hr.2 j _ (List.getElem?_eq_getElem hj)
      have hl : j < inner.length := by have := hr.1; simp [scalar] at this; omega
      have h3 : (inner.drop (j * 1)).take 1 = [enc xs[j]] := h2
      rw [Nat.mul_one, List.drop_eq_getElem_cons hl] at h3
      have h4 : inner[j] = enc xs[j] := by
        have h5 := congrArg List.head? h3
        rw [List.take_succ_cons] at h5
        exact Option.some.inj h5
      rw [List.getElem?_eq_getElem hl, h4]
      simp [encs, List.getElem?_eq_getElem hj]
    · have h3 : inner.length = xs.length := by have := hr.1; simp [scalar] at this; omega
      rw [List.getElem?_eq_none (by omega), List.getElem?_eq_none (by rw [encs_length]; omega)]
  rw [← this]
  exact ho
theorem reads_of_C {α : Type} {enc : α → Value} {d : α} {h1 : ∀ x, (enc x).oneCell' = true} {w : World} {A : Option Addr} {n : Nat} {xs : List α} (h : (scalar enc h1).C w A n xs) : ReadsOf enc d w A n xs := by
  refine ⟨h.1, h.2.1, fun hn => ?_⟩
  obtain ⟨ad, e, hc⟩ := h.2.2 hn
  refine ⟨ad, e, fun j hj => ?_⟩
  have hl : j < xs.length := by have := h.1; omega
  obtain ⟨c, _, hK, hcell⟩ := hc j _ (List.getElem?_eq_getElem hl)
  have hK' : c = [enc xs[j]] := hK
  subst hK'
  have := hcell 0 _ rfl
  simpa [scalar, List.getD_eq_getElem?_getD, List.getElem?_eq_getElem hl] using this
end Kd
namespace Kd
structure Mono {α β : Type} (F : Kd α → Kd β) : Prop where
  sz : ∀ d d' : Kd α, d.sz = d'.sz → (F d).sz = (F d').sz
  K : ∀ d d' : Kd α, d.sz = d'.sz → (∀ w x cs, d.K w x cs → d'.K w x cs) → ∀ w x cs, (F d).K w x cs → (F d').K w x cs
  M : ∀ d d' : Kd α, d.sz = d'.sz → (∀ w base ok x cs, d.M w base ok x cs → d'.M w base ok x cs) → ∀ w base ok x cs, (F d).M w base ok x cs → (F d').M w base ok x cs
section
variable {α : Type} {F : Kd α → Kd α} {sz : Nat} {E : List Nat} {hs : ∀ n, (upto F sz E n).sz = sz} {hE : ∀ n q, q ∈ (upto F sz E n).E → q ∈ E}
end
end Kd
namespace Kd
end Kd
namespace Kd
section
variable {α β : Type} {d : Kd α} {d' : Kd β} {e e' : Nat} {w w1 W : World} {base b b' : Nat} {ok ok' okv oku : Nat → Prop} {v u : Value} {xs : List α} {ys : List β}
theorem C_alloc {A : Option Addr} {n : Nat} (h : d.C w A n xs) (o : Obj) : d.C (w.alloc o) A n xs := C_below h (below_alloc (Below.refl _ _) o)
theorem C_drew {A : Option Addr} {n : Nat} (h : d.C w A n xs) : d.C w.drew A n xs := C_below h (below_drew (Below.refl _ _))
theorem C_drewN {A : Option Addr} {n : Nat} (h : d.C w A n xs) (m : Nat) : d.C (w.drewN m) A n xs := C_below h (pw_below_drewN (Below.refl _ _) m)
theorem C_nil (d : Kd α) (w : World) : d.C w none ([] : List α).length [] := ⟨rfl, by simp, fun h => absurd h (Nat.lt_irrefl 0)⟩
theorem R_reads' {A : Option Addr} {n c : Nat} (h : d.R e w base ok (.slice A n c) xs) : n = xs.length ∧ n ≤ c ∧ d.C w A xs.length xs := by
  obtain ⟨A', c', he, hl, hr⟩ := R_reads h
  injection he with h1 h2 h3
  subst h1
  exact ⟨h2, by omega, hr⟩
theorem R_lt (h : d.R e w base ok v xs) : ∀ k, v.ownBlock = some k → k < w.heap.size := by
  obtain ⟨inner, ho⟩ := R_own h
  exact own_lt ho
theorem R_base (h : d.R e w base ok v xs) : ∀ k, v.ownBlock = some k → base ≤ k := by
  obtain ⟨inner, ho⟩ := R_own h
  exact own_base ho
end
section
variable {w W : World} {A : Option Addr} {n : Nat}
theorem at_string {xs : List ByteArray} (h : Kd.string.C w A n xs) (i : Int) (h0 : 0 ≤ i) (h1 : i < n) : ∃ ad, A = some ad ∧ w.cell? (ad.add i.toNat) = some (.string (rdOf ByteArray.empty xs i)) :=
  ReadsOf.at_ (reads_of_C (enc := Value.string) (d := ByteArray.empty) (h1 := fun _ => rfl) h) i h0 h1
variable {α : Type} {enc : α → Value} {h1 : ∀ x, (enc x).oneCell' = true} {e base g cap : Nat} {ok : Nat → Prop} {xs : List α}
end
section
variable {P : Program} {ops : Array Oper} {rest : List Oper} {o : Oper} {a : Act} {Q : Exit → Act → World → Prop}
theorem event_run {W w1 : World} {v : Value} (hgd : o.guard = none) (hrun : (execOp a.eval o).run P W = .ok (.value v) w1) (h : wpList P ops Q rest (a.put o.dst v) w1) : wpList P ops Q (o :: rest) a W := by
  refine wpList_plain hgd fun K hK => ?_
  unfold Oper.wp
  rw [hrun]
  exact hK _ _ h
variable {α : Type}
theorem R_lit (d : Kd α) {w0 W : World} (base e : Nat) (hgd : o.guard = none) {N : Tmp} (_hd : o.dst = some N) {xs : List α} {inner : List Value} {ok okp : Nat → Prop}
    (hrun : (execOp a.eval o).run P W = .ok (.value (.slice (some ⟨W.heap.size, 0, none⟩) xs.length xs.length)) (W.alloc (.cells inner.toArray e)))
    (hrep : Reps (d.M W base okp) d.sz xs inner) (hok : ∀ k, okp k → ok k) (hfresh : ok W.heap.size) (HB : Below base w0 W) (hbase : base ≤ W.heap.size) (hm : xs.length ≤ 9223372036854775807)
    (h : ∀ v1 w1, d.R e w1 base ok v1 xs → Below base w0 w1 → W.grownBy w1 none → (∃ b, v1.ownBlock = some b ∧ W.heap.size ≤ b) → wpList P ops Q rest (a.put o.dst v1) w1) : wpList P ops Q (o :: rest) a W := by
  refine event_run hgd hrun (h _ _ ⟨fun k hk => ?_, inner, ?_, ?_⟩ (HB.alloc hbase _) (World.grownBy_alloc W _ none) ⟨W.heap.size, by simp [Value.ownBlock], Nat.le_refl _⟩)
  · have : W.heap.size = k := by simpa [Value.ownBlock] using hk
    subst this
    exact hfresh
  · have h2 := World.ownsRow_lit (base := base) (e := e) (size := d.sz) W inner.toArray xs.length hbase (by simpa [maxLen] using hm) (by simpa using hrep.1)
    simpa using h2
  · refine hrep.imp_ (fun p c hp => d.M_mono (fun k hk => ⟨hok k hk.1, fun he => ?_⟩) (M_below (d.M_bound hp) (below_alloc (Below.refl _ _) _)))
    have h3 : k = W.heap.size := by simpa [Value.ownBlock] using he
    have := hk.2.2.1
    omega
end
end Kd
section
variable {P : Program}
end
def QRow (w : World) (base : Nat) (e : TypeId) (size : Nat) (v : Value) (n : Nat) (xs : List Value) : Prop :=
  xs.length = n * size ∧
  ((n = 0 ∧ ∃ A, v = .slice A 0 0 ∧ ∀ a, A = some a → base ≤ a.block ∧ ∃ cur, w.heap[a.block]? = some (.cells cur e (0, 0))) ∨
   ∃ g off cap cur, v = .slice (some ⟨g, off * size, none⟩) n cap ∧ base ≤ g ∧ w.heap[g]? = some (.cells cur e (0, 0)) ∧ n ≤ cap ∧ off + cap ≤ maxLen ∧ cur.size = (off + cap) * size ∧ (cur.toList.drop (off * size)).take (n * size) = xs)
section
variable {w w1 : World} {base n size : Nat} {e : TypeId} {v : Value} {xs : List Value}
theorem q_of_own (h : w.ownsRow base e size v n xs) : QRow w base e size v n xs := by
  obtain ⟨h1, h2⟩ := h
  refine ⟨h1, ?_⟩
  rcases h2 with ⟨rfl, h0⟩ | ⟨g, cap, cur, rfl, hb, hh, hnc, hcm, hcs, ht⟩
  · exact .inl ⟨h0, none, rfl, fun a ha => by cases ha⟩
  · exact .inr ⟨g, 0, cap, cur, by rw [Nat.zero_mul], hb, hh, hnc, by rw [Nat.zero_add]; exact hcm, by rw [Nat.zero_add]; exact hcs, by rw [Nat.zero_mul, List.drop_zero]; exact ht⟩
end
section
variable {P : Program}
end
namespace Kd
def Q {α : Type} (d : Kd α) (e : Nat) (w : World) (base : Nat) (ok : Nat → Prop) (v : Value) (xs : List α) : Prop :=
  (∀ k, v.ownBlock = some k → ok k) ∧ ∃ inner, QRow w base e d.sz v xs.length inner ∧ Reps (d.M w base (fun k => ok k ∧ some k ≠ v.ownBlock)) d.sz xs inner
section
variable {α : Type} {d : Kd α} {e : Nat} {w w1 W : World} {base : Nat} {ok ok' : Nat → Prop} {v : Value} {xs : List α}
theorem Q_of_R (h : d.R e w base ok v xs) : d.Q e w base ok v xs := by
  obtain ⟨h0, inner, ho, hr⟩ := h
  exact ⟨h0, inner, q_of_own ho, hr⟩
theorem Q_nil (d : Kd α) (e : Nat) (w : World) (base : Nat) (ok : Nat → Prop) : d.Q e w base ok (.slice none 0 0) [] := Q_of_R (R_nil d e w base ok)
end
section
variable {P : Program} {ops : Array Oper} {rest : List Oper} {o : Oper} {a : Act} {Q' : Exit → Act → World → Prop} {Kc : Act → World → Prop} {α : Type}
end
end Kd
namespace Kd
section
variable {α : Type} {d : Kd α} {e e' : Nat} {w w1 W : World} {base : Nat} {ok : Nat → Prop} {u v : Value} {xs : List α}
theorem R_typed (h : d.R e w base ok v xs) : ∀ k, v.ownBlock = some k → ∃ cells, w.heap[k]? = some (.cells cells e (0, 0)) := by
  obtain ⟨inner, ho⟩ := R_own h
  exact fun k hk => own_typed ho k hk
theorem R_elder' (hu : d.R e W base ok u xs) (hbase : ∀ k, v.ownBlock = some k → W.heap.size ≤ k) (hb : Below W.heap.size W w1) : d.R e w1 base (fun k => ok k ∧ some k ≠ v.ownBlock) u xs :=
  R_mono (R_move (R_bound hu) (fun k hk => hb.block k hk.2.2.1)) (fun k hk => ⟨hk.1, fun he => by have := hbase k he.symm; have := hk.2.2.1; omega⟩)
theorem R_new' (h : d.R e w1 W.heap.size ok v xs) (hlt : ∀ k, u.ownBlock = some k → k < W.heap.size) : d.R e w1 W.heap.size (fun k => ok k ∧ some k ≠ u.ownBlock) v xs :=
  R_mono (R_bound h) (fun k hk => ⟨hk.1, fun he => by have := hlt k he.symm; have := hk.2.1; omega⟩)
theorem fresh' (hlt : ∀ k, u.ownBlock = some k → k < W.heap.size) : ∀ k, W.heap.size ≤ k → some k ≠ u.ownBlock := fun k hk he => by have := hlt k he.symm; omega
end
end Kd
namespace Kd
section
variable {α : Type} {d : Kd α} {e base g n cap : Nat} {ok okp : Nat → Prop} {W : World} {xs : List α}
end
end Kd
namespace Kd
section
variable {α : Type} {F : Kd α → Kd α} {sz : Nat} {E : List Nat} {hs : ∀ n, (upto F sz E n).sz = sz} {hE : ∀ n q, q ∈ (upto F sz E n).E → q ∈ E}
end
end Kd
namespace Kd
section
variable {P : Program} {ops : Array Oper} {rest : List Oper} {o : Oper} {a : Act} {Q : Exit → Act → World → Prop} {α : Type}
end
end Kd
namespace Kd
section
variable {P : Program} {ops : Array Oper} {rest : List Oper} {o : Oper} {a : Act} {Q : Exit → Act → World → Prop} {α : Type}
end
end Kd
theorem add_add (a : Addr) (i j : Nat) : (a.add i).add j = a.add (i + j) := by
  unfold Addr.add
  by_cases h1 : i = 0 <;> by_cases h2 : j = 0 <;> simp [h1, h2, Nat.add_assoc]
namespace Kd
section
variable {α : Type} {k : Kd α} {w : World} {A : Option Addr} {xs : List α} {m c : Nat}
theorem C_take (h : k.C w A xs.length xs) (hm : m ≤ xs.length) : k.C w A (xs.take m).length (xs.take m) := by
  have hl : (xs.take m).length = m := by rw [List.length_take]; omega
  refine ⟨rfl, by rw [hl]; have := h.2.1; omega, fun hp => ?_⟩
  obtain ⟨ad, e, hc⟩ := h.2.2 (by omega)
  refine ⟨ad, e, fun j p hj => hc j p ?_⟩
  rw [List.getElem?_take] at hj
  split at hj
  · exact hj
  · cases hj
end
end Kd
section
variable {P : Program}
end
theorem string_of_reads {P : Program} {w : World} {src dst e : TypeId} {A : Option Addr} {n c : Nat} {xs : List Int} (hs : P.underlying src = some (.slice e)) (he : P.underlying e = some (.int .u8)) (hd : P.underlying dst = some .string)
    (h : ReadsInt w .u8 A n xs) : (convert src dst (.slice A n c)).run P w = .ok (.string (strOfNums xs)) w := by
  have hn : xs.length = n := h.1
  rcases A with _ | ad
  · have h0 : n = 0 := by
      rcases Nat.eq_zero_or_pos n with h0 | h0
      · exact h0
      · obtain ⟨ad, h', _⟩ := h.2.2 h0
        cases h'
    subst h0
    obtain rfl : xs = [] := List.eq_nil_of_length_eq_zero hn
    exact run_convert_bytes_nil w src e hs he 0 c dst hd
  · have hl : (loadCells ad n).run P w = .ok (xs.map (Value.int .u8)).toArray w := by
      have := run_loadCells_list (P := P) w ad (xs.map (Value.int .u8)) (fun j v hj => by
        have hjl : j < xs.length := by
          rcases Nat.lt_or_ge j xs.length with h' | h'
          · exact h'
          · rw [List.getElem?_eq_none (by rw [List.length_map]; exact h')] at hj
            cases hj
        obtain ⟨ad', he', hc⟩ := h.2.2 (by omega)
        injection he' with he'
        subst he'
        rw [hc j (by omega)]
        rw [List.getElem?_map, List.getElem?_eq_getElem hjl] at hj
        simp at hj
        subst hj
        simp [List.getD_eq_getElem?_getD, List.getElem?_eq_getElem hjl])
      simpa [hn] using this
    rw [run_convert_bytes_string w src dst e _ n c hs he hd, run_bytesToString w ad n c xs hl, foldl_push_bytes]
    simp [strOfNums, ByteArray.empty, ByteArray.emptyWithCapacity]
    rfl
theorem Kd.C_string {P : Program} {w : World} {src dst e : TypeId} {A : Option Addr} {n c : Nat} {xs : List Int} (hs : P.underlying src = some (.slice e)) (he : P.underlying e = some (.int .u8)) (hd : P.underlying dst = some .string)
    (h : (Kd.int .u8).C w A n xs) : (convert src dst (.slice A n c)).run P w = .ok (.string (strOfNums xs)) w :=
  string_of_reads hs he hd (Kd.reads_of_C (enc := Value.int .u8) (d := (0 : Int)) (h1 := fun _ => rfl) h)
theorem below_size {w W : World} (h : Below w.heap.size w W) : w.heap.size ≤ W.heap.size := h.size
theorem below_step {w W w2 : World} (h : Below w.heap.size w W) (k : Below W.heap.size W w2) : Below w.heap.size w w2 := below_then h h.size k
theorem ReadsInt.nil (W : World) (k : IntKind) : ReadsInt W k none ([] : List Int).length [] := ⟨rfl, by simp, fun h => absurd h (Nat.lt_irrefl 0)⟩
theorem ReadsInt.drewN {W : World} {k : IntKind} {A : Option Addr} {n : Nat} {xs : List Int} (h : ReadsInt W k A n xs) (m : Nat) : ReadsInt (W.drewN m) k A n xs := h
theorem below_set {w W : World} {g j : Nat} {v : Value} (h : Below w.heap.size w W) (hg : w.heap.size ≤ g) : Below w.heap.size w (W.setCell ⟨g, j, none⟩ v) := h.setCell hg _
theorem keep_cell {w W : World} {g : Nat} (h : KeepBut w W g none) {a : Addr} {v : Value} (hc : w.cell? a = some v) (hne : a.block ≠ g) : W.cell? a = some v := by
  have := h.2 a.block (World.block_lt_of_cell? w a hc) hne (by simp)
  simpa [World.cell?, this] using hc
theorem add_block (a : Addr) (i : Nat) : (a.add i).block = a.block := by unfold Addr.add; split <;> rfl
theorem ReadsOf.nil {α : Type} (enc : α → Value) (d : α) (W : World) : ReadsOf enc d W none ([] : List α).length [] := ⟨rfl, by simp, fun h => absurd h (Nat.lt_irrefl 0)⟩
theorem ReadsOf.drewN {α : Type} {enc : α → Value} {d : α} {W : World} {A : Option Addr} {n : Nat} {xs : List α} (h : ReadsOf enc d W A n xs) (m : Nat) : ReadsOf enc d (W.drewN m) A n xs := h
theorem ReadsInt.keep {w W : World} {k : IntKind} {A : Option Addr} {n g : Nat} {xs : List Int} (h : ReadsInt w k A n xs) (hk : KeepBut w W g none) (hf : ∀ ad, A = some ad → 0 < n → ad.block ≠ g) : ReadsInt W k A n xs :=
  ⟨h.1, h.2.1, fun hn => by
    obtain ⟨ad, e, hc⟩ := h.2.2 hn
    exact ⟨ad, e, fun j hj => keep_cell hk (hc j hj) (by rw [add_block]; exact hf ad e hn)⟩⟩
theorem ReadsOf.keep {α : Type} {enc : α → Value} {d : α} {w W : World} {A : Option Addr} {n g : Nat} {xs : List α} (h : ReadsOf enc d w A n xs) (hk : KeepBut w W g none) (hf : ∀ ad, A = some ad → 0 < n → ad.block ≠ g) : ReadsOf enc d W A n xs :=
  ⟨h.1, h.2.1, fun hn => by
    obtain ⟨ad, e, hc⟩ := h.2.2 hn
    exact ⟨ad, e, fun j hj => keep_cell hk (hc j hj) (by rw [add_block]; exact hf ad e hn)⟩⟩
theorem blk_put {w : World} {g : Nat} {t : TypeId} {cs cs' : Array Value} (h : w.heap[g]? = some (.cells cs t (0, 0))) (i : Nat) (u : Value) (e : cs.setIfInBounds i u = cs') : (w.setCell ⟨g, i, none⟩ u).heap[g]? = some (.cells cs' t (0, 0)) := e ▸ blk_set h i u
theorem below_drew1 {base : Nat} {w W : World} (h : Below base w W) : Below base w W.drew := h.drew
namespace Kd
section
variable {α β : Type} {d : Kd α} {d' : Kd β} {e e' base base' n : Nat} {ok ok' : Nat → Prop} {w W w1 W1 : World} {v u : Value} {xs : List α} {ys : List β} {A : Option Addr} {c : Nat}
end
section
variable {α : Type} {enc : α → Value} {h1 : ∀ x, (enc x).oneCell' = true} {w W : World} {A : Option Addr} {n g : Nat} {xs : List α}
end
end Kd
namespace Kd
section
variable {α : Type} {d : Kd α} {e base g : Nat} {ok : Nat → Prop} {w w1 : World} {v : Value} {xs : List α} {o : Obj}
theorem freshB (hb : w.heap[g]? = some o) : ∀ k, w.heap.size ≤ k → k ≠ g := fun k hk => by have := blk_lt hb; omega
end
end Kd
section
variable {P : Program} {ops : Array Oper} {rest : List Oper} {o : Oper} {a : Act} {Q : Exit → Act → World → Prop}
theorem box_event {W : World} (hgd : o.guard = none) {N : Tmp} (_hd : o.dst = some N) {cs : Array Value} {t : TypeId}
    (hrun : (execOp a.eval o).run P W = .ok (.value (.pointer (some ⟨W.heap.size, 0, none⟩))) (W.alloc (.cells cs t (0, 0))))
    (h : ∀ g, g = W.heap.size → ∀ w1, w1.heap[g]? = some (.cells cs t (0, 0)) → Below W.heap.size W w1 → wpList P ops Q rest (a.put o.dst (.pointer (some ⟨g, 0, none⟩))) w1) : wpList P ops Q (o :: rest) a W :=
  Kd.event_run hgd hrun (h _ rfl _ (blk_new W _) (below_alloc (Below.refl _ _) _))
theorem Kd.R_append_row {α : Type} (enc : α → Value) (d : α) {h1 : ∀ x : α, (enc x).oneCell' = true} {w0 W : World} (base : Nat) (hgd : o.guard = none) (s x : Operand) (t e : TypeId) (z : Value) (bytes : Nat)
    (ho : o.op = .call { callee := .builtin .append, args := #[s, x], argTypes := #[t, t] })
    (ht : P.underlying t = some (.slice e)) (hinfo : (P.info? e).map (fun i => (i.zero, i.size, i.bytes)) = some (some z, 1, bytes)) (hz : z.cells.size = 1) (hb0 : 0 < bytes)
    (v : Value) (xs ys : List α) (A : Option Addr) (m c : Nat) (ok : Nat → Prop) (hs : a.eval s = v) (hx : a.eval x = .slice A m c) (hfresh : ∀ k, W.heap.size ≤ k → ok k)
    (HO : (Kd.scalar enc h1).R e W base ok v xs) (HR : (Kd.scalar enc h1).C W A m ys) (HB : Below base w0 W) (hbase : base ≤ W.heap.size) (hl : (xs.length + m) * bytes ≤ 140737488355328)
    (h : ∀ v1 w1, (Kd.scalar enc h1).R e w1 base ok v1 (xs ++ ys) → Below base w0 w1 → W.grownBy w1 v.ownBlock → (v1.ownBlock = v.ownBlock ∨ ∃ b, v1.ownBlock = some b ∧ W.heap.size ≤ b) → wpList P ops Q rest (a.put o.dst v1) w1) :
    wpList P ops Q (o :: rest) a W := by
  refine print_append_row_of (w0 := w0) enc d base hgd s x t e z bytes ho ht hinfo hz hb0 h1 v xs ys A m c hs hx (Kd.own_of_R HO) (Kd.reads_of_C (d := d) HR) HB hbase hl ?_
  intro v1 w1 hown hb hg hat
  refine h v1 w1 (Kd.R_of_own hown (fun k hk => ?_)) hb hg hat
  rcases hat with e1 | ⟨b, e1, hbb⟩
  · exact HO.1 k (by rw [← e1]; exact hk)
  · rw [e1] at hk
    injection hk with hk
    subst hk
    exact hfresh _ hbb
end
namespace Kd
section
variable {α : Type} {enc : α → Value} {h1 : ∀ x, (enc x).oneCell' = true} {e base g n cap : Nat} {ok : Nat → Prop} {W : World} {xs : List α}
end
end Kd
section
variable {P : Program} {ops : Array Oper} {rest : List Oper} {o : Oper} {a : Act} {Q : Exit → Act → World → Prop}
end
namespace Kd
section
variable {α : Type} {enc : α → Value} {h1 : ∀ x, (enc x).oneCell' = true} {e base g n cap : Nat} {ok : Nat → Prop} {W : World} {xs : List α}
end
end Kd
section
variable {P : Program} {ops : Array Oper} {rest : List Oper} {o : Oper} {a : Act} {Q : Exit → Act → World → Prop} {W : World}
theorem gate_dst {N : Tmp} (_hN : o.dst = some N) (h : wpList P ops Q (o :: rest) a W) : wpList P ops Q (o :: rest) a W := h
end
section
variable {P : Program} {ops : Array Oper} {o : Oper} {a : Act} {Q : Exit → Act → World → Prop} {Kc : Act → World → Prop}
namespace Kd
variable {α : Type}
end Kd
end
inductive Vals (P : Program) (tmps : Array Value) (w : World) : List ResultVar → List Value → Prop where
  | nil : Vals P tmps w [] []
  | tmp {u : Tmp} {rs : List ResultVar} {vs : List Value} (h : Vals P tmps w rs vs) : Vals P tmps w (.tmp u :: rs) (tmps.getD u undef :: vs)
  | cell {p : Tmp} {ty : TypeId} {rs : List ResultVar} {vs : List Value} (g : Nat) (t : TypeId) (cs : Array Value) (fr : Nat × Nat) (d : TypeDesc)
      (hp : tmps.getD p undef = .pointer (some ⟨g, 0, none⟩)) (hg : w.heap[g]? = some (.cells cs t fr))
      (hu : P.underlying ty = some d) (hd : (match d with | .struct _ | .array _ _ => true | _ => false) = true) (hi : (P.info? ty).map (·.size) = some cs.size)
      (h : Vals P tmps w rs vs) : Vals P tmps w (.cell p ty :: rs) (.agg cs :: vs)
section
variable {P : Program} {tmps : Array Value} {w : World}
end
namespace Kd
section
variable {P : Program} {α : Type}
end
section
variable {P : Program} {ops : Array Oper} {rest : List Oper} {o : Oper} {a : Act} {Q : Exit → Act → World → Prop} {Kc : Act → World → Prop} {α : Type}
end
end Kd
end Go.Proofs.YtbngbefchobfnaaGreatDoorW.PrintWords

namespace Go.Proofs.YtbngbefchobfnaaGreatDoorW.PrintLast
section
variable {P : Program} {ops : Array Oper} {Q : Exit → Act → World → Prop} {md : Region.Mode} {S : World → Prop} {ds : List Nat}
def Region.reachB (md : Region.Mode) (ops : Array Oper) (i : Nat) : Nat → Nat → Bool
 | 0, _ => false
 | fuel + 1, d => match ops[d]? with
  | some o => o.after.any fun e => Region.binds md e && (e.on == i || Region.reachB md ops i fuel e.on)
  | none => false
def Region.closedB (md : Region.Mode) (ops : Array Oper) (listed : Array Bool) : Bool :=
 (List.range ops.size).all fun j => !listed.getD j false || match ops[j]? with
  | some o => o.after.all fun e => !Region.binds md e || listed.getD e.on false
  | none => true
def Region.lastB (md : Region.Mode) (ops : Array Oper) (listed : Array Bool) (ds : List Nat) (i : Nat) : Bool :=
 ds.all fun d => listed.getD d true || Region.reachB md ops i ops.size d
def ListedClosed (md : Region.Mode) (ops : Array Oper) (listed : Array Bool) : Prop :=
 ∀ j oj, ops[j]? = some oj → listed.getD j false = true → ∀ e ∈ oj.after, Region.binds md e = true → listed.getD e.on false = true
theorem Region.closedB_spec {listed : Array Bool} (h : Region.closedB md ops listed = true) : ListedClosed md ops listed := by
 intro j oj hj hl e he hb
 have hlt : j < ops.size := (Array.getElem?_eq_some_iff.1 hj).1
 have h1 := List.all_eq_true.1 h j (List.mem_range.2 hlt)
 simp only [hl, hj, Bool.not_true, Bool.false_or] at h1
 have h2 := Array.all_eq_true_iff_forall_mem.1 h1 e he
 simpa [hb] using h2
theorem ListedClosed.set {listed : Array Bool} {i : Nat} (h : ListedClosed md ops listed) (hi : i ∈ Region.ready md ops listed) : ListedClosed md ops (listed.setIfInBounds i true) := by
 obtain ⟨_, oi, hoi, hall⟩ := mem_ready.1 hi
 intro j oj hj hl e he hb
 by_cases hij : i = j
 ·subst hij
  have : oj = oi := Option.some.inj (hj.symm.trans hoi)
  subst this
  exact getD_set_true (hall e he hb)
 ·rw [getD_set_ne false hij] at hl
  exact getD_set_true (h j oj hj hl e he hb)
theorem Region.reach_listed {listed : Array Bool} {i : Nat} (hc : ListedClosed md ops listed) : ∀ (fuel d : Nat), Region.reachB md ops i fuel d = true → listed.getD d false = true → listed.getD i false = true
 | 0, _, h, _ => by simp [Region.reachB] at h
 | fuel + 1, d, h, hl => by
  unfold Region.reachB at h
  cases ho : ops[d]? with
  | none => rw [ho] at h; simp at h
  | some o =>
   rw [ho] at h
   obtain ⟨e, he, h1⟩ := Array.any_eq_true'.1 h
   simp only [Bool.and_eq_true, Bool.or_eq_true, beq_iff_eq] at h1
   have hle := hc d o ho hl e he h1.1
   rcases h1.2 with h2 | h2
   ·rw [← h2]; exact hle
   ·exact Region.reach_listed hc fuel e.on h2 hle
theorem Region.reach_not_ready {listed : Array Bool} {i d fuel : Nat} (hc : ListedClosed md ops listed) (hr : Region.reachB md ops i fuel d = true) (hun : listed.getD i true = false) : d ∉ Region.ready md ops listed := by
 intro hd
 obtain ⟨_, o, ho, hall⟩ := mem_ready.1 hd
 have hi : listed.getD i false = true := by
  cases fuel with
  | zero => simp [Region.reachB] at hr
  | succ n =>
   unfold Region.reachB at hr
   rw [ho] at hr
   obtain ⟨e, he, h1⟩ := Array.any_eq_true'.1 hr
   simp only [Bool.and_eq_true, Bool.or_eq_true, beq_iff_eq] at h1
   have hle := hall e he h1.1
   rcases h1.2 with h2 | h2
   ·rw [← h2]; exact hle
   ·exact Region.reach_listed hc n e.on h2 hle
 rcases Nat.lt_or_ge i listed.size with h' | h'
 ·simp [h'] at hun hi
  rw [hun] at hi
  cases hi
 ·simp [Array.getElem?_eq_none h'] at hun
def wpAnyLast (P : Program) (md : Region.Mode) (ops : Array Oper) (Q : Exit → Act → World → Prop) (S : World → Prop) (ds : List Nat) : Nat → Array Bool → Act → World → Prop
 | 0, listed, a, w => Region.ready md ops listed = [] ∧ Q .normal a w
 | fuel + 1, listed, a, w =>
  (Region.ready md ops listed = [] → Q .normal a w) ∧
  ∀ i ∈ Region.ready md ops listed, wpOp P ops Q i (fun a' w' => (i ∉ ds → S w → S w') ∧ wpAnyLast P md ops Q S ds fuel (listed.setIfInBounds i true) a' w') a w
theorem wpAny_of_last : ∀ (fuel : Nat) (listed : Array Bool) (a : Act) (w : World), wpAnyLast P md ops Q S ds fuel listed a w → wpAny P md ops Q fuel listed a w
 | 0, _, _, _, h => h
 | fuel + 1, _, _, _, h => ⟨h.1, fun i hi => wpOp_mono (fun a' w' h' => wpAny_of_last fuel _ a' w' h'.2) (h.2 i hi)⟩
theorem wpAnyLast_first {i : Nat} {oi : Oper} {v : Value} (hi : ops[i]? = some oi) (hsel : ∀ (j : Nat) (o : Oper) cs b, ops[j]? = some o → o.op ≠ .select cs b)
  (hQ : ∀ c a w, Q (.panic c) (a.put oi.dst v) w → Q (.panic c) a w) (n : Nat) :
  ∀ (fuel : Nat) (listed : Array Bool) (a : Act) (w : World),
   (∀ j oj, ops[j]? = some oj → j ≠ i → listed.getD j true = false → (∀ e ∈ oj.after, Region.binds md e = true → e.on ≠ i) → oi.apart ops oj = true) →
   ListedClosed md ops listed → (∀ d ∈ ds, listed.getD d true = false → Region.reachB md ops i n d = true) →
   i ∈ Region.ready md ops listed → YieldsIf P ops S oi v a → S w →
   wpAnyLast P md ops Q S ds fuel (listed.setIfInBounds i true) (a.put oi.dst v) w → wpAnyLast P md ops Q S ds (fuel + 1) listed a w := by
 intro fuel
 induction fuel with
 | zero =>
  intro listed a w _ _ _ hr hy hS H
  refine ⟨fun h => (by rw [h] at hr; cases hr), fun j hj => ?_⟩
  by_cases hji : j = i
  ·subst hji; exact hy.wpOp hi hS ⟨fun _ h => h, H⟩
  ·have := ready_mono hj hji
   rw [H.1] at this
   cases this
 | succ fuel ih =>
  intro listed a w hfree hc hd hr hy hS H
  refine ⟨fun h => (by rw [h] at hr; cases hr), fun j hj => ?_⟩
  by_cases hji : j = i
  ·subst hji; exact hy.wpOp hi hS ⟨fun _ h => h, H⟩
  ·have h1 := H.2 j (ready_mono hj hji)
   obtain ⟨hjun, oj, hoj, hall⟩ := mem_ready.1 hj
   have hiun := (mem_ready.1 hr).1
   have hnot : ∀ e ∈ oj.after, Region.binds md e = true → e.on ≠ i := fun e he hb heq => by
    have h1 := hall e he hb
    rw [heq] at h1
    rcases Nat.lt_or_ge i listed.size with h' | h'
    ·simp [h'] at hiun h1; rw [hiun] at h1; cases h1
    ·simp [Array.getElem?_eq_none h'] at h1
   have hjd : j ∉ ds := fun hm => Region.reach_not_ready hc (hd j hm hjun) hiun hj
   have h2 := wpOp_putIf hoj (hfree j oj hoj hji hjun hnot) (fun cs b => hsel i oi cs b hi) (fun cs b => hsel j oj cs b hoj) hQ hy h1
   have hfree' : ∀ k ok, ops[k]? = some ok → k ≠ i → (listed.setIfInBounds j true).getD k true = false →
     (∀ e ∈ ok.after, Region.binds md e = true → e.on ≠ i) → oi.apart ops ok = true := fun k ok hk hki hun hno => by
    refine hfree k ok hk hki ?_ hno
    by_cases hjk : j = k
    ·subst hjk; exact hjun
    ·rw [getD_set_ne true hjk] at hun; exact hun
   have hd' : ∀ d ∈ ds, (listed.setIfInBounds j true).getD d true = false → Region.reachB md ops i n d = true := fun d hm hun => by
    refine hd d hm ?_
    by_cases hjk : j = d
    ·subst hjk; exact hjun
    ·rw [getD_set_ne true hjk] at hun; exact hun
   refine wpOp_mono (fun a' w' h3 => ⟨h3.2.1, ih (listed.setIfInBounds j true) a' w' hfree' (hc.set hj) hd' (ready_mono hr (Ne.symm hji)) h3.1 (h3.2.1 hjd hS) ?_⟩) h2
   rw [Array.setIfInBounds_comm _ _ hji]
   exact h3.2.2
theorem wpAnyLast_any {i : Nat} {oi : Oper} {v : Value} (hi : ops[i]? = some oi) (hsel : ∀ (j : Nat) (o : Oper) cs b, ops[j]? = some o → o.op ≠ .select cs b)
  (hQ : ∀ c a w, Q (.panic c) (a.put oi.dst v) w → Q (.panic c) a w) :
  ∀ (fuel : Nat) (listed : Array Bool) (a : Act) (w : World),
   (∀ j oj, ops[j]? = some oj → j ≠ i → listed.getD j true = false → (∀ e ∈ oj.after, Region.binds md e = true → e.on ≠ i) → oi.apart ops oj = true) →
   i ∈ Region.ready md ops listed → Yields P ops oi v a →
   wpAnyLast P md ops Q S ds fuel (listed.setIfInBounds i true) (a.put oi.dst v) w → wpAnyLast P md ops Q S ds (fuel + 1) listed a w := by
 intro fuel
 induction fuel with
 | zero =>
  intro listed a w _ hr hy H
  refine ⟨fun h => (by rw [h] at hr; cases hr), fun j hj => ?_⟩
  by_cases hji : j = i
  ·subst hji; exact (hy.yieldsIf (S := fun _ => True)).wpOp hi trivial ⟨fun _ h => h, H⟩
  ·have := ready_mono hj hji
   rw [H.1] at this
   cases this
 | succ fuel ih =>
  intro listed a w hfree hr hy H
  refine ⟨fun h => (by rw [h] at hr; cases hr), fun j hj => ?_⟩
  by_cases hji : j = i
  ·subst hji; exact (hy.yieldsIf (S := fun _ => True)).wpOp hi trivial ⟨fun _ h => h, H⟩
  ·have h1 := H.2 j (ready_mono hj hji)
   obtain ⟨hjun, oj, hoj, hall⟩ := mem_ready.1 hj
   have hiun := (mem_ready.1 hr).1
   have hnot : ∀ e ∈ oj.after, Region.binds md e = true → e.on ≠ i := fun e he hb heq => by
    have h1 := hall e he hb
    rw [heq] at h1
    rcases Nat.lt_or_ge i listed.size with h' | h'
    ·simp [h'] at hiun h1; rw [hiun] at h1; cases h1
    ·simp [Array.getElem?_eq_none h'] at h1
   have h2 := wpOp_put hoj (hfree j oj hoj hji hjun hnot) (fun cs b => hsel i oi cs b hi) (fun cs b => hsel j oj cs b hoj) hQ hy h1
   have hfree' : ∀ k ok, ops[k]? = some ok → k ≠ i → (listed.setIfInBounds j true).getD k true = false →
     (∀ e ∈ ok.after, Region.binds md e = true → e.on ≠ i) → oi.apart ops ok = true := fun k ok hk hki hun hno => by
    refine hfree k ok hk hki ?_ hno
    by_cases hjk : j = k
    ·subst hjk; exact hjun
    ·rw [getD_set_ne true hjk] at hun; exact hun
   refine wpOp_mono (fun a' w' h3 => ⟨h3.2.1, ih (listed.setIfInBounds j true) a' w' hfree' (ready_mono hr (Ne.symm hji)) h3.1 ?_⟩) h2
   rw [Array.setIfInBounds_comm _ _ hji]
   exact h3.2.2
theorem wpAnyLast_take {i : Nat} {oi : Oper} {v : Value} {fuel : Nat} {listed : Array Bool} {a : Act} {w : World} (hi : ops[i]? = some oi)
  (hs : Region.noSelect ops = true) (hf : Region.free md ops listed i = true) (hr : (Region.ready md ops listed).contains i = true)
  (hc : Region.closedB md ops listed = true) (hl : Region.lastB md ops listed ds i = true)
  (hQ : ∀ c a w, Q (.panic c) (a.put oi.dst v) w → Q (.panic c) a w) (hy : YieldsIf P ops S oi v a) (hS : S w)
  (h : wpAnyLast P md ops Q S ds fuel (listed.setIfInBounds i true) (a.put oi.dst v) w) : wpAnyLast P md ops Q S ds (fuel + 1) listed a w :=
 wpAnyLast_first hi (Region.noSelect_spec hs) hQ ops.size fuel listed a w (Region.free_spec hi hf) (Region.closedB_spec hc)
  (fun d hm hun => by have := List.all_eq_true.1 hl d hm; rw [hun] at this; simpa using this) (by simpa using hr) hy hS h
theorem wpAnyLast_all {rs : List Nat} {fuel : Nat} {listed : Array Bool} {a : Act} {w : World} (hr : Region.ready md ops listed = rs) (hne : rs ≠ [])
  (h : ∀ i ∈ rs, wpOp P ops Q i (fun a' w' => (i ∉ ds → S w → S w') ∧ wpAnyLast P md ops Q S ds fuel (listed.setIfInBounds i true) a' w') a w) : wpAnyLast P md ops Q S ds (fuel + 1) listed a w :=
 ⟨fun h0 => absurd (hr ▸ h0) hne, hr ▸ h⟩
theorem wpAnyLast_done {listed : Array Bool} {a : Act} {w : World} (hr : Region.ready md ops listed = []) (h : Q .normal a w) :
  ∀ fuel, wpAnyLast P md ops Q S ds fuel listed a w
 | 0 => ⟨hr, h⟩
 | _ + 1 => ⟨fun _ => h, by rw [hr]; simp⟩
theorem wp_region_last {id : Nat} {a : Act} {w : World} (hm : P.follows .mixedOrders = true)
  (h : wpAnyLast P .any ops Q S ds ops.size (Array.replicate ops.size false) a { w with drawn := w.drawn + 1 }) : (Code.region id ops true).wp P Q a w :=
 wp_region_any hm (wpAny_of_last _ _ _ _ h)
end
section
variable {P : Program} {ops : Array Oper} {Q : Exit → Act → World → Prop} {md : Region.Mode} {S : World → Prop} {ds : List Nat}
def AllReadyL (P : Program) (md : Region.Mode) (ops : Array Oper) (Q : Exit → Act → World → Prop) (S : World → Prop) (ds : List Nat) (fuel : Nat) (listed : Array Bool) (a : Act) (w : World) (rs : List Nat) : Prop :=
 ∀ i ∈ rs, wpOp P ops Q i (fun a' w' => (i ∉ ds → S w → S w') ∧ wpAnyLast P md ops Q S ds fuel (listed.setIfInBounds i true) a' w') a w
theorem AllReadyL.nil {fuel : Nat} {listed : Array Bool} {a : Act} {w : World} : AllReadyL P md ops Q S ds fuel listed a w [] := fun _ h => by cases h
theorem AllReadyL.cons {fuel : Nat} {listed : Array Bool} {a : Act} {w : World} {i : Nat} {o : Oper} {rs : List Nat} (ho : ops[i]? = some o) (hd : i ∉ ds)
  (h : ∀ K' : Act → World → Prop, Shut (∀ a w, S w → (S w → wpAnyLast P md ops Q S ds fuel (listed.setIfInBounds i true) a w) → K' a w) → if Region.wanted o (yielded ops a.tmps) = true then Oper.wp P o a w K' Q else K' (a.put o.dst undef) w)
  (hs : AllReadyL P md ops Q S ds fuel listed a w rs) : AllReadyL P md ops Q S ds fuel listed a w (i :: rs) := fun j hj => by
 rcases List.mem_cons.1 hj with rfl | hj
 ·exact wpOp_step ho (fun K' hK => h K' (fun a w hS hW => hK a w ⟨fun _ _ => hS, hW hS⟩))
 ·exact hs j hj
theorem AllReadyL.cons_last {fuel : Nat} {listed : Array Bool} {a : Act} {w : World} {i : Nat} {o : Oper} {rs : List Nat} (ho : ops[i]? = some o) (hd : i ∈ ds)
  (h : ∀ K' : Act → World → Prop, Shut (∀ a w, wpAnyLast P md ops Q S ds fuel (listed.setIfInBounds i true) a w → K' a w) → if Region.wanted o (yielded ops a.tmps) = true then Oper.wp P o a w K' Q else K' (a.put o.dst undef) w)
  (hs : AllReadyL P md ops Q S ds fuel listed a w rs) : AllReadyL P md ops Q S ds fuel listed a w (i :: rs) := fun j hj => by
 rcases List.mem_cons.1 hj with rfl | hj
 ·exact wpOp_step ho (fun K' hK => h K' (fun a w hW => hK a w ⟨fun hn => absurd hd hn, hW⟩))
 ·exact hs j hj
theorem wpAnyLast_ready {rs : List Nat} {fuel : Nat} {listed : Array Bool} {a : Act} {w : World} (hr : Region.ready md ops listed = rs) (hne : rs ≠ [])
  (h : AllReadyL P md ops Q S ds fuel listed a w rs) : wpAnyLast P md ops Q S ds (fuel + 1) listed a w := wpAnyLast_all hr hne h
theorem start_ {id n : Nat} {a : Act} {w : World} (l : Array Bool) (hm : P.follows .mixedOrders = true) (hn : ops.size = n) (hl : Array.replicate n false = l) (hS : S w.drew)
  (h : S w.drew → wpAnyLast P .any ops Q S ds n l a w.drew) : (Code.region id ops true).wp P Q a w := by
 subst hn
 subst hl
 exact wp_region_last hm (h hS)
def takeB (md : Region.Mode) (ops : Array Oper) (ds : List Nat) (l l' : Array Bool) (i : Nat) : Bool :=
 Region.noSelect ops && Region.free md ops l i && (Region.ready md ops l).contains i && Region.closedB md ops l && Region.lastB md ops l ds i && (l.setIfInBounds i true == l')
theorem take_ {i : Nat} {N : Option Tmp} {oi : Oper} {v : Value} {fuel : Nat} {l : Array Bool} {a : Act} {w : World} (l' : Array Bool) (hi : ops[i]? = some oi) (hN : oi.dst = N) (hc : takeB md ops ds l l' i = true)
  (hQ : ∀ c a w, Q (.panic c) (a.put oi.dst v) w → Q (.panic c) a w) (hy : YieldsIf P ops S oi v a) (hS : S w) {a' : Act} (ha : a.put N v = a')
  (h : wpAnyLast P md ops Q S ds fuel l' a' w) : wpAnyLast P md ops Q S ds (fuel + 1) l a w := by
 subst ha
 subst hN
 simp only [takeB, Bool.and_eq_true, beq_iff_eq] at hc
 obtain ⟨⟨⟨⟨⟨h1, h2⟩, h3⟩, h4⟩, h5⟩, h6⟩ := hc
 subst h6
 exact wpAnyLast_take hi h1 h2 h3 h4 h5 hQ hy hS h
def anyB (md : Region.Mode) (ops : Array Oper) (l l' : Array Bool) (i : Nat) : Bool :=
 Region.noSelect ops && Region.free md ops l i && (Region.ready md ops l).contains i && (l.setIfInBounds i true == l')
theorem pure_ {i : Nat} {N : Option Tmp} {oi : Oper} {v : Value} {fuel : Nat} {l : Array Bool} {a : Act} {w : World} (l' : Array Bool) (hi : ops[i]? = some oi) (hN : oi.dst = N) (hc : anyB md ops l l' i = true)
  (hQ : ∀ c a w, Q (.panic c) (a.put oi.dst v) w → Q (.panic c) a w) (hy : Yields P ops oi v a) {a' : Act} (ha : a.put N v = a')
  (h : wpAnyLast P md ops Q S ds fuel l' a' w) : wpAnyLast P md ops Q S ds (fuel + 1) l a w := by
 subst ha
 subst hN
 simp only [anyB, Bool.and_eq_true, beq_iff_eq] at hc
 obtain ⟨⟨⟨h1, h2⟩, h3⟩, h6⟩ := hc
 subst h6
 exact wpAnyLast_any hi (Region.noSelect_spec h1) hQ fuel l a w (Region.free_spec hi h2) (by simpa using h3) hy h
def readyB (md : Region.Mode) (ops : Array Oper) (l l' : Array Bool) (i : Nat) : Bool := (Region.ready md ops l == [i]) && (l.setIfInBounds i true == l')
theorem one_ {i : Nat} {N : Option Tmp} {oi : Oper} {fuel : Nat} {l : Array Bool} {a : Act} {w : World} (l' : Array Bool) (hi : ops[i]? = some oi) (hN : oi.dst = N) (hc : readyB md ops l l' i = true) (hd : i ∉ ds)
  (h : ∀ K : Act → World → Prop, Shut (∀ a' w', S w' → (S w' → wpAnyLast P md ops Q S ds fuel l' a' w') → K a' w') → if Region.wanted oi (yielded ops a.tmps) = true then Oper.wp P oi a w K Q else K (a.put N undef) w) :
  wpAnyLast P md ops Q S ds (fuel + 1) l a w := by
 subst hN
 simp only [readyB, Bool.and_eq_true, beq_iff_eq] at hc
 obtain ⟨h1, h2⟩ := hc
 subst h2
 exact wpAnyLast_ready h1 (by simp) (AllReadyL.cons hi hd (fun K hK => h K hK) AllReadyL.nil)
theorem last_ {i : Nat} {N : Option Tmp} {oi : Oper} {fuel : Nat} {l : Array Bool} {a : Act} {w : World} (l' : Array Bool) (hi : ops[i]? = some oi) (hN : oi.dst = N) (hc : readyB md ops l l' i = true) (hd : i ∈ ds)
  (h : ∀ K : Act → World → Prop, Shut (∀ a' w', wpAnyLast P md ops Q S ds fuel l' a' w' → K a' w') → if Region.wanted oi (yielded ops a.tmps) = true then Oper.wp P oi a w K Q else K (a.put N undef) w) :
  wpAnyLast P md ops Q S ds (fuel + 1) l a w := by
 subst hN
 simp only [readyB, Bool.and_eq_true, beq_iff_eq] at hc
 obtain ⟨h1, h2⟩ := hc
 subst h2
 exact wpAnyLast_ready h1 (by simp) (AllReadyL.cons_last hi hd (fun K hK => h K hK) AllReadyL.nil)
theorem done_ {l : Array Bool} {a : Act} {w : World} {n : Nat} (hr : (Region.ready md ops l == []) = true) (h : Q .normal a w) : wpAnyLast P md ops Q S ds n l a w := wpAnyLast_done (by simpa using hr) h n
theorem norm_ {fuel : Nat} {l : Array Bool} {a a' : Act} {w : World} (ha : a = a') (h : wpAnyLast P md ops Q S ds fuel l a' w) : wpAnyLast P md ops Q S ds fuel l a w := by
 subst ha
 exact h
theorem call_ {oi : Oper} {N : Option Tmp} {a : Act} {w : World} {K : Act → World → Prop} (f : FuncId) (args : Array Value) (hw : Region.wanted oi (yielded ops a.tmps) = true) (hN : oi.dst = N) (hrun : (execOp a.eval oi).run P w = .ok (.enter f args) w)
  (h : Calls P f args w fun e w' => ∃ v, e = .returned v ∧ K (a.put N v) w') : if Region.wanted oi (yielded ops a.tmps) = true then Oper.wp P oi a w K Q else K (a.put N undef) w := by
 rw [if_pos hw]
 subst hN
 unfold Oper.wp
 rw [hrun, Oper.upon_enter]
 refine h.mono fun e w'' hh => ?_
 obtain ⟨v, rfl, hk⟩ := hh
 exact hk
theorem enters_ {f : FuncId} {fn : Func} (hf : P.funcs[f]? = some fn) (hname : (fn.name == "runtime.NumGoroutine") = false) (hb : fn.body.isSome = true) (args : Array Value) (w : World) : (callFunc f args).run P w = .ok (.enter f args) w := by
 have h1 : fn.name ≠ "runtime.NumGoroutine" := by simpa using hname
 obtain ⟨c, hc⟩ := Option.isSome_iff_exists.1 hb
 simp [callFunc, hf, h1, hc]
theorem goes_ {oi : Oper} {N : Option Tmp} {a : Act} {w : World} {K : Act → World → Prop} {f : FuncId} {fn : Func} {as_ : Array Operand} {ts : Array TypeId} (hf : P.funcs[f]? = some fn) (hname : (fn.name == "runtime.NumGoroutine") = false) (hb : fn.body.isSome = true) (args : Array Value)
  (hw : Region.wanted oi (yielded ops a.tmps) = true) (hN : oi.dst = N) (hop : oi.op = .call { callee := .value (.func f), args := as_, argTypes := ts }) (hargs : as_.map a.eval = args)
  (h : Calls P f args w fun e w' => ∃ v, e = .returned v ∧ K (a.put N v) w') : if Region.wanted oi (yielded ops a.tmps) = true then Oper.wp P oi a w K Q else K (a.put N undef) w := by
 refine call_ f args hw hN ?_ h
 have he := enters_ hf hname hb args w
 unfold execOp
 simp [hop, resolve, Deferred.ofValue, invoke, Act.eval, hargs, he]
theorem goesL_ {rest : List Oper} {oi : Oper} {a : Act} {w : World} (N : Option Tmp) (hd : oi.dst = N) (hg : oi.guard = none) {f : FuncId} {fn : Func} {as_ : Array Operand} {ts : Array TypeId} (hf : P.funcs[f]? = some fn) (hname : (fn.name == "runtime.NumGoroutine") = false) (hb : fn.body.isSome = true) (args : Array Value)
  (hop : oi.op = .call { callee := .value (.func f), args := as_, argTypes := ts }) (hargs : as_.map a.eval = args)
  (h : Calls P f args w fun e w' => ∃ v, e = .returned v ∧ wpList P ops Q rest (a.put N v) w') : wpList P ops Q (oi :: rest) a w := by
 refine wpList_plain hg fun K hK => ?_
 have he := enters_ hf hname hb args w
 have hrun : (execOp a.eval oi).run P w = .ok (.enter f args) w := by
  unfold execOp
  simp [hop, resolve, Deferred.ofValue, invoke, Act.eval, hargs, he]
 unfold Oper.wp
 rw [hrun, Oper.upon_enter]
 refine h.mono fun e w'' hh => ?_
 obtain ⟨v, rfl, hk⟩ := hh
 subst hd
 exact hK _ _ hk
theorem value_ {oi : Oper} {N : Option Tmp} {a : Act} {w w1 : World} {v : Value} {K : Act → World → Prop} (hw : Region.wanted oi (yielded ops a.tmps) = true) (hN : oi.dst = N) (hrun : (execOp a.eval oi).run P w = .ok (.value v) w1)
  (h : K (a.put N v) w1) : if Region.wanted oi (yielded ops a.tmps) = true then Oper.wp P oi a w K Q else K (a.put N undef) w := by
 rw [if_pos hw]
 subst hN
 unfold Oper.wp
 rw [hrun]
 exact h
theorem skip_ {oi : Oper} {a : Act} {w w1 : World} {K : Act → World → Prop} (hw : Region.wanted oi (yielded ops a.tmps) = true) (hN : oi.dst = none) (hrun : (execOp a.eval oi).run P w = .ok .skip w1)
  (h : K a w1) : if Region.wanted oi (yielded ops a.tmps) = true then Oper.wp P oi a w K Q else K (a.put none undef) w := by
 rw [if_pos hw]
 unfold Oper.wp
 rw [hrun]
 show K (a.put oi.dst undef) w1
 rw [hN]
 exact h
theorem i64_w (n : Int) : IntKind.i64.wrap n = Go.RowKit.wrap64 n := by unfold Go.RowKit.wrap64; exact IntKind.wrap_i64 n
theorem i32_w (n : Int) : IntKind.i32.wrap n = Go.RowKit.wrap32 n := by unfold Go.RowKit.wrap32; exact IntKind.wrap_i32 n
end
end Go.Proofs.YtbngbefchobfnaaGreatDoorW.PrintLast
namespace Go.Proofs.YtbngbefchobfnaaGreatDoorW.PrintWords
open Go.RowKit
namespace Kd
def tag {α : Type} (f : Nat → Nat) (d : Kd α) : Kd (α × Nat) where
 sz := d.sz
 E := d.E
 K := fun w x cs => d.K w x.1 cs
 M := fun w base ok x cs => d.M w base (fun k => ok k ∧ f k = x.2) x.1 cs
 K_len := fun h => d.K_len h
 K_one := fun h => d.K_one h
 K_below := fun hb h => d.K_below hb h
 K_of_M := fun h => d.K_of_M h
 M_mono := fun hok h => d.M_mono (fun k hk => ⟨hok k hk.1, hk.2⟩) h
 M_bound := fun h => d.M_mono (fun _ hk => ⟨⟨hk.1.1, hk.2⟩, hk.1.2⟩) (d.M_bound h)
 M_move := fun hm h => d.M_move (fun k hk => hm k hk.1) h
 M_lower := fun hb h => d.M_lower hb h
def bare {α : Type} (d : Kd α) : Kd α where
 sz := d.sz
 E := d.E
 K := d.K
 M := fun w base _ x cs => d.M w base (fun _ => False) x cs
 K_len := fun h => d.K_len h
 K_one := fun h => d.K_one h
 K_below := fun hb h => d.K_below hb h
 K_of_M := fun h => d.K_of_M h
 M_mono := fun _ h => h
 M_bound := fun h => h
 M_move := fun _ h => d.M_move (fun _ hk => hk.elim) h
 M_lower := fun hb h => d.M_lower hb h
def raw (sz : Nat) : Kd (List Value) where
 sz := sz
 E := []
 K := fun _ x cs => cs = x ∧ cs.length = sz ∧ ∀ u ∈ cs, u.oneCell' = true
 M := fun _ _ _ x cs => cs = x ∧ cs.length = sz ∧ ∀ u ∈ cs, u.oneCell' = true
 K_len := fun h => h.2.1
 K_one := fun h => h.2.2
 K_below := fun _ h => h
 K_of_M := fun h => h
 M_mono := fun _ h => h
 M_bound := fun h => h
 M_move := fun _ h => h
 M_lower := fun _ h => h
def S {α : Type} (d : Kd α) (e : Nat) (w : World) (base : Nat) (ok : Nat → Prop) (v : Value) (xs : List α) : Prop := ∃ f, (tag f d).R e w base ok v xs.zipIdx
section
variable {α β : Type} {d : Kd α} {d' : Kd β} {e e' : Nat} {w w1 W : World} {base b : Nat} {ok ok' okv oku : Nat → Prop} {u v : Value} {xs : List α} {ys : List β}
theorem zip_at {xs : List α} {j : Nat} {p : α} (h : xs[j]? = some p) : xs.zipIdx[j]? = some (p, j) := by rw [List.getElem?_zipIdx, h, Nat.zero_add]; rfl
theorem S_R (h : S d e w base ok v xs) : d.R e w base ok v xs := by
 obtain ⟨f, h0, inner, ho, hr⟩ := h
 rw [List.length_zipIdx] at ho
 exact ⟨h0, inner, ho, by have := hr.1; rw [List.length_zipIdx] at this; exact this, fun j p hj => d.M_mono (fun _ hk => hk.1) (hr.2 j (p, j) (zip_at hj))⟩
theorem R_tight (hE : d.E = []) (h : d.R e w base ok v xs) : d.R e w base (fun k => some k = v.ownBlock) v xs := by
 obtain ⟨h0, inner, ho, hr⟩ := h
 refine ⟨fun k hk => hk.symm, inner, ho, hr.imp_ (fun p c hp => d.M_mono (fun k hk => ?_) (d.M_bound hp))⟩
 obtain ⟨_, _, _, q, hq, _⟩ := hk
 rw [hE] at hq
 cases hq
theorem S_nil (d : Kd α) (e : Nat) (w : World) (base : Nat) (ok : Nat → Prop) : S d e w base ok (.slice none 0 0) [] := ⟨fun _ => 0, R_nil _ _ _ _ _⟩
theorem S_mono (h : S d e w base ok v xs) (hok : ∀ k, ok k → ok' k) : S d e w base ok' v xs := by
 obtain ⟨f, h⟩ := h
 exact ⟨f, R_mono h hok⟩
theorem S_bound (h : S d e w base ok v xs) : S d e w base (fun k => ok k ∧ base ≤ k ∧ k < w.heap.size ∧ ∃ q, q ∈ e :: d.E ∧ ∃ cells, w.heap[k]? = some (.cells cells q (0, 0))) v xs := by
 obtain ⟨f, h⟩ := h
 exact ⟨f, R_bound h⟩
theorem S_move (h : S d e w base ok v xs) (hm : ∀ k, ok k → w1.heap[k]? = w.heap[k]?) : S d e w1 base ok v xs := by
 obtain ⟨f, h⟩ := h
 exact ⟨f, R_move h hm⟩
theorem S_lower {base' : Nat} (h : S d e w base ok v xs) (hb : base' ≤ base) : S d e w base' ok v xs := by
 obtain ⟨f, h⟩ := h
 exact ⟨f, R_lower h hb⟩
theorem S_step (h : S d e w base ok v xs) (hm : ∀ k, ok k → k < w.heap.size → w1.heap[k]? = w.heap[k]?) : S d e w1 base ok v xs :=
 S_mono (S_move (S_bound h) (fun k hk => hm k hk.1 hk.2.2.1)) (fun _ hk => hk.1)
theorem S_below (h : S d e w base ok v xs) (hb : Below w.heap.size w w1) : S d e w1 base ok v xs := S_step h (fun k _ hk => hb.block k hk)
theorem S_alloc (h : S d e w base ok v xs) (o : Obj) : S d e (w.alloc o) base ok v xs := S_below h (below_alloc (Below.refl _ _) o)
theorem S_drew (h : S d e w base ok v xs) : S d e w.drew base ok v xs := S_below h (below_drew (Below.refl _ _))
theorem S_drewN (h : S d e w base ok v xs) (m : Nat) : S d e (w.drewN m) base ok v xs := S_below h (pw_below_drewN (Below.refl _ _) m)
theorem S_lt (h : S d e w base ok v xs) : ∀ k, v.ownBlock = some k → k < w.heap.size := R_lt (S_R h)
theorem S_base (h : S d e w base ok v xs) : ∀ k, v.ownBlock = some k → base ≤ k := R_base (S_R h)
theorem S_elder' (h : S d e W base ok u xs) (hbase : ∀ k, v.ownBlock = some k → W.heap.size ≤ k) (hb : Below W.heap.size W w1) : S d e w1 base (fun k => ok k ∧ some k ≠ v.ownBlock) u xs := by
 obtain ⟨f, h⟩ := h
 exact ⟨f, R_elder' h hbase hb⟩
theorem S_new' (h : S d e w1 W.heap.size ok v xs) (hlt : ∀ k, u.ownBlock = some k → k < W.heap.size) : S d e w1 W.heap.size (fun k => ok k ∧ some k ≠ u.ownBlock) v xs := by
 obtain ⟨f, h⟩ := h
 exact ⟨f, R_new' h hlt⟩
theorem S_bare (h : (bare d).R e w base ok v xs) : S d e w base ok v xs := by
 obtain ⟨h0, inner, ho, hr⟩ := h
 refine ⟨fun _ => 0, h0, inner, by rw [List.length_zipIdx]; exact ho, by rw [List.length_zipIdx]; exact hr.1, fun j p hj => ?_⟩
 rw [List.getElem?_zipIdx, Nat.zero_add] at hj
 obtain ⟨x, hx, rfl⟩ := Option.map_eq_some_iff.1 hj
 exact d.M_mono (fun _ hk => hk.elim) (hr.2 j x hx)
end
section
variable {α β : Type} {d : Kd α} {d' : Kd β} {e e' g : Nat} {w w1 W : World} {base b : Nat} {ok ok' okv oku : Nat → Prop} {u v : Value} {xs : List α} {ys : List β}
theorem S_slice (h : S d e w base ok v xs) : ∃ A c, v = .slice A xs.length c := R_slice (S_R h)
theorem S_reads' {A : Option Addr} {n c : Nat} (h : S d e w base ok (.slice A n c) xs) : n = xs.length ∧ n ≤ c ∧ d.C w A xs.length xs := R_reads' (S_R h)
end
section
variable {P : Program} {ops : Array Oper} {rest : List Oper} {o : Oper} {a : Act} {Q : Exit → Act → World → Prop} {Kc : Act → World → Prop} {α : Type}
theorem S_lit (d : Kd α) {w0 W : World} (base e : Nat) (hgd : o.guard = none) {N : Tmp} (_hd : o.dst = some N) {xs : List α} {inner : List Value} {ok okp : Nat → Prop}
  (hrun : (execOp a.eval o).run P W = .ok (.value (.slice (some ⟨W.heap.size, 0, none⟩) xs.length xs.length)) (W.alloc (.cells inner.toArray e)))
  (hrep : Reps (d.M W base (fun _ => False)) d.sz xs inner) (_hok : ∀ k, okp k → ok k) (hfresh : ok W.heap.size) (HB : Below base w0 W) (hbase : base ≤ W.heap.size) (hm : xs.length ≤ 9223372036854775807)
  (h : ∀ v1 w1, S d e w1 base ok v1 xs → Below base w0 w1 → W.grownBy w1 none → (∃ b, v1.ownBlock = some b ∧ W.heap.size ≤ b) → wpList P ops Q rest (a.put o.dst v1) w1) : wpList P ops Q (o :: rest) a W :=
 R_lit (bare d) base e hgd _hd (ok := ok) (okp := ok) hrun hrep (fun _ hk => hk) hfresh HB hbase hm (fun v1 w1 hr => h v1 w1 (S_bare hr))
end
def gap {α : Type} (f : Nat → Nat) (d : Kd α) (i : Nat) (c : List Value) : Kd (α × Nat) where
 sz := d.sz
 E := d.E
 K := fun w x cs => (x.2 = i → cs = c ∧ cs.length = d.sz ∧ ∀ u ∈ cs, u.oneCell' = true) ∧ (x.2 ≠ i → d.K w x.1 cs)
 M := fun w base ok x cs => (x.2 = i → cs = c ∧ cs.length = d.sz ∧ ∀ u ∈ cs, u.oneCell' = true) ∧ (x.2 ≠ i → d.M w base (fun k => ok k ∧ f k = x.2) x.1 cs)
 K_len := fun {w x cs} h => by
  by_cases hx : x.2 = i
  ·exact (h.1 hx).2.1
  ·exact d.K_len (h.2 hx)
 K_one := fun {w x cs} h => by
  by_cases hx : x.2 = i
  ·exact (h.1 hx).2.2
  ·exact d.K_one (h.2 hx)
 K_below := fun hb h => ⟨h.1, fun hx => d.K_below hb (h.2 hx)⟩
 K_of_M := fun h => ⟨h.1, fun hx => d.K_of_M (h.2 hx)⟩
 M_mono := fun hok h => ⟨h.1, fun hx => d.M_mono (fun k hk => ⟨hok k hk.1, hk.2⟩) (h.2 hx)⟩
 M_bound := fun h => ⟨h.1, fun hx => d.M_mono (fun _ hk => ⟨⟨hk.1.1, hk.2⟩, hk.1.2⟩) (d.M_bound (h.2 hx))⟩
 M_move := fun hm h => ⟨h.1, fun hx => d.M_move (fun k hk => hm k hk.1) (h.2 hx)⟩
 M_lower := fun hb h => ⟨h.1, fun hx => d.M_lower hb (h.2 hx)⟩
def H {α : Type} (d : Kd α) (e : Nat) (w : World) (base : Nat) (ok : Nat → Prop) (v : Value) (xs : List α) (i : Int) (oki : Nat → Prop) (c : List Value) : Prop :=
 (∀ k, oki k → ok k) ∧ ∃ f, (gap f d i.toNat c).R e w base (fun k => ok k ∧ ¬ oki k) v xs.zipIdx
section
variable {α β : Type} {d : Kd α} {e e' g n cap : Nat} {w w1 W : World} {base : Nat} {ok ok' oki okp : Nat → Prop} {u v : Value} {xs : List α} {i : Int} {c : List Value}
end
section
variable {P : Program} {ops : Array Oper} {rest : List Oper} {o : Oper} {a : Act} {Q : Exit → Act → World → Prop} {α : Type}
end
end Kd
end Go.Proofs.YtbngbefchobfnaaGreatDoorW.PrintWords
namespace Go.Proofs.YtbngbefchobfnaaGreatDoorW.PrintWords
open Go.RowKit
namespace Kd
section
variable {α : Type} {n : Nat} {d : Kd α} {hs : 0 < d.sz} {w : World} {base : Nat} {ok : Nat → Prop} {xs : List α} {cs : List Value}
end
section
variable {α : Type} {n : Nat} {enc : α → Value} {h1 : ∀ x, (enc x).oneCell' = true} {hs : 0 < (scalar enc h1).sz} {w : World} {base : Nat} {ok : Nat → Prop} {xs : List α} {cs : List Value}
end
end Kd
end Go.Proofs.YtbngbefchobfnaaGreatDoorW.PrintWords
namespace Go.Proofs.YtbngbefchobfnaaGreatDoorW.PrintWords
open Go.RowKit
namespace Kd
structure Heap {α : Type} (d : Kd α) : Prop where
 K : ∀ {w w1 : World} {x : α} {cs : List Value}, (∀ k, k < w.heap.size → w1.heap[k]? = w.heap[k]?) → d.K w x cs → d.K w1 x cs
theorem cell_heap {w w1 : World} (hb : ∀ k, k < w.heap.size → w1.heap[k]? = w.heap[k]?) {a : Addr} {v : Value} (h : w.cell? a = some v) : w1.cell? a = some v := by
 have := hb a.block (World.block_lt_of_cell? w a h)
 simpa [World.cell?, this] using h
theorem Heap.C {α : Type} {d : Kd α} (hd : Heap d) {w w1 : World} {A : Option Addr} {n : Nat} {xs : List α} (hb : ∀ k, k < w.heap.size → w1.heap[k]? = w.heap[k]?) (h : d.C w A n xs) : d.C w1 A n xs :=
 ⟨h.1, h.2.1, fun hn => by
  obtain ⟨ad, e, hc⟩ := h.2.2 hn
  refine ⟨ad, e, fun j p hj => ?_⟩
  obtain ⟨c, hs, hr, hcell⟩ := hc j p hj
  exact ⟨c, hs, hd.K hb hr, fun i u hu => cell_heap hb (hcell i u hu)⟩⟩
theorem heap_int (k : IntKind) : Heap (Kd.int k) := ⟨fun _ h => h⟩
theorem heap_string : Heap Kd.string := ⟨fun _ h => h⟩
theorem heap_slice {α : Type} {d : Kd α} (e : Nat) (hd : Heap d) : Heap (slice e d) := ⟨by
 rintro w w1 x cs hb ⟨A, c, rfl, hl, hr⟩
 exact ⟨A, c, rfl, hl, hd.C hb hr⟩⟩
theorem heap_pair {α β : Type} {a : Kd α} {b : Kd β} (ha : Heap a) (hb' : Heap b) : Heap (pair a b) := ⟨by
 rintro w w1 x cs hb ⟨c0, c1, rfl, h0, h1⟩
 exact ⟨c0, c1, rfl, ha.K hb h0, hb'.K hb h1⟩⟩
theorem heap_iso {α β : Type} {d : Kd α} (f : β → α) (hd : Heap d) : Heap (iso d f) := ⟨fun hb h => hd.K hb h⟩
section
variable {α : Type} {d : Kd α} {e base g n c : Nat} {ok : Nat → Prop} {w w0 W : World} {A : Option Addr} {xs : List α}
end
end Kd
end Go.Proofs.YtbngbefchobfnaaGreatDoorW.PrintWords
namespace Go.Proofs.YtbngbefchobfnaaGreatDoorW.PrintWords
open Go.RowKit
def Kept (w W : World) (S : Nat → Prop) : Prop := w.heap.size ≤ W.heap.size ∧ ∀ i, i < w.heap.size → ¬ S i → W.heap[i]? = w.heap[i]?
section
variable {w W W2 : World} {S S2 S' : Nat → Prop}
theorem Kept.refl (w : World) (S : Nat → Prop) : Kept w w S := ⟨Nat.le_refl _, fun _ _ _ => rfl⟩
theorem Kept.of_below (h : Below w.heap.size w W) (S : Nat → Prop) : Kept w W S := ⟨h.size, fun i hi _ => h.block i hi⟩
theorem Kept.mono (h : Kept w W S) (hs : ∀ k, S k → S' k) : Kept w W S' := ⟨h.1, fun i hi hn => h.2 i hi (fun hk => hn (hs i hk))⟩
theorem Kept.then_ (h : Kept w W S) (k : Kept W W2 S2) (hs : ∀ k, S2 k → S k ∨ w.heap.size ≤ k) : Kept w W2 S :=
 ⟨Nat.le_trans h.1 k.1, fun i hi hn => (k.2 i (Nat.lt_of_lt_of_le hi h.1) (fun h2 => (hs i h2).elim hn (fun h3 => by omega))).trans (h.2 i hi hn)⟩
theorem Kept.below (h : Kept w W S) (hb : Below W.heap.size W W2) : Kept w W2 S := h.then_ (Kept.of_below hb (fun _ => False)) (fun _ hk => hk.elim)
theorem Kept.alloc (h : Kept w W S) (o : Obj) : Kept w (W.alloc o) S := h.below (below_alloc (Below.refl _ _) o)
theorem Kept.drew (h : Kept w W S) : Kept w W.drew S := h
theorem Kept.drewN (h : Kept w W S) (m : Nat) : Kept w (W.drewN m) S := h
theorem Kept.setCell (h : Kept w W S) {p : Addr} (hp : S p.block ∨ w.heap.size ≤ p.block) (u : Value) : Kept w (W.setCell p u) S :=
 h.then_ (S2 := fun k => k = p.block) ⟨by simp [World.setCell], fun i _ hn => Below.heap_setCell W p u i hn⟩ (fun k hk => by rw [hk]; exact hp)
theorem Kept.keep {g : Nat} (h : KeepBut w W g none) (k : Kept W W2 S2) (hs : ∀ k, S2 k → w.heap.size ≤ k) : KeepBut w W2 g none :=
 ⟨Nat.le_trans h.1 k.1, fun i hi hg hr => (k.2 i (Nat.lt_of_lt_of_le hi h.1) (fun h2 => by have := hs i h2; omega)).trans (h.2 i hi hg hr)⟩
end
namespace Kd
section
variable {α : Type} {d : Kd α} {e base n c : Nat} {ok oki S S2 : Nat → Prop} {w w0 W W1 W2 : World} {v : Value} {A : Option Addr} {xs : List α} {i : Int} {cs : List Value}
end
end Kd
end Go.Proofs.YtbngbefchobfnaaGreatDoorW.PrintWords
namespace Go.Proofs.YtbngbefchobfnaaGreatDoorW.PrintWords
open Go.RowKit
def Foot (P : World → Prop) (W : World) (ok : Nat → Prop) : Prop := ∀ W' : World, (∀ k, ok k → k < W.heap.size → W'.heap[k]? = W.heap[k]?) → P W'
theorem heap_lt {W W1 : World} {k : Nat} (h : W1.heap[k]? = W.heap[k]?) (hlt : k < W.heap.size) : k < W1.heap.size := by
 rw [Array.getElem?_eq_getElem hlt] at h
 exact (Array.getElem?_eq_some_iff.1 h).1
namespace Foot
variable {P Q : World → Prop} {W W1 : World} {ok ok' : Nat → Prop}
theorem now (h : Foot P W ok) : P W := h W (fun _ _ _ => rfl)
theorem mono (h : Foot P W ok) (hok : ∀ k, ok k → ok' k) : Foot P W ok' := fun W' hW => h W' (fun k hk hlt => hW k (hok k hk) hlt)
theorem bound (h : Foot P W ok) : Foot P W (fun k => ok k ∧ k < W.heap.size) := fun W' hW => h W' (fun k hk hlt => hW k ⟨hk, hlt⟩ hlt)
theorem step (h : Foot P W ok) (hm : ∀ k, ok k → k < W.heap.size → W1.heap[k]? = W.heap[k]?) : Foot P W1 ok := fun W' hW => h W' (fun k hk hlt => (hW k hk (heap_lt (hm k hk hlt) hlt)).trans (hm k hk hlt))
theorem imp (h : Foot P W ok) (hi : ∀ W', P W' → Q W') : Foot Q W ok := fun W' hW => hi W' (h W' hW)
theorem old (h : Foot P W ok) (hb : Below W.heap.size W W1) : Foot P W1 (fun k => ok k ∧ k < W.heap.size) := (h.bound).step (fun k _ hlt => hb.block k hlt)
end Foot
namespace Kd
def F {α : Type} (d : Kd α) (W : World) (ok : Nat → Prop) (A : Option Addr) (n : Nat) (xs : List α) : Prop := Foot (fun W => d.C W A n xs) W ok
def FK {α : Type} (d : Kd α) (W : World) (ok : Nat → Prop) (x : α) (c : List Value) : Prop := Foot (fun W => d.K W x c) W ok
section
variable {α β : Type} {d : Kd α} {e base n n' cc g N : Nat} {ok ok' okp S : Nat → Prop} {w w0 w1 W W1 : World} {A A' : Option Addr} {u v v1 : Value} {xs : List α} {xs' : List β} {d' : Kd β} {x : α} {c : List Value}
theorem F_now (h : F d W ok A n xs) : d.C W A n xs := Foot.now h
theorem F_mono (h : F d W ok A n xs) (hok : ∀ k, ok k → ok' k) : F d W ok' A n xs := Foot.mono h hok
theorem F_bound (h : F d W ok A n xs) : F d W (fun k => ok k ∧ k < W.heap.size) A n xs := Foot.bound h
theorem F_step (h : F d W ok A n xs) (hm : ∀ k, ok k → k < W.heap.size → W1.heap[k]? = W.heap[k]?) : F d W1 ok A n xs := Foot.step h hm
theorem F_below (h : F d W ok A n xs) (hb : Below W.heap.size W W1) : F d W1 ok A n xs := F_step h (fun k _ hlt => hb.block k hlt)
theorem F_alloc (h : F d W ok A n xs) (o : Obj) : F d (W.alloc o) ok A n xs := F_below h (below_alloc (Below.refl _ _) o)
theorem F_drew (h : F d W ok A n xs) : F d W.drew ok A n xs := F_below h (below_drew (Below.refl _ _))
theorem F_drewN (h : F d W ok A n xs) (m : Nat) : F d (W.drewN m) ok A n xs := F_below h (pw_below_drewN (Below.refl _ _) m)
theorem F_far (h : F d W ok A n xs) {p : Addr} (hok : ∀ k, ok k → k ≠ p.block) (u : Value) : F d (W.setCell p u) ok A n xs := F_step h (fun k hk _ => Below.heap_setCell W p u k (hok k hk))
theorem F_nil (d : Kd α) (W : World) (ok : Nat → Prop) : F d W ok none ([] : List α).length [] := fun W' _ => C_nil d W'
theorem F_elder' (h : F d W ok A n xs) (hbase : ∀ k, v.ownBlock = some k → W.heap.size ≤ k) (hb : Below W.heap.size W W1) : F d W1 (fun k => ok k ∧ some k ≠ v.ownBlock) A n xs :=
 F_mono (Foot.old h hb) (fun k hk => ⟨hk.1, fun he => by have := hbase k he.symm; have := hk.2; omega⟩)
theorem F_elderB (h : F d W ok A n xs) (a : Nat) (ha : W.heap.size ≤ a) : F d W (fun k => ok k ∧ k ≠ a) A n xs := F_mono (F_bound h) (fun k hk => ⟨hk.1, by have := hk.2; omega⟩)
theorem C_F (hd : Heap d) (h : d.C w A n xs) : F d w (fun k => k < w.heap.size) A n xs := fun _ hW => hd.C (fun k hlt => hW k hlt hlt) h
theorem R_F (h : d.R e W base ok (.slice A n cc) xs) : F d W ok A n xs := fun W' hW => by
 have h2 := R_reads' (R_step h hW)
 rw [h2.1]
 exact h2.2.2
theorem FK_now (h : FK d W ok x c) : d.K W x c := Foot.now h
theorem FK_mono (h : FK d W ok x c) (hok : ∀ k, ok k → ok' k) : FK d W ok' x c := Foot.mono h hok
theorem FK_bound (h : FK d W ok x c) : FK d W (fun k => ok k ∧ k < W.heap.size) x c := Foot.bound h
theorem FK_step (h : FK d W ok x c) (hm : ∀ k, ok k → k < W.heap.size → W1.heap[k]? = W.heap[k]?) : FK d W1 ok x c := Foot.step h hm
theorem FK_of_M (h : d.M W base ok x c) : FK d W ok x c := fun _ hW => d.K_of_M (M_step h hW)
theorem emptied (W : World) (g : Nat) : ∃ W' : World, (∀ k, k ≠ g → W'.heap[k]? = W.heap[k]?) ∧ ∀ a : Addr, a.block = g → W'.cell? a = none := by
 refine ⟨{ W with heap := W.heap.setIfInBounds g (.cells #[] 0) }, fun k hk => by simp [Ne.symm hk], fun a ha => ?_⟩
 subst ha
 by_cases hlt : a.block < W.heap.size
 ·simp [World.cell?, hlt]
 ·simp [World.cell?, hlt]
end
end Kd
end Go.Proofs.YtbngbefchobfnaaGreatDoorW.PrintWords
namespace Go.Proofs.YtbngbefchobfnaaGreatDoorW.PrintWords
open Go.RowKit
section
variable {P : Program}
end
namespace Kd
section
variable {P : Program} {ops : Array Oper} {rest : List Oper} {o : Oper} {a : Act} {Q : Exit → Act → World → Prop} {Kc : Act → World → Prop} {α : Type}
end
section
variable {α : Type} {d : Kd α} {e : Nat} {w : World} {base : Nat} {ok : Nat → Prop} {v : Value} {xs : List α}
end
section
variable {P : Program} {ops : Array Oper} {rest : List Oper} {o : Oper} {a : Act} {Q : Exit → Act → World → Prop} {Kc : Act → World → Prop} {α : Type}
end
end Kd
end Go.Proofs.YtbngbefchobfnaaGreatDoorW.PrintWords
namespace Go.Proofs.YtbngbefchobfnaaGreatDoorW.PrintWords
open Go.RowKit
namespace Kd
def chunks (sz : Nat) (n : Nat) (inner : List Value) : List (List Value) := (List.range n).map fun j => (inner.drop (j * sz)).take sz
theorem chunks_length (sz n : Nat) (inner : List Value) : (chunks sz n inner).length = n := by simp [chunks]
theorem chunks_at {sz n : Nat} {inner : List Value} {j : Nat} (hj : j < n) : (chunks sz n inner)[j]? = some ((inner.drop (j * sz)).take sz) := by simp [chunks, hj]
theorem chunks_get {sz n : Nat} {inner : List Value} {j : Nat} {c : List Value} (h : (chunks sz n inner)[j]? = some c) : c = (inner.drop (j * sz)).take sz := by
 have hj : j < n := by have := (List.getElem?_eq_some_iff.1 h).1; rwa [chunks_length] at this
 rw [chunks_at hj] at h
 injection h with h
 exact h.symm
theorem reps_raw {α : Type} {Rr : α → List Value → Prop} {sz : Nat} {xs : List α} {inner : List Value} (h : Reps Rr sz xs inner) (hR : ∀ x c, Rr x c → c.length = sz ∧ ∀ u ∈ c, u.oneCell' = true) : Reps (fun x cs => cs = x ∧ cs.length = sz ∧ ∀ u ∈ cs, u.oneCell' = true) sz (chunks sz xs.length inner) inner := by
 refine ⟨by rw [chunks_length]; exact h.1, fun j p hj => ?_⟩
 have hjl : j < xs.length := by have := (List.getElem?_eq_some_iff.1 hj).1; rwa [chunks_length] at this
 have hp := chunks_get hj
 exact ⟨hp.symm, hR _ _ (h.2 j _ (List.getElem?_eq_getElem hjl))⟩
section
variable {α : Type} {d : Kd α} {e base n cc g : Nat} {ok ok' okp S : Nat → Prop} {w w1 W W1 : World} {A : Option Addr} {u v v1 : Value} {xs : List α} {x : α} {c : List Value}
theorem F_get (h : F d W ok A n xs) (z : α) (i : Int) (h0 : 0 ≤ i) (h1 : i < n) :
  ∃ ad c, A = some ad ∧ c.length = d.sz ∧ FK d W ok (xs.getD i.toNat z) c ∧ (∀ j u, c[j]? = some u → W.cell? (ad.add (i.toNat * d.sz + j)) = some u) ∧ (0 < d.sz → ok ad.block) := by
 obtain ⟨ad, c, rfl, hcl, hK, hcc⟩ := C_get (F_now h) z i h0 h1
 have hin : 0 < d.sz → ok ad.block := by
  intro hs
  by_cases hk : ok ad.block
  ·exact hk
  ·obtain ⟨W', h2, h3⟩ := emptied W ad.block
   obtain ⟨ad', c', he, hcl', _, hcc'⟩ := C_get (h W' (fun k hk' _ => h2 k (fun e => hk (e ▸ hk')))) z i h0 h1
   injection he with he
   subst he
   have h4 := hcc' 0 _ (List.getElem?_eq_getElem (by omega))
   rw [h3 _ (add_block _ _)] at h4
   cases h4
 refine ⟨ad, c, rfl, hcl, fun W' hW => ?_, hcc, hin⟩
 obtain ⟨ad', c', he, hcl', hK', hcc'⟩ := C_get (h W' hW) z i h0 h1
 injection he with he
 subst he
 have hc : c = c' := by
  apply List.ext_getElem?
  intro j
  by_cases hj : j < d.sz
  ·have hb : W'.heap[ad.block]? = W.heap[ad.block]? := by
    have h5 := hcc j _ (List.getElem?_eq_getElem (by omega))
    have h6 := World.block_lt_of_cell? W _ h5
    rw [add_block] at h6
    exact hW _ (hin (by omega)) h6
   have h5 := hcc j _ (List.getElem?_eq_getElem (by omega))
   have h6 := hcc' j _ (List.getElem?_eq_getElem (by omega))
   have h7 : W'.cell? (ad.add (i.toNat * d.sz + j)) = W.cell? (ad.add (i.toNat * d.sz + j)) := by simp [World.cell?, add_block, hb]
   rw [h7, h5] at h6
   rw [List.getElem?_eq_getElem (by omega), List.getElem?_eq_getElem (by omega)]
   exact h6
  ·rw [List.getElem?_eq_none (by omega), List.getElem?_eq_none (by omega)]
 rw [hc]
 exact hK'
def N {α : Type} (d : Kd α) (e : Nat) (w : World) (base : Nat) (ok : Nat → Prop) (v : Value) (xs : List α) : Prop :=
 (∀ k, v.ownBlock = some k → ok k) ∧ ∃ rows : List (List Value), rows.length = xs.length ∧ (raw d.sz).R e w base (fun k => some k = v.ownBlock) v rows ∧ ∀ (j : Nat) (x : α) (c : List Value), xs[j]? = some x → rows[j]? = some c → FK d w (fun k => ok k ∧ some k ≠ v.ownBlock) x c
theorem raw_tight {sz : Nat} {rows : List (List Value)} (h : (raw sz).R e w base ok v rows) : (raw sz).R e w base (fun k => some k = v.ownBlock) v rows := R_tight rfl h
theorem raw_any {sz : Nat} {rows : List (List Value)} (h : (raw sz).R e w base ok v rows) : (raw sz).R e w base (fun _ => True) v rows := R_mono h (fun _ _ => trivial)
theorem R_N (h : d.R e w base ok v xs) : N d e w base ok v xs := by
 obtain ⟨h0, inner, ho, hr⟩ := h
 refine ⟨h0, chunks d.sz xs.length inner, chunks_length _ _ _, ⟨fun k hk => hk.symm, inner, by rw [chunks_length]; exact ho, reps_raw hr (fun x c hp => ⟨d.K_len (d.K_of_M hp), d.K_one (d.K_of_M hp)⟩)⟩, fun j x c hx hc => ?_⟩
 rw [chunks_get hc]
 exact FK_of_M (hr.2 j x hx)
theorem N_nil (d : Kd α) (e : Nat) (w : World) (base : Nat) (ok : Nat → Prop) : N d e w base ok (.slice none 0 0) [] := R_N (R_nil _ _ _ _ _)
theorem N_mono (h : N d e w base ok v xs) (hok : ∀ k, ok k → ok' k) : N d e w base ok' v xs := by
 obtain ⟨h0, rows, hl, hR, hf⟩ := h
 exact ⟨fun k hk => hok k (h0 k hk), rows, hl, hR, fun j x c hx hc => FK_mono (hf j x c hx hc) (fun k hk => ⟨hok k hk.1, hk.2⟩)⟩
theorem N_lt (h : N d e w base ok v xs) : ∀ k, v.ownBlock = some k → k < w.heap.size := by
 obtain ⟨_, rows, _, hR, _⟩ := h
 exact R_lt hR
theorem N_base (h : N d e w base ok v xs) : ∀ k, v.ownBlock = some k → base ≤ k := by
 obtain ⟨_, rows, _, hR, _⟩ := h
 exact R_base hR
theorem N_typed (h : N d e w base ok v xs) : ∀ k, v.ownBlock = some k → ∃ cells, w.heap[k]? = some (.cells cells e (0, 0)) := by
 obtain ⟨_, rows, _, hR, _⟩ := h
 exact R_typed hR
theorem N_bound (h : N d e w base ok v xs) : N d e w base (fun k => ok k ∧ k < w.heap.size) v xs := by
 have hlt := N_lt h
 obtain ⟨h0, rows, hl, hR, hf⟩ := h
 exact ⟨fun k hk => ⟨h0 k hk, hlt k hk⟩, rows, hl, hR, fun j x c hx hc => FK_mono (FK_bound (hf j x c hx hc)) (fun k hk => ⟨⟨hk.1.1, hk.2⟩, hk.1.2⟩)⟩
theorem N_lower {base' : Nat} (h : N d e w base ok v xs) (hb : base' ≤ base) : N d e w base' ok v xs := by
 obtain ⟨h0, rows, hl, hR, hf⟩ := h
 exact ⟨h0, rows, hl, R_lower hR hb, hf⟩
theorem N_step (h : N d e w base ok v xs) (hm : ∀ k, ok k → k < w.heap.size → w1.heap[k]? = w.heap[k]?) : N d e w1 base ok v xs := by
 obtain ⟨h0, rows, hl, hR, hf⟩ := h
 exact ⟨h0, rows, hl, R_step hR (fun k hk hlt => hm k (h0 k hk.symm) hlt), fun j x c hx hc => FK_step (hf j x c hx hc) (fun k hk hlt => hm k hk.1 hlt)⟩
theorem N_below (h : N d e w base ok v xs) (hb : Below w.heap.size w w1) : N d e w1 base ok v xs := N_step h (fun k _ hk => hb.block k hk)
theorem N_alloc (h : N d e w base ok v xs) (o : Obj) : N d e (w.alloc o) base ok v xs := N_below h (below_alloc (Below.refl _ _) o)
theorem N_drew (h : N d e w base ok v xs) : N d e w.drew base ok v xs := N_below h (below_drew (Below.refl _ _))
theorem N_drewN (h : N d e w base ok v xs) (m : Nat) : N d e (w.drewN m) base ok v xs := N_below h (pw_below_drewN (Below.refl _ _) m)
theorem N_grown (h : N d e w base ok v xs) {row : Option Nat} (hg : w.grownBy w1 row) (hok : ∀ k, ok k → some k ≠ row) : N d e w1 base ok v xs := N_step h (fun k ho hk => hg.block k hk (hok k ho))
theorem N_far (h : N d e w base ok v xs) {p : Addr} (hok : ∀ k, ok k → k ≠ p.block) (u : Value) : N d e (w.setCell p u) base ok v xs := N_step h (fun k ho _ => Below.heap_setCell w p u k (hok k ho))
theorem N_slice (h : N d e w base ok v xs) : ∃ A c, v = .slice A xs.length c := by
 obtain ⟨_, rows, hl, hR, _⟩ := h
 obtain ⟨A, c, he⟩ := R_slice hR
 exact ⟨A, c, by rw [he, hl]⟩
theorem N_reads' {n c : Nat} (h : N d e w base ok (.slice A n c) xs) : n = xs.length ∧ n ≤ c ∧ d.C w A xs.length xs := by
 obtain ⟨_, rows, hl, hR, hf⟩ := h
 obtain ⟨hn, hc, hC⟩ := R_reads' hR
 refine ⟨by omega, hc, ?_⟩
 rw [hl] at hC
 refine ⟨rfl, hC.2.1, fun hp => ?_⟩
 obtain ⟨ad, he, hcell⟩ := hC.2.2 hp
 refine ⟨ad, he, fun j p hj => ?_⟩
 have hjl : j < rows.length := by have := (List.getElem?_eq_some_iff.1 hj).1; omega
 obtain ⟨c', hcl, hK, hcc⟩ := hcell j _ (List.getElem?_eq_getElem hjl)
 have hk := FK_now (hf j p _ hj (List.getElem?_eq_getElem hjl))
 refine ⟨c', hcl, ?_, hcc⟩
 rw [show c' = rows[j] from hK.1]
 exact hk
theorem N_F {n : Nat} (h : N d e w base ok (.slice A n cc) xs) : F d w ok A n xs := fun W' hW => by
 have h2 := N_reads' (N_step h hW)
 rw [h2.1]
 exact h2.2.2
end
end Kd
end Go.Proofs.YtbngbefchobfnaaGreatDoorW.PrintWords
namespace Go.Proofs.YtbngbefchobfnaaGreatDoorW.PrintWords
open Go.RowKit
namespace Kd
section
variable {α : Type} {d : Kd α} {W : World} {g n : Nat} {S ok : Nat → Prop} {A : Option Addr} {ad : Addr} {xs : List α}
end
end Kd
end Go.Proofs.YtbngbefchobfnaaGreatDoorW.PrintWords
namespace Go.Proofs.YtbngbefchobfnaaGreatDoorW.PrintWords
open Go.RowKit
section
variable {w w' u : World} {m B g : Nat} {o : Obj} {row : Option Nat} {S : Nat → Prop} {a : Addr} {v : Value}
end
namespace Kd
section
variable {α : Type} {d : Kd α} {e base n m : Nat} {ok : Nat → Prop} {w w' : World} {v : Value} {A : Option Addr} {xs : List α}
end
end Kd
end Go.Proofs.YtbngbefchobfnaaGreatDoorW.PrintWords
namespace Go.Proofs.YtbngbefchobfnaaGreatDoorW.PrintWords
open Go.RowKit
section
variable {P : Program} {d : Nat} {xs ys : Array Value} {f : Field} {fs : List Field} {a b : Value} {r s : Bool} {w : World}
theorem eqf_last (hn : (f.name == "_") = false) (ha : (part f.type xs f.offset).run P w = .ok a w) (hb : (part f.type ys f.offset).run P w = .ok b w) (he : (Op.equalIn d f.type a b).run P w = .ok r w) : (Op.eqFields d xs ys [f]).run P w = .ok r w := by
 have hn' : f.name ≠ "_" := by simpa using hn
 simp only [Op.eqFields, if_pos hn', Sem.run_bind, ha, hb, he, Result.andThen_ok]
 cases r <;> simp
theorem eqf_cons (hn : (f.name == "_") = false) (ha : (part f.type xs f.offset).run P w = .ok a w) (hb : (part f.type ys f.offset).run P w = .ok b w) (he : (Op.equalIn d f.type a b).run P w = .ok r w) (hr : (Op.eqFields d xs ys fs).run P w = .ok s w) : (Op.eqFields d xs ys (f :: fs)).run P w = .ok (r && s) w := by
 have hn' : f.name ≠ "_" := by simpa using hn
 rw [Op.eqFields]
 simp only [if_pos hn', Sem.run_bind, ha, hb, he, Result.andThen_ok]
 cases r
 ·simp
 ·simpa using hr
theorem eqA_of {t : TypeId} {fs : Array Field} (hu : P.underlying t = some (.struct fs)) (hp : P.stoodInHeld t = false) (h : (Op.eqFields d xs ys fs.toList).run P w = .ok r w) : (Op.equalIn (d + 1) t (.agg xs) (.agg ys)).run P w = .ok r w := by
 have hf : P.fieldsOf t = fs := by simp [Program.fieldsOf, hu]
 rw [run_equalIn_struct (P := P) w d t xs ys (by rw [hf]; exact hu) hp, hf]
 exact h
end
end Go.Proofs.YtbngbefchobfnaaGreatDoorW.PrintWords
namespace Go.Proofs.YtbngbefchobfnaaGreatDoorW.PrintLast
open Go.Proofs.YtbngbefchobfnaaGreatDoorW.PrintWords (Aside0)
def needsOf (md : Region.Mode) (o : Oper) : List Nat := (o.after.toList.filter (fun e => Region.binds md e)).map (fun e => e.on)
def clashOf (md : Region.Mode) (ops : Array Oper) (i : Nat) (oi : Oper) : List Nat := (List.range ops.size).filter fun j => !(j == i) && match ops[j]? with
 | some oj => !(oj.after.any (fun e => Region.binds md e && e.on == i) || oi.apart ops oj)
 | none => false
def rtab (md : Region.Mode) (ops : Array Oper) : Bool × List (List Nat × List Nat) := (Region.noSelect ops, (List.range ops.size).map fun i => match ops[i]? with
 | some o => (needsOf md o, clashOf md ops i o)
 | none => ([], []))
def readyAt (T : List (List Nat × List Nat)) (l : List Bool) (i : Nat) : Bool := !l.getD i true && match T[i]? with
 | some r => r.1.all (fun j => l.getD j false)
 | none => false
def readyT (T : List (List Nat × List Nat)) (l : List Bool) : List Nat := (List.range T.length).filter (readyAt T l)
def freeT (T : List (List Nat × List Nat)) (l : List Bool) (i : Nat) : Bool := match T[i]? with
 | some r => r.2.all (fun j => l.getD j true)
 | none => false
def closedT (T : List (List Nat × List Nat)) (l : List Bool) : Bool := (List.range T.length).all fun j => !l.getD j false || match T[j]? with
 | some r => r.1.all (fun k => l.getD k false)
 | none => true
def reachT (T : List (List Nat × List Nat)) (i : Nat) : Nat → Nat → Bool
 | 0, _ => false
 | fuel + 1, d => match T[d]? with
  | some r => r.1.any fun j => j == i || reachT T i fuel j
  | none => false
def lastT (T : List (List Nat × List Nat)) (l : List Bool) (ds : List Nat) (i : Nat) : Bool := ds.all fun d => l.getD d true || reachT T i T.length d
section
variable {md : Region.Mode} {ops : Array Oper} {T : Bool × List (List Nat × List Nat)} {l l' li lj lk : Array Bool} {ds : List Nat} {i j k : Nat}
theorem gd (l : Array Bool) (j : Nat) (b : Bool) : l.getD j b = l.toList.getD j b := by simp [Array.getD_eq_getD_getElem?, List.getD_eq_getElem?_getD]
theorem needs_all (o : Oper) (p : Nat → Bool) : o.after.all (fun e => !Region.binds md e || p e.on) = (needsOf md o).all p := by
 unfold needsOf
 rw [← Array.all_toList]
 induction o.after.toList with
 | nil => rfl
 | cons e r ih =>
  rw [List.all_cons, ih, List.filter_cons]
  cases h : Region.binds md e <;> simp
theorem needs_any (o : Oper) (p : Nat → Bool) : o.after.any (fun e => Region.binds md e && p e.on) = (needsOf md o).any p := by
 unfold needsOf
 rw [← Array.any_toList]
 induction o.after.toList with
 | nil => rfl
 | cons e r ih =>
  rw [List.any_cons, ih, List.filter_cons]
  cases h : Region.binds md e <;> simp
theorem rtab_length : (rtab md ops).2.length = ops.size := by simp [rtab]
theorem rtab_some {o : Oper} (h : ops[i]? = some o) : (rtab md ops).2[i]? = some (needsOf md o, clashOf md ops i o) := by
 have hi := (Array.getElem?_eq_some_iff.1 h).1
 unfold rtab
 rw [List.getElem?_map, List.getElem?_range hi, Option.map_some, h]
theorem rtab_none (h : ops[i]? = none) : (rtab md ops).2[i]? = none := by
 have hi : ops.size ≤ i := Array.getElem?_eq_none_iff.1 h
 exact List.getElem?_eq_none (by rw [rtab_length]; exact hi)
theorem readyAt_eq : readyAt (rtab md ops).2 l.toList i = (!l.getD i true && ((ops[i]?).map (·.after.all fun e => !Region.binds md e || l.getD e.on false)).getD false) := by
 unfold readyAt
 rw [gd]
 cases h : ops[i]? with
 | none => rw [rtab_none h]; rfl
 | some o =>
  rw [rtab_some h]
  simp only [Option.map_some, Option.getD_some]
  rw [← needs_all]
  simp only [gd]
theorem ready_eq : Region.ready md ops l = readyT (rtab md ops).2 l.toList := by
 unfold Region.ready readyT
 rw [rtab_length]
 refine List.filter_congr (fun i _ => ?_)
 rw [readyAt_eq]
theorem free_eq : Region.free md ops l i = freeT (rtab md ops).2 l.toList i := by
 unfold Region.free freeT
 cases h : ops[i]? with
 | none => rw [rtab_none h]
 | some oi =>
  rw [rtab_some h]
  simp only [clashOf]
  rw [List.all_filter]
  congr 1
  funext j
  rw [gd]
  cases hj : ops[j]? with
  | none => cases (j == i) <;> cases (l.toList.getD j true) <;> simp
  | some oj =>
   cases (j == i) <;> cases (l.toList.getD j true) <;> cases (oj.after.any (fun e => Region.binds md e && e.on == i) || oi.apart ops oj) <;> simp_all
theorem closed_eq : Region.closedB md ops l = closedT (rtab md ops).2 l.toList := by
 unfold Region.closedB closedT
 rw [rtab_length]
 congr 1
 funext j
 rw [gd]
 cases h : ops[j]? with
 | none => rw [rtab_none h]
 | some o =>
  rw [rtab_some h]
  simp only
  rw [← needs_all]
  simp only [gd]
theorem reach_eq : ∀ (fuel d : Nat), Region.reachB md ops i fuel d = reachT (rtab md ops).2 i fuel d
 | 0, _ => rfl
 | fuel + 1, d => by
  unfold Region.reachB reachT
  cases h : ops[d]? with
  | none => rw [rtab_none h]
  | some o =>
   rw [rtab_some h]
   simp only
   rw [← needs_any]
   congr 1
   funext e
   rw [reach_eq fuel]
theorem last_eq : Region.lastB md ops l ds i = lastT (rtab md ops).2 l.toList ds i := by
 unfold Region.lastB lastT
 rw [rtab_length]
 congr 1
 funext d
 rw [gd, reach_eq]
theorem readyAt_mem (h : readyAt T.2 l.toList i = true) (hT : rtab md ops = T) : (Region.ready md ops l).contains i = true := by
 subst hT
 rw [ready_eq]
 unfold readyT
 rw [List.contains_iff_mem, List.mem_filter, List.mem_range]
 refine ⟨?_, h⟩
 unfold readyAt at h
 rw [Bool.and_eq_true] at h
 cases hq : (rtab md ops).2[i]? with
 | none => rw [hq] at h; simp at h
 | some r => exact (List.getElem?_eq_some_iff.1 hq).1
theorem set_of (h : (l.toList.set i true == l'.toList) = true) : (l.setIfInBounds i true == l') = true := by
 rw [beq_iff_eq] at h ⊢
 apply Array.ext'
 rw [Array.toList_setIfInBounds]
 exact h
def anyT (T : Bool × List (List Nat × List Nat)) (l l' : List Bool) (i : Nat) : Bool := T.1 && freeT T.2 l i && readyAt T.2 l i && (l.set i true == l')
theorem any_of (hT : rtab md ops = T) (h : anyT T l.toList l'.toList i = true) : anyB md ops l l' i = true := by
 simp only [anyT, Bool.and_eq_true] at h
 obtain ⟨⟨⟨h1, h2⟩, h3⟩, h4⟩ := h
 have h5 := readyAt_mem h3 hT
 have h6 := set_of h4
 subst hT
 simp only [anyB, Bool.and_eq_true]
 exact ⟨⟨⟨h1, by rw [free_eq]; exact h2⟩, h5⟩, h6⟩
def takeT (T : Bool × List (List Nat × List Nat)) (ds : List Nat) (l l' : List Bool) (i : Nat) : Bool := T.1 && freeT T.2 l i && readyAt T.2 l i && closedT T.2 l && lastT T.2 l ds i && (l.set i true == l')
theorem take_of (hT : rtab md ops = T) (h : takeT T ds l.toList l'.toList i = true) : takeB md ops ds l l' i = true := by
 simp only [takeT, Bool.and_eq_true] at h
 obtain ⟨⟨⟨⟨⟨h1, h2⟩, h3⟩, h4⟩, h5⟩, h6⟩ := h
 have h7 := readyAt_mem h3 hT
 have h8 := set_of h6
 subst hT
 simp only [takeB, Bool.and_eq_true]
 exact ⟨⟨⟨⟨⟨h1, by rw [free_eq]; exact h2⟩, h7⟩, by rw [closed_eq]; exact h4⟩, by rw [last_eq]; exact h5⟩, h8⟩
theorem one_of (hT : rtab md ops = T) (h : (readyT T.2 l.toList == [i] && l.toList.set i true == l'.toList) = true) : readyB md ops l l' i = true := by
 simp only [Bool.and_eq_true] at h
 obtain ⟨h1, h2⟩ := h
 subst hT
 simp only [readyB, Bool.and_eq_true]
 exact ⟨by rw [ready_eq]; exact h1, set_of h2⟩
theorem done_of (hT : rtab md ops = T) (h : (readyT T.2 l.toList == []) = true) : (Region.ready md ops l == []) = true := by
 subst hT
 rw [ready_eq]
 exact h
def upM (B : List Nat) (d : Nat) : List Nat → Nat
 | [] => 0
 | n :: r => (2 ^ n ||| (if n < d then B.getD n 0 else 0)) ||| upM B d r
def waitsOk (T : List (List Nat × List Nat)) (B : List Nat) : Bool := (List.range T.length).all fun d => match T[d]? with
 | some r => (B.getD d 0 ||| upM B d r.1) == upM B d r.1
 | none => false
theorem upM_bit {B : List Nat} {d i : Nat} : ∀ {ns : List Nat}, (upM B d ns).testBit i = true → ∃ n ∈ ns, n = i ∨ (n < d ∧ (B.getD n 0).testBit i = true)
 | [], h => by simp [upM] at h
 | n :: r, h => by
  unfold upM at h
  rw [Nat.testBit_or, Nat.testBit_or, Bool.or_eq_true, Bool.or_eq_true] at h
  rcases h with (h | h) | h
  ·rw [Nat.testBit_two_pow] at h
   exact ⟨n, List.mem_cons_self, .inl (by simpa using h)⟩
  ·by_cases hn : n < d
   ·rw [if_pos hn] at h
    exact ⟨n, List.mem_cons_self, .inr ⟨hn, h⟩⟩
   ·rw [if_neg hn] at h
    simp at h
  ·obtain ⟨m, hm, h2⟩ := upM_bit h
   exact ⟨m, List.mem_cons_of_mem _ hm, h2⟩
theorem reach_bit {T : List (List Nat × List Nat)} {B : List Nat} (hB : waitsOk T B = true) : ∀ (fuel d : Nat), d < fuel → d < T.length → (B.getD d 0).testBit i = true → reachT T i fuel d = true
 | 0, d, h, _, _ => by omega
 | fuel + 1, d, h, hd, hb => by
  have h1 := List.all_eq_true.1 hB d (List.mem_range.2 hd)
  cases hr : T[d]? with
  | none => rw [hr] at h1; simp at h1
  | some r =>
   rw [hr] at h1
   simp only [beq_iff_eq] at h1
   have h2 : (upM B d r.1).testBit i = true := by rw [← h1, Nat.testBit_or, hb, Bool.true_or]
   obtain ⟨n, hn, h3⟩ := upM_bit h2
   unfold reachT
   rw [hr]
   simp only
   rw [List.any_eq_true]
   refine ⟨n, hn, ?_⟩
   rcases h3 with rfl | ⟨h4, h5⟩
   ·simp
   ·rw [reach_bit hB fuel n (by omega) (by omega) h5, Bool.or_true]
def lastW (T : List (List Nat × List Nat)) (B : List Nat) (l : List Bool) (ds : List Nat) (i : Nat) : Bool := ds.all fun d => l.getD d true || (decide (d < T.length) && (B.getD d 0).testBit i)
def takeW (T : Bool × List (List Nat × List Nat)) (B : List Nat) (ds : List Nat) (l l' : List Bool) (i : Nat) : Bool := T.1 && freeT T.2 l i && readyAt T.2 l i && closedT T.2 l && lastW T.2 B l ds i && (l.set i true == l')
theorem take_ofW {B : List Nat} (hT : rtab md ops = T) (hB : waitsOk T.2 B = true) (h : takeW T B ds l.toList l'.toList i = true) : takeB md ops ds l l' i = true := by
 refine take_of hT ?_
 simp only [takeW, takeT, Bool.and_eq_true] at h ⊢
 obtain ⟨⟨⟨⟨⟨h1, h2⟩, h3⟩, h4⟩, h5⟩, h6⟩ := h
 refine ⟨⟨⟨⟨⟨h1, h2⟩, h3⟩, h4⟩, ?_⟩, h6⟩
 unfold lastW at h5
 unfold lastT
 rw [List.all_eq_true] at h5 ⊢
 intro d hd
 have h7 := h5 d hd
 rw [Bool.or_eq_true, Bool.and_eq_true, decide_eq_true_eq] at h7
 rcases h7 with h7 | ⟨h8, h9⟩
 ·rw [h7, Bool.true_or]
 ·rw [reach_bit hB _ d h8 h8 h9, Bool.or_true]
theorem with_tabW {P : Program} {Q : Exit → Act → World → Prop} {S : World → Prop} {n : Nat} {a : Act} {w : World} {B : List Nat} (hT : rtab md ops = T) (hB : waitsOk T.2 B = true) (h : Aside0 (rtab md ops = T) → Aside0 (waitsOk T.2 B = true) → wpAnyLast P md ops Q S ds n l a w) : wpAnyLast P md ops Q S ds n l a w := h ⟨hT⟩ ⟨hB⟩
end
def opsIn : Code → Nat → Option (Array Oper)
 | .region id ops _, k => if id == k then some ops else none
 | .seq a b, k => match opsIn a k with
  | some o => some o
  | none => opsIn b k
 | .cond _ a b, k => match opsIn a k with
  | some o => some o
  | none => opsIn b k
 | .block _ c, k => opsIn c k
 | .loop c, k => opsIn c k
 | .scope c, k => opsIn c k
 | .rangeFunc _ _ a b, k => match opsIn a k with
  | some o => some o
  | none => opsIn b k
 | _, _ => none
def opsOf (f : Func) (k : Nat) : Array Oper := ((f.body.bind fun c => opsIn c k)).getD #[]
end Go.Proofs.YtbngbefchobfnaaGreatDoorW.PrintLast
namespace Go.Proofs.YtbngbefchobfnaaGreatDoorW.PrintLast
section
variable {P : Program} {ops : Array Oper} {Q : Exit → Act → World → Prop} {md : Region.Mode} {S : World → Prop} {ds : List Nat} {T : Bool × List (List Nat × List Nat)}
end
end Go.Proofs.YtbngbefchobfnaaGreatDoorW.PrintLast
namespace Go.Proofs.YtbngbefchobfnaaGreatDoorW.PrintWords
open Go.RowKit
section
variable {P : Program} {ops : Array Oper} {rest : List Oper} {o : Oper} {a : Act} {Q : Exit → Act → World → Prop} {W : World}
theorem gate_guard (hw : Region.wanted o (yielded ops a.tmps) = true) (h : wpList P ops Q ({ o with guard := none } :: rest) a W) : wpList P ops Q (o :: rest) a W := by
 have h1 : Region.wanted { o with guard := none } (yielded ops a.tmps) = true := rfl
 unfold wpList at h ⊢
 rw [if_pos h1] at h
 rw [if_pos hw]
 exact h
end
end Go.Proofs.YtbngbefchobfnaaGreatDoorW.PrintWords
namespace Go.Proofs.YtbngbefchobfnaaGreatDoorW.PrintLast
def up (b : Nat → Bool) (i : Nat) : Nat → Bool := fun j => if j = i then true else b j
section
variable {P : Program} {ops : Array Oper} {Q : Exit → Act → World → Prop} {md : Region.Mode} {T : Bool × List (List Nat × List Nat)} {B : List Nat} {O : List Nat} {b : Nat → Bool} {i j n : Nat}
end
end Go.Proofs.YtbngbefchobfnaaGreatDoorW.PrintLast
namespace Go.Proofs.YtbngbefchobfnaaGreatDoorW.PrintWords
open Go.RowKit
end Go.Proofs.YtbngbefchobfnaaGreatDoorW.PrintWords
namespace Go.Proofs.YtbngbefchobfnaaGreatDoorW.PrintLast
section
variable {ops : Array Oper} {a : Act} {o og : Oper} {g : Nat} {t : Tmp} {u : Bool}
end
end Go.Proofs.YtbngbefchobfnaaGreatDoorW.PrintLast
namespace Go.Proofs.YtbngbefchobfnaaGreatDoorW.PrintWords
open Go.RowKit
namespace Kd
section
variable {α : Type} {d : Kd α} {e base g o n cap : Nat} {ok okp : Nat → Prop} {w W : World} {v : Value} {xs : List α}
end
section
variable {α : Type} {enc : α → Value} {h1 : ∀ x, (enc x).oneCell' = true} {e base g o n cap : Nat} {ok : Nat → Prop} {W : World} {xs : List α}
end
end Kd
end Go.Proofs.YtbngbefchobfnaaGreatDoorW.PrintWords
namespace Go.Proofs.YtbngbefchobfnaaGreatDoorW.PrintWords
open Go.RowKit
namespace Kd
section
variable {α : Type} {d : Kd α} {e base n cap g : Nat} {ok ok' okp : Nat → Prop} {w w1 W : World} {v v1 : Value} {xs ys : List α}
theorem N_appended {rows news : List (List Value)} (h0 : ∀ k, v.ownBlock = some k → ok k) (hl : rows.length = xs.length) (hf : ∀ (j : Nat) (x : α) (c : List Value), xs[j]? = some x → rows[j]? = some c → FK d W (fun k => ok k ∧ some k ≠ v.ownBlock) x c)
  (hl2 : news.length = ys.length) (hf2 : ∀ (j : Nat) (x : α) (c : List Value), ys[j]? = some x → news[j]? = some c → FK d W okp x c) (hokp : ∀ k, okp k → ok k ∧ some k ≠ v.ownBlock) (hfresh : ∀ k, W.heap.size ≤ k → ok k)
  (hR : (raw d.sz).R e w1 base (fun _ => True) v1 (rows ++ news)) (hg : W.grownBy w1 v.ownBlock) (hat : v1.ownBlock = v.ownBlock ∨ ∃ b, v1.ownBlock = some b ∧ W.heap.size ≤ b) : N d e w1 base ok v1 (xs ++ ys) := by
 have hne : ∀ k, some k ≠ v.ownBlock → k < W.heap.size → some k ≠ v1.ownBlock := by
  intro k hk hlt
  rcases hat with hat | ⟨b, hb, hle⟩
  ·rw [hat]; exact hk
  ·rw [hb]
   intro he
   injection he with he
   omega
 have step : ∀ {x : α} {c : List Value} {o : Nat → Prop}, FK d W o x c → (∀ k, o k → ok k ∧ some k ≠ v.ownBlock) → FK d w1 (fun k => ok k ∧ some k ≠ v1.ownBlock) x c := by
  intro x c o hq ho
  exact FK_mono (FK_step (FK_bound hq) (fun k hk hlt => hg.block k hlt (ho k hk.1).2)) (fun k hk => ⟨(ho k hk.1).1, hne k (ho k hk.1).2 hk.2⟩)
 refine ⟨fun k hk => ?_, rows ++ news, by rw [List.length_append, List.length_append, hl, hl2], raw_tight hR, fun j x c hx hc => ?_⟩
 ·rcases hat with hat | ⟨b, hb, hle⟩
  ·exact h0 k (hat ▸ hk)
  ·rw [hb] at hk
   injection hk with hk
   exact hfresh k (by omega)
 ·rcases Nat.lt_or_ge j xs.length with hlt | hge
  ·rw [List.getElem?_append_left hlt] at hx
   rw [List.getElem?_append_left (by omega)] at hc
   exact step (hf j x c hx hc) (fun _ hk => hk)
  ·rw [List.getElem?_append_right hge] at hx
   rw [List.getElem?_append_right (by omega), hl] at hc
   exact step (hf2 _ x c hx hc) hokp
theorem FK_raw {x : α} {c : List Value} (h : FK d W ok x c) : c = c ∧ c.length = d.sz ∧ ∀ u ∈ c, u.oneCell' = true := ⟨rfl, d.K_len (FK_now h), d.K_one (FK_now h)⟩
theorem N_made {rows : List (List Value)} (hR : (raw d.sz).R e w1 base (fun k => k = W.heap.size) v1 rows) (hg : W.grownBy w1 none) (hat : ∃ b, v1.ownBlock = some b ∧ W.heap.size ≤ b) (hl : rows.length = xs.length) (hf : ∀ (j : Nat) (x : α) (c : List Value), xs[j]? = some x → rows[j]? = some c → FK d W okp x c)
  (hok : ∀ k, okp k → ok k) (hfresh : ok W.heap.size) : N d e w1 base ok v1 xs := by
 obtain ⟨b, hb, hle⟩ := hat
 refine ⟨fun k hk => by rw [hR.1 k hk]; exact hfresh, rows, hl, raw_tight hR, fun j x c hx hc => ?_⟩
 refine FK_mono (FK_step (FK_bound (hf j x c hx hc)) (fun k hk hlt => hg.block k hlt (by simp))) (fun k hk => ⟨hok k hk.1, fun he => ?_⟩)
 rw [hb] at he
 injection he with he
 have := hk.2
 omega
end
section
variable {P : Program} {ops : Array Oper} {rest : List Oper} {o : Oper} {a : Act} {Q : Exit → Act → World → Prop} {Kc : Act → World → Prop} {α : Type}
theorem N_append (d : Kd α) {w0 W : World} (base : Nat) (hgd : o.guard = none) (s x : Operand) (t e : TypeId) (z : Value) (bytes : Nat)
  (ho : o.op = .call { callee := .builtin .append, args := #[s, x], argTypes := #[t, t] })
  (ht : P.underlying t = some (.slice e)) (hinfo : (P.info? e).map (fun i => (i.zero, i.size, i.bytes)) = some (some z, d.sz, bytes)) (hz : z.cells.size = d.sz) (hs0 : 0 < d.sz) (hb0 : 0 < bytes)
  (v : Value) (xs : List α) (p : α) (cs : List Value) (ok okp : Nat → Prop) (hs : a.eval s = v) (hx : a.eval x = .slice (some ⟨W.heap.size, 0, none⟩) 1 1) (hp : FK d W okp p cs) (hokp : ∀ k, okp k → ok k ∧ some k ≠ v.ownBlock) (hfresh : ∀ k, W.heap.size ≤ k → ok k)
  (HO : N d e W base ok v xs) (HB : Below base w0 W) (hbase : base ≤ W.heap.size) (hl : (xs.length + 1) * bytes ≤ 140737488355328)
  (h : ∀ v1 w1, N d e w1 base ok v1 (xs ++ [p]) → Below base w0 w1 → W.grownBy w1 v.ownBlock → (v1.ownBlock = v.ownBlock ∨ ∃ b, v1.ownBlock = some b ∧ W.heap.size ≤ b) → wpList P ops Q rest (a.put o.dst v1) w1) :
  wpList P ops Q (o :: rest) a (W.alloc (.cells cs.toArray e)) := by
 obtain ⟨h0, rows, hlr, hR, hf⟩ := HO
 refine R_append (raw d.sz) base hgd s x t e z bytes ho ht hinfo hz hs0 hb0 v rows cs cs (fun _ => True) (fun _ => False) hs hx (FK_raw hp) (fun _ hk => hk.elim) (fun _ _ => trivial) (raw_any hR) HB hbase (by rw [hlr]; exact hl) ?_
 intro v1 w1 hr hb hg hat
 exact h v1 w1 (N_appended h0 hlr hf (ys := [p]) (news := [cs]) rfl (fun j y c hy hc => by
  rcases j with _ | j
  ·simp only [List.getElem?_cons_zero, Option.some.injEq] at hy hc
   rw [← hy, ← hc]; exact hp
  ·simp at hy) hokp hfresh hr hg hat) hb hg hat
theorem N_lit (d : Kd α) {w0 W : World} (base e : Nat) (hgd : o.guard = none) {N' : Tmp} (_hd : o.dst = some N') {xs : List α} {inner : List Value} {ok okp : Nat → Prop}
  (hrun : (execOp a.eval o).run P W = .ok (.value (.slice (some ⟨W.heap.size, 0, none⟩) xs.length xs.length)) (W.alloc (.cells inner.toArray e)))
  (hrep : Reps (FK d W okp) d.sz xs inner) (hok : ∀ k, okp k → ok k) (hfresh : ok W.heap.size) (HB : Below base w0 W) (hbase : base ≤ W.heap.size) (hm : xs.length ≤ 9223372036854775807)
  (h : ∀ v1 w1, N d e w1 base ok v1 xs → Below base w0 w1 → W.grownBy w1 none → (∃ b, v1.ownBlock = some b ∧ W.heap.size ≤ b) → wpList P ops Q rest (a.put o.dst v1) w1) :
  wpList P ops Q (o :: rest) a W := by
 refine R_lit (raw d.sz) base e hgd _hd (xs := chunks d.sz xs.length inner) (inner := inner) (ok := fun k => k = W.heap.size) (okp := fun _ => False) (by rw [chunks_length]; exact hrun) (reps_raw hrep (fun y c hk => ⟨d.K_len (FK_now hk), d.K_one (FK_now hk)⟩)) (fun _ hk => hk.elim) rfl HB hbase (by rw [chunks_length]; exact hm) ?_
 intro v1 w1 hr hb hg hat
 exact h v1 w1 (N_made hr hg hat (chunks_length _ _ _) (fun j y c hy hc => by rw [chunks_get hc]; exact hrep.2 j y hy) hok hfresh) hb hg hat
end
end Kd
end Go.Proofs.YtbngbefchobfnaaGreatDoorW.PrintWords
namespace Go.Proofs.YtbngbefchobfnaaGreatDoorW.PrintMore
open Go.RowKit Go.Proofs.YtbngbefchobfnaaGreatDoorW.PrintWords
namespace Kd
open Go.Proofs.YtbngbefchobfnaaGreatDoorW.PrintWords.Kd
end Kd
namespace Kd
open Go.Proofs.YtbngbefchobfnaaGreatDoorW.PrintWords.Kd
section
variable {α : Type} {d : Kd α} {e base g N : Nat} {ok : Nat → Prop} {W w1 : World} {u v : Value} {xs : List α}
end
end Kd
theorem max2_int (k k' : IntKind) (x y : Int) : Builtin.max2 (.int k x) (.int k' y) = pure (.int k (if x < y then y else x)) := by simp only [Builtin.max2, gt_iff_lt]
theorem min2_int (k k' : IntKind) (x y : Int) : Builtin.min2 (.int k x) (.int k' y) = pure (.int k (if y < x then y else x)) := by simp only [Builtin.min2]
theorem max_two (ats : Array TypeId) (ty : TypeId) (a b : Value) : Builtin.max_ ats ty #[a, b] = (Builtin.max2 a b >>= fun s => pure s) := by simp only [Builtin.max_, List.foldlM_cons, List.foldlM_nil]
theorem min_two (ats : Array TypeId) (ty : TypeId) (a b : Value) : Builtin.min_ ats ty #[a, b] = (Builtin.min2 a b >>= fun s => pure s) := by simp only [Builtin.min_, List.foldlM_cons, List.foldlM_nil]
theorem max_three (ats : Array TypeId) (ty : TypeId) (a b c : Value) : Builtin.max_ ats ty #[a, b, c] = (Builtin.max2 a b >>= fun s => Builtin.max2 s c >>= fun s => pure s) := by simp only [Builtin.max_, List.foldlM_cons, List.foldlM_nil]
theorem min_three (ats : Array TypeId) (ty : TypeId) (a b c : Value) : Builtin.min_ ats ty #[a, b, c] = (Builtin.min2 a b >>= fun s => Builtin.min2 s c >>= fun s => pure s) := by simp only [Builtin.min_, List.foldlM_cons, List.foldlM_nil]
theorem max_four (ats : Array TypeId) (ty : TypeId) (a b c d : Value) : Builtin.max_ ats ty #[a, b, c, d] = (Builtin.max2 a b >>= fun s => Builtin.max2 s c >>= fun s => Builtin.max2 s d >>= fun s => pure s) := by simp only [Builtin.max_, List.foldlM_cons, List.foldlM_nil]
theorem min_four (ats : Array TypeId) (ty : TypeId) (a b c d : Value) : Builtin.min_ ats ty #[a, b, c, d] = (Builtin.min2 a b >>= fun s => Builtin.min2 s c >>= fun s => Builtin.min2 s d >>= fun s => pure s) := by simp only [Builtin.min_, List.foldlM_cons, List.foldlM_nil]
end Go.Proofs.YtbngbefchobfnaaGreatDoorW.PrintMore
namespace Go.Proofs.YtbngbefchobfnaaGreatDoorW.PrintWords
open Go.RowKit
section
variable {P : Program} {ops : Array Oper} {rest : List Oper} {o : Oper} {a : Act} {Q : Exit → Act → World → Prop} {W : World}
theorem gate_callee {f : FuncId} {as_ : Array Operand} {ts : Array TypeId} (_ho : o.op = .call { callee := .value (.func f), args := as_, argTypes := ts }) (h : wpList P ops Q (o :: rest) a W) : wpList P ops Q (o :: rest) a W := h
end
namespace Kd
section
variable {α : Type} {d : Kd α} {e base : Nat} {ok : Nat → Prop} {W w1 : World} {v : Value} {xs : List α}
end
section
variable {α : Type} {d : Kd α} {e base g n cap : Nat} {ok oki okp : Nat → Prop} {W : World} {xs : List α} {i : Int} {c : List Value}
end
section
variable {α : Type} {d : Kd α} {e base b b' g N : Nat} {ok ok1 : Nat → Prop} {W W2 w1 : World} {u v : Value} {xs ys : List α} {S : Nat → Prop}
end
end Kd
end Go.Proofs.YtbngbefchobfnaaGreatDoorW.PrintWords
namespace Go.Proofs.YtbngbefchobfnaaGreatDoorW.PrintWords
open Go.RowKit
namespace Kd
def V {α : Type} (d : Kd α) (_e : Nat) (W : World) (_base : Nat) (ok : Nat → Prop) (v : Value) (xs : List α) : Prop := ∃ A c, v = .slice A xs.length c ∧ xs.length ≤ c ∧ F d W ok A xs.length xs
section
variable {α β : Type} {d : Kd α} {e base base' n m c g N' lo hi : Nat} {ok ok' S : Nat → Prop} {w W w1 : World} {A : Option Addr} {ad : Addr} {u v v1 : Value} {xs : List α}
theorem V_map (h : V d e W base ok v xs) (hF : ∀ A, F d W ok A xs.length xs → F d w1 ok' A xs.length xs) : V d e w1 base' ok' v xs := by
 obtain ⟨A, c, hv, hl, hf⟩ := h
 exact ⟨A, c, hv, hl, hF A hf⟩
theorem V_mk (hl : xs.length ≤ c) (hf : F d W ok A xs.length xs) : V d e W base ok (.slice A xs.length c) xs := ⟨A, c, rfl, hl, hf⟩
theorem V_slice (h : V d e W base ok v xs) : ∃ A c, v = .slice A xs.length c := by
 obtain ⟨A, c, hv, _⟩ := h
 exact ⟨A, c, hv⟩
theorem V_at (h : V d e W base ok (.slice A n c) xs) : n = xs.length ∧ n ≤ c ∧ F d W ok A xs.length xs := by
 obtain ⟨A', c', hv, hl, hf⟩ := h
 injection hv with ha hn hc
 subst ha; subst hc
 exact ⟨hn, by rw [hn]; exact hl, hf⟩
theorem V_reads' (h : V d e W base ok (.slice A n c) xs) : n = xs.length ∧ n ≤ c ∧ d.C W A xs.length xs := ⟨(V_at h).1, (V_at h).2.1, F_now (V_at h).2.2⟩
theorem V_F (h : V d e W base ok (.slice A n c) xs) : F d W ok A n xs := by
 obtain ⟨hn, _, hf⟩ := V_at h
 rw [hn]
 exact hf
theorem V_nil (d : Kd α) (e : Nat) (W : World) (base : Nat) (ok : Nat → Prop) : V d e W base ok (.slice none 0 0) [] := ⟨none, 0, rfl, Nat.le_refl _, F_nil d W ok⟩
theorem R_V (h : d.R e W base ok v xs) : V d e W base' ok v xs := by
 obtain ⟨A, c, rfl⟩ := R_slice h
 exact ⟨A, c, rfl, (R_reads' h).2.1, R_F h⟩
theorem N_V (h : N d e W base ok v xs) : V d e W base' ok v xs := by
 obtain ⟨A, c, rfl⟩ := N_slice h
 exact ⟨A, c, rfl, (N_reads' h).2.1, N_F h⟩
theorem V_mono (h : V d e W base ok v xs) (hok : ∀ k, ok k → ok' k) : V d e W base ok' v xs := V_map h (fun _ hf => F_mono hf hok)
theorem V_lower (h : V d e W base ok v xs) (_ : base' ≤ base) : V d e W base' ok v xs := h
theorem V_step (h : V d e W base ok v xs) (hm : ∀ k, ok k → k < W.heap.size → w1.heap[k]? = W.heap[k]?) : V d e w1 base ok v xs := V_map h (fun _ hf => F_step hf hm)
theorem V_below (h : V d e W base ok v xs) (hb : Below W.heap.size W w1) : V d e w1 base ok v xs := V_map h (fun _ hf => F_below hf hb)
theorem V_alloc (h : V d e W base ok v xs) (o : Obj) : V d e (W.alloc o) base ok v xs := V_map h (fun _ hf => F_alloc hf o)
theorem V_drew (h : V d e W base ok v xs) : V d e W.drew base ok v xs := V_map h (fun _ hf => F_drew hf)
theorem V_drewN (h : V d e W base ok v xs) (m : Nat) : V d e (W.drewN m) base ok v xs := V_map h (fun _ hf => F_drewN hf m)
theorem V_far (h : V d e W base ok v xs) {p : Addr} (hok : ∀ k, ok k → k ≠ p.block) (u : Value) : V d e (W.setCell p u) base ok v xs := V_map h (fun _ hf => F_far hf hok u)
theorem V_elder' (h : V d e W base ok v xs) (hbase : ∀ k, u.ownBlock = some k → W.heap.size ≤ k) (hb : Below W.heap.size W w1) : V d e w1 base (fun k => ok k ∧ some k ≠ u.ownBlock) v xs := V_map h (fun _ hf => F_elder' hf hbase hb)
theorem V_elderB (h : V d e W base ok v xs) (a : Nat) (ha : W.heap.size ≤ a) : V d e W base (fun k => ok k ∧ k ≠ a) v xs := V_map h (fun _ hf => F_elderB hf a ha)
theorem V_get (h : V d e W base ok (.slice (some ad) n c) xs) (z : α) (i : Int) (h0 : 0 ≤ i) (h1 : i < n) :
  ∃ cs, cs.length = d.sz ∧ FK d W ok (xs.getD i.toNat z) cs ∧ ∀ j u, cs[j]? = some u → W.cell? (ad.add (i.toNat * d.sz + j)) = some u := by
 obtain ⟨ad', cs, he, hcl, hK, hcc, _⟩ := F_get (V_F h) z i h0 h1
 injection he with he
 subst he
 exact ⟨cs, hcl, hK, hcc⟩
theorem FK_slice_mk {l : List α} (hl : l.length ≤ c) (hf : F d W ok A l.length l) : FK (Kd.slice e d) W ok l [.slice A l.length c] := fun W' hW => ⟨A, c, rfl, hl, hf W' hW⟩
end
end Kd
end Go.Proofs.YtbngbefchobfnaaGreatDoorW.PrintWords
namespace Go.Proofs.YtbngbefchobfnaaGreatDoorW.PrintWords
theorem Reps.one {α : Type} {R : α → List Value → Prop} {ps : List α} {cs : List Value} {p : α} {v : Value} (hp : R p [v]) (h : Reps R 1 ps cs) : Reps R 1 (p :: ps) (v :: cs) := by
 refine ⟨by simp [h.1], fun j q hq => ?_⟩
 cases j with
 | zero =>
  simp only [List.getElem?_cons_zero, Option.some.injEq] at hq
  subst hq
  simpa using hp
 | succ j =>
  simp only [List.getElem?_cons_succ] at hq
  have h1 := h.2 j q hq
  simpa [Nat.mul_one] using h1
theorem Reps.front {α : Type} {R : α → List Value → Prop} {size : Nat} {ps : List α} {cs c all : List Value} {p : α} (hp : R p c) (hc : c.length = size) (h : Reps R size ps cs) (ha : c ++ cs = all) : Reps R size (p :: ps) all := by
 subst ha
 refine ⟨by rw [List.length_append, hc, h.1, List.length_cons, Nat.succ_mul, Nat.add_comm], fun j q hq => ?_⟩
 cases j with
 | zero =>
  simp only [List.getElem?_cons_zero, Option.some.injEq] at hq
  subst hq
  rw [Nat.zero_mul, List.drop_zero, List.take_append_of_le_length (by omega), List.take_of_length_le (by omega)]
  exact hp
 | succ j =>
  simp only [List.getElem?_cons_succ] at hq
  have h1 := h.2 j q hq
  rw [Nat.succ_mul, List.drop_append, List.drop_of_length_le (by rw [hc]; exact Nat.le_add_left _ _), List.nil_append, hc, Nat.add_sub_cancel]
  exact h1
theorem Reps.c2 {α : Type} {R : α → List Value → Prop} {ps : List α} {cs : List Value} {p : α} {va vb : Value} (hp : R p [va, vb]) (h : Reps R 2 ps cs) : Reps R 2 (p :: ps) (va :: vb :: cs) := Reps.front hp rfl h rfl
theorem Reps.c3 {α : Type} {R : α → List Value → Prop} {ps : List α} {cs : List Value} {p : α} {va vb vc : Value} (hp : R p [va, vb, vc]) (h : Reps R 3 ps cs) : Reps R 3 (p :: ps) (va :: vb :: vc :: cs) := Reps.front hp rfl h rfl
theorem Reps.c4 {α : Type} {R : α → List Value → Prop} {ps : List α} {cs : List Value} {p : α} {va vb vc vd : Value} (hp : R p [va, vb, vc, vd]) (h : Reps R 4 ps cs) : Reps R 4 (p :: ps) (va :: vb :: vc :: vd :: cs) := Reps.front hp rfl h rfl
theorem Reps.c5 {α : Type} {R : α → List Value → Prop} {ps : List α} {cs : List Value} {p : α} {va vb vc vd ve : Value} (hp : R p [va, vb, vc, vd, ve]) (h : Reps R 5 ps cs) : Reps R 5 (p :: ps) (va :: vb :: vc :: vd :: ve :: cs) := Reps.front hp rfl h rfl
theorem Reps.c6 {α : Type} {R : α → List Value → Prop} {ps : List α} {cs : List Value} {p : α} {va vb vc vd ve vf : Value} (hp : R p [va, vb, vc, vd, ve, vf]) (h : Reps R 6 ps cs) : Reps R 6 (p :: ps) (va :: vb :: vc :: vd :: ve :: vf :: cs) := Reps.front hp rfl h rfl
theorem Reps.c7 {α : Type} {R : α → List Value → Prop} {ps : List α} {cs : List Value} {p : α} {va vb vc vd ve vf vg : Value} (hp : R p [va, vb, vc, vd, ve, vf, vg]) (h : Reps R 7 ps cs) : Reps R 7 (p :: ps) (va :: vb :: vc :: vd :: ve :: vf :: vg :: cs) := Reps.front hp rfl h rfl
theorem Reps.c8 {α : Type} {R : α → List Value → Prop} {ps : List α} {cs : List Value} {p : α} {va vb vc vd ve vf vg vh : Value} (hp : R p [va, vb, vc, vd, ve, vf, vg, vh]) (h : Reps R 8 ps cs) : Reps R 8 (p :: ps) (va :: vb :: vc :: vd :: ve :: vf :: vg :: vh :: cs) := Reps.front hp rfl h rfl
theorem Reps.c9 {α : Type} {R : α → List Value → Prop} {ps : List α} {cs : List Value} {p : α} {va vb vc vd ve vf vg vh vi : Value} (hp : R p [va, vb, vc, vd, ve, vf, vg, vh, vi]) (h : Reps R 9 ps cs) : Reps R 9 (p :: ps) (va :: vb :: vc :: vd :: ve :: vf :: vg :: vh :: vi :: cs) := Reps.front hp rfl h rfl
theorem Reps.c10 {α : Type} {R : α → List Value → Prop} {ps : List α} {cs : List Value} {p : α} {va vb vc vd ve vf vg vh vi vj : Value} (hp : R p [va, vb, vc, vd, ve, vf, vg, vh, vi, vj]) (h : Reps R 10 ps cs) : Reps R 10 (p :: ps) (va :: vb :: vc :: vd :: ve :: vf :: vg :: vh :: vi :: vj :: cs) := Reps.front hp rfl h rfl
end Go.Proofs.YtbngbefchobfnaaGreatDoorW.PrintWords
namespace Go.Proofs.YtbngbefchobfnaaGreatDoorW.PrintWords
open Go.ChangeShapes Go.WideShapes
end Go.Proofs.YtbngbefchobfnaaGreatDoorW.PrintWords

namespace Go.Proofs.YtbngbefchobfnaaGreatDoor.Print
open Go.RowKit Go.Proofs.YtbngbefchobfnaaGreatDoorW.PrintWords Go.Proofs.YtbngbefchobfnaaGreatDoorW.PrintLast Go.Proofs.YtbngbefchobfnaaGreatDoorW.PrintMore
theorem A0_ {p : Prop} (h : p) : Aside0 p := ⟨h⟩
theorem b1_ {base : Nat} {w W : World} (h : Below base w W) : Below base w W.drew := h.drew
abbrev Sa_ := @Kd.S_alloc
abbrev SN_ := @Kd.S_drewN
abbrev S1_ := @Kd.S_drew
abbrev Va_ := @Kd.V_alloc
abbrev VN_ := @Kd.V_drewN
abbrev V1_ := @Kd.V_drew
abbrev Ca_ := @Kd.C_alloc
abbrev CN_ := @Kd.C_drewN
abbrev C1_ := @Kd.C_drew
abbrev Sb_ := @Kd.S_below
abbrev Vb_ := @Kd.V_below
abbrev bf_ := @blk_frozen
abbrev bc_ := @blk_cell
theorem wb_ {P Q : Prop} (h : Q) (g : Q → P := by (intro h_; repeat (first | (with_reducible first | exact h_ | apply below_alloc | apply pw_below_drewN | apply below_drew1) | exact h_))) : P := g h
theorem wb1_ {P Q K1 : Prop} (h : Q) (k1 : K1) (g : Q → K1 → P := by (intro h_ k1_; repeat (first | (with_reducible first | exact h_ | apply below_alloc | apply pw_below_drewN | apply below_drew1 | refine below_set ?_ k1_) | exact h_))) : P := g h k1
theorem wb2_ {P Q K1 K2 : Prop} (h : Q) (k1 : K1) (k2 : K2) (g : Q → K1 → K2 → P := by (intro h_ k1_ k2_; repeat (first | (with_reducible first | exact h_ | apply below_alloc | apply pw_below_drewN | apply below_drew1 | refine below_set ?_ k1_ | refine below_set ?_ k2_) | exact h_))) : P := g h k1 k2
theorem wV_ {P Q : Prop} (h : Q) (g : Q → P := by (intro h_; (with_reducible repeat (first | apply Kd.V_alloc | apply Kd.V_drewN | apply Kd.V_drew)); exact h_)) : P := g h
theorem wS_ {P Q : Prop} (h : Q) (g : Q → P := by (intro h_; (with_reducible repeat (first | apply Kd.S_alloc | apply Kd.S_drewN | apply Kd.S_drew)); exact h_)) : P := g h
theorem wN_ {P Q : Prop} (h : Q) (g : Q → P := by (intro h_; (with_reducible repeat (first | apply Kd.N_alloc | apply Kd.N_drewN | apply Kd.N_drew)); exact h_)) : P := g h
theorem wB_ {P Q : Prop} (h : Q) (g : Q → P := by (intro h_; (with_reducible repeat (first | refine blk_drewN ?_ _ | refine blk_drew ?_ | refine blk_alloc ?_ _)); exact h_)) : P := g h
theorem wd_ {p : Prop} [Decidable p] (h : decide p = true := by first | (with_reducible assumption) | assumption) : p := of_decide_eq_true h
theorem wr_ {P : Prop} (h : P := by first | rfl | (simp; done) | (simp [*]; done)) : P := h
theorem we_ {P : Prop} (h : P := by first | rfl | (simp [errW_none, errW_some] <;> rfl) | (simp [*, errW_none, errW_some] <;> rfl)) : P := h
theorem wm_ {P : Prop} (h : P := by ((try simp only [List.map_toArray, List.map_cons, List.map_nil]); first | done | rfl | (simp only [List.length_drop, List.length_take]; rfl))) : P := h
theorem wc_ {P Q : Prop} (h : Q) (g : Q → P := by (intro h_; repeat (first | exact h_ | (with_reducible refine Kd.C_alloc ?_ _) | (with_reducible refine Kd.C_drewN ?_ _) | (with_reducible refine Kd.C_drew ?_)))) : P := g h
section
variable {P : Program} {md : Region.Mode} {ops : Array Oper} {Q : Exit → Act → World → Prop} {S : World → Prop} {ds : List Nat}
theorem pur_ {i : Nat} {N : Option Tmp} {oi : Oper} {v : Value} {fuel : Nat} {l : Array Bool} {a : Act} {w : World} (l' : Array Bool) (hc : anyB md ops l l' i = true) {a' : Act} (h : wpAnyLast P md ops Q S ds fuel l' a' w) (hi : ops[i]? = some oi := by rfl) (hN : oi.dst = N := by rfl)
  (hQ : ∀ c a w, Q (.panic c) (a.put oi.dst v) w → Q (.panic c) a w := by exact fun _ _ _ h => h) (hy : Yields P ops oi v a := by (refine Or.inl ⟨by rfl, ?_⟩; intro w'; go_simp; with_reducible rfl)) (ha : a.put N v = a' := by (simp only [Act.put, List.setIfInBounds_toArray, List.set_cons_zero, List.set_cons_succ, i64_w, i32_w]; rfl)) : wpAnyLast P md ops Q S ds (fuel + 1) l a w := pure_ l' hi hN hc hQ hy ha h
theorem puu_ {i : Nat} {N : Option Tmp} {oi : Oper} {fuel : Nat} {l : Array Bool} {a : Act} {w : World} (l' : Array Bool) (hc : anyB md ops l l' i = true) {a' : Act} (h : wpAnyLast P md ops Q S ds fuel l' a' w) (hi : ops[i]? = some oi := by rfl) (hN : oi.dst = N := by rfl)
  (hQ : ∀ c a w, Q (.panic c) (a.put oi.dst undef) w → Q (.panic c) a w := by exact fun _ _ _ h => h) (hy : Yields P ops oi undef a := by exact Or.inr ⟨by rfl, by rfl⟩) (ha : a.put N undef = a' := by (simp only [Act.put, List.setIfInBounds_toArray, List.set_cons_zero, List.set_cons_succ, i64_w, i32_w]; rfl)) : wpAnyLast P md ops Q S ds (fuel + 1) l a w := pure_ l' hi hN hc hQ hy ha h
theorem tak_ {i : Nat} {N : Option Tmp} {oi : Oper} {v : Value} {fuel : Nat} {l : Array Bool} {a : Act} {w : World} (l' : Array Bool) (hc : takeB md ops ds l l' i = true) (hS : S w) {a' : Act} (h : wpAnyLast P md ops Q S ds fuel l' a' w) (hi : ops[i]? = some oi := by rfl) (hN : oi.dst = N := by rfl)
  (hQ : ∀ c a w, Q (.panic c) (a.put oi.dst v) w → Q (.panic c) a w := by exact fun _ _ _ h => h) (hy : YieldsIf P ops S oi v a := by (refine Or.inl ⟨by rfl, ?_⟩; intro w' h_; (repeat (rcases h_ with ⟨h1_, h_⟩)); go_simp; with_reducible rfl)) (ha : a.put N v = a' := by (simp only [Act.put, List.setIfInBounds_toArray, List.set_cons_zero, List.set_cons_succ, i64_w, i32_w]; rfl)) : wpAnyLast P md ops Q S ds (fuel + 1) l a w := take_ l' hi hN hc hQ hy hS ha h
end
end Go.Proofs.YtbngbefchobfnaaGreatDoor.Print

namespace Go.Proofs.YtbngbefchobfnaaGreatDoor
open Go.RowKit Go.Maps Go.ChangeMaps Go.WideMaps
def heldE (v : Value) : Option (DataW Value × List MemPlace) := some (.held v, [])
def MapS (P : Program) (K : TypeId) (w : World) (b n : Nat) (f : List UInt8 → Option Value) : Prop :=
 ∃ D : DataW Value, w.ownsMap P K heldE b n D ∧ (∀ s, Maps.has D (.string s) = (f s).isSome) ∧ (∀ s v, f s = some v → ∀ z, D.atKey (.string s) z = .held v)
section
variable {P : Program} {K e t : TypeId} {w w' : World} {b n : Nat} {f : List UInt8 → Option Value}
theorem MapS.made (P : Program) (K : TypeId) (w : World) : MapS P K (w.alloc (.map #[] 0)) w.heap.size 0 (fun _ => none) :=
 ⟨.map [], World.ownsMap_made _ _ _ _, fun _ => rfl, fun _ _ h => by cases h⟩
theorem MapS.lt (h : MapS P K w b n f) : b < w.heap.size := by
 obtain ⟨D, h, _⟩ := h
 exact h.lt
theorem MapS.mono (h : MapS P K w b n f) {m : Nat} (hm : n ≤ m) : MapS P K w b m f := by
 obtain ⟨D, h, h2⟩ := h
 exact ⟨D, h.mono hm, h2⟩
theorem MapS.kept {row : Option Nat} (h : MapS P K w b n f) (hg : w.grownBy w' row) (hne : some b ≠ row) : MapS P K w' b n f := by
 obtain ⟨D, h, h2⟩ := h
 exact ⟨D, h.kept hg hne, h2⟩
theorem MapS.step (h : MapS P K w b n f) (he : w'.heap[b]? = w.heap[b]?) : MapS P K w' b n f := by
 obtain ⟨D, ⟨es, clock, hb, F, r⟩, h2⟩ := h
 exact ⟨D, ⟨es, clock, he.trans hb, F, r⟩, h2⟩
theorem MapS.below (h : MapS P K w b n f) (hb : Below w.heap.size w w') : MapS P K w' b n f := h.step (hb.block b h.lt)
theorem MapS.alloc (h : MapS P K w b n f) (o : Obj) : MapS P K (w.alloc o) b n f := h.kept (World.grownBy_alloc w o none) (by simp)
theorem MapS.drew (h : MapS P K w b n f) : MapS P K w.drew b n f := h
theorem MapS.drewN (h : MapS P K w b n f) (m : Nat) : MapS P K (w.drewN m) b n f := by
 induction m generalizing w with
 | zero => exact h
 | succ m ih => exact ih h.drew
theorem MapS.setCell (h : MapS P K w b n f) {a : Addr} (ha : b ≠ a.block) (u : Value) : MapS P K (w.setCell a u) b n f := by
 obtain ⟨D, h, h2⟩ := h
 exact ⟨D, h.setCell ha u, h2⟩
theorem MapS.ext {g : List UInt8 → Option Value} (h : MapS P K w b n f) (hg : ∀ s, f s = g s) : MapS P K w b n g := by
 obtain rfl : f = g := funext hg
 exact h
theorem MapS.look_ok (h : MapS P K w b n f) (hK : P.underlying K = some .string) (ht : P.underlying t = some (.map K e)) {z : Value} (hz : (zeroValue e).run P w = .ok z w) {s : ByteArray} (hs : s.size ≤ maxLen) :
  (Instr.lookup t (.map (some b)) (.string s) true).run P w = .ok (.tuple #[(f s.data.toList).getD z, .bool (f s.data.toList).isSome]) w := by
 obtain ⟨D, h, hh, ha⟩ := h
 obtain ⟨v, ps, hrun, hv⟩ := h.look_ok (string_keyed hK) ht hz (zd := .held z) (zp := []) rfl (keyOf_string_mk hK hs)
 rw [hrun, hh]
 simp only [heldE, Option.some.injEq, Prod.mk.injEq] at hv
 cases hf : f s.data.toList with
 | none =>
  have h0 : Maps.has D (.string s.data.toList) = false := by rw [hh, hf]; rfl
  have h1 := hv.1
  rw [Maps.atKey_of_not_has h0] at h1
  cases h1
  rfl
 | some v' =>
  have h1 := hv.1
  rw [ha _ _ hf] at h1
  cases h1
  rfl
theorem MapS.look (h : MapS P K w b n f) (hK : P.underlying K = some .string) (ht : P.underlying t = some (.map K e)) {z : Value} (hz : (zeroValue e).run P w = .ok z w) {s : ByteArray} (hs : s.size ≤ maxLen) :
  (Instr.lookup t (.map (some b)) (.string s) false).run P w = .ok ((f s.data.toList).getD z) w := by
 obtain ⟨D, h, hh, ha⟩ := h
 obtain ⟨v, ps, hrun, hv⟩ := h.lookup (string_keyed hK) ht hz (zd := .held z) (zp := []) rfl (keyOf_string_mk hK hs)
 rw [hrun]
 simp only [heldE, Option.some.injEq, Prod.mk.injEq] at hv
 cases hf : f s.data.toList with
 | none =>
  have h0 : Maps.has D (.string s.data.toList) = false := by rw [hh, hf]; rfl
  have h1 := hv.1
  rw [Maps.atKey_of_not_has h0] at h1
  cases h1
  rfl
 | some v' =>
  have h1 := hv.1
  rw [ha _ _ hf] at h1
  cases h1
  rfl
def putS (f : List UInt8 → Option Value) (s : List UInt8) (v : Value) : List UInt8 → Option Value := fun t => if t = s then some v else f t
theorem MapS.put (h : MapS P K w b n f) (hK : P.underlying K = some .string) (ht : P.underlying t = some (.map K e)) (hn : n < maxLen) {s : ByteArray} (hs : s.size ≤ maxLen) (v : Value) :
  ∃ w', (Instr.mapUpdate t (.map (some b)) (.string s) v).run P w = .ok () w' ∧ MapS P K w' b (n + 1) (putS f s.data.toList v) ∧ w.mapTurned w' b := by
 obtain ⟨D, h, hh, ha⟩ := h
 obtain ⟨w', hrun, h', hturn⟩ := h.store (string_keyed hK) ht hn (d := .held v) (ps := []) (keyOf_string_mk hK hs) rfl
 have hk : WideAt.IsKeyLit (.string s.data.toList) := trivial
 refine ⟨w', hrun, ⟨D.put (.string s.data.toList) (.held v), h', fun t => ?_, fun t u hu z => ?_⟩, hturn⟩
 ·unfold putS
  by_cases e : t = s.data.toList
  ·rw [if_pos e, e, Maps.has_put_same h.isMap hk]; rfl
  ·rw [if_neg e, Maps.has_put_other (by intro h; injection h with h; exact e h), hh]
 ·unfold putS at hu
  by_cases e : t = s.data.toList
  ·rw [if_pos e] at hu
   cases hu
   rw [e, Maps.atKey_put_same h.isMap hk]
  ·rw [if_neg e] at hu
   rw [Maps.atKey_put_other (by intro h; injection h with h; exact e h)]
   exact ha _ _ hu z
theorem MapS.wpput {ops : Array Oper} {rest : List Oper} {o : Oper} {a : Act} {Q : Exit → Act → World → Prop} (h : MapS P K w b n f) (hg : o.guard = none) (m x v : Operand) (hop : o.op = Op.mapUpdate t m x v)
  (hK : P.underlying K = some .string) (ht : P.underlying t = some (.map K e)) (hn : n < maxLen) (hm : a.eval m = .map (some b)) {s : ByteArray} (hx : a.eval x = .string s) (hs : s.size ≤ maxLen) {u : Value} (hv : a.eval v = u)
  (hk : ∀ w', MapS P K w' b (n + 1) (putS f s.data.toList u) → w.mapTurned w' b → wpList P ops Q rest (a.put o.dst undef) w') : wpList P ops Q (o :: rest) a w := by
 refine wpList_plain hg fun K' hK' => ?_
 obtain ⟨w', hrun, r1, r2⟩ := h.put hK ht hn hs u
 unfold Oper.wp
 simp [execOp, hop, hm, hx, hv, hrun, Result.andThen]
 exact hK' _ _ (hk w' r1 r2)
theorem MapS.len (h : MapS P K w b n f) : ∃ m : Nat, m ≤ n ∧ ∀ {t e ty : TypeId}, P.underlying t = some (.map K e) → (Builtin.len_ #[t] ty #[.map (some b)]).run P w = .ok (.int .i64 m) w := by
 obtain ⟨D, h, _⟩ := h
 exact ⟨Maps.size D, h.size_le, fun ht => h.len ht _⟩
end
end Go.Proofs.YtbngbefchobfnaaGreatDoor

namespace Go.Proofs.YtbngbefchobfnaaGreatDoor
open Go.RowKit Go.Maps Go.ChangeMaps Go.WideMaps
def MapK (P : Program) (K : TypeId) (w : World) (b n : Nat) (f : Value → Option Value) : Prop :=
 ∃ D : DataW Value, w.ownsMap P K heldE b n D ∧ (∀ v l, keyOf P K v = some l → Maps.has D l = (f v).isSome) ∧ (∀ v l u, keyOf P K v = some l → f v = some u → ∀ z, D.atKey l z = .held u)
noncomputable def putK (f : Value → Option Value) (k u : Value) : Value → Option Value := fun v => open Classical in if v = k then some u else f v
section
variable {P : Program} {K e t : TypeId} {w w' : World} {b n : Nat} {f : Value → Option Value}
theorem MapK.made (P : Program) (K : TypeId) (w : World) : MapK P K (w.alloc (.map #[] 0)) w.heap.size 0 (fun _ => none) :=
 ⟨.map [], World.ownsMap_made _ _ _ _, fun _ _ _ => rfl, fun _ _ _ _ h => by cases h⟩
theorem MapK.lt (h : MapK P K w b n f) : b < w.heap.size := by
 obtain ⟨D, h, _⟩ := h
 exact h.lt
theorem MapK.mono (h : MapK P K w b n f) {m : Nat} (hm : n ≤ m) : MapK P K w b m f := by
 obtain ⟨D, h, h2⟩ := h
 exact ⟨D, h.mono hm, h2⟩
theorem MapK.kept {row : Option Nat} (h : MapK P K w b n f) (hg : w.grownBy w' row) (hne : some b ≠ row) : MapK P K w' b n f := by
 obtain ⟨D, h, h2⟩ := h
 exact ⟨D, h.kept hg hne, h2⟩
theorem MapK.step (h : MapK P K w b n f) (he : w'.heap[b]? = w.heap[b]?) : MapK P K w' b n f := by
 obtain ⟨D, ⟨es, clock, hb, F, r⟩, h2⟩ := h
 exact ⟨D, ⟨es, clock, he.trans hb, F, r⟩, h2⟩
theorem MapK.below (h : MapK P K w b n f) (hb : Below w.heap.size w w') : MapK P K w' b n f := h.step (hb.block b h.lt)
theorem MapK.alloc (h : MapK P K w b n f) (o : Obj) : MapK P K (w.alloc o) b n f := h.kept (World.grownBy_alloc w o none) (by simp)
theorem MapK.isMap (h : MapK P K w b n f) : ∃ es clock, w.heap[b]? = some (.map es clock) := by
 obtain ⟨D, ⟨es, clock, hb, _⟩, _⟩ := h
 exact ⟨es, clock, hb⟩
theorem MapK.look_ok (h : MapK P K w b n f) (hK : KeyLaw P K) (ht : P.underlying t = some (.map K e)) {z : Value} (hz : (zeroValue e).run P w = .ok z w) {k : Value} {l : Lit} (hs : keyOf P K k = some l) :
  (Instr.lookup t (.map (some b)) k true).run P w = .ok (.tuple #[(f k).getD z, .bool (f k).isSome]) w := by
 obtain ⟨D, h, hh, ha⟩ := h
 obtain ⟨v, ps, hrun, hv⟩ := h.look_ok (Keyed.of_law hK) ht hz (zd := .held z) (zp := []) rfl hs
 rw [hrun, hh k l hs]
 simp only [heldE, Option.some.injEq, Prod.mk.injEq] at hv
 cases hf : f k with
 | none =>
  have h0 : Maps.has D l = false := by rw [hh k l hs, hf]; rfl
  have h1 := hv.1
  rw [Maps.atKey_of_not_has h0] at h1
  cases h1
  rfl
 | some v' =>
  have h1 := hv.1
  rw [ha k l _ hs hf] at h1
  cases h1
  rfl
theorem MapK.look (h : MapK P K w b n f) (hK : KeyLaw P K) (ht : P.underlying t = some (.map K e)) {z : Value} (hz : (zeroValue e).run P w = .ok z w) {k : Value} {l : Lit} (hs : keyOf P K k = some l) :
  (Instr.lookup t (.map (some b)) k false).run P w = .ok ((f k).getD z) w := by
 obtain ⟨D, h, hh, ha⟩ := h
 obtain ⟨v, ps, hrun, hv⟩ := h.lookup (Keyed.of_law hK) ht hz (zd := .held z) (zp := []) rfl hs
 rw [hrun]
 simp only [heldE, Option.some.injEq, Prod.mk.injEq] at hv
 cases hf : f k with
 | none =>
  have h0 : Maps.has D l = false := by rw [hh k l hs, hf]; rfl
  have h1 := hv.1
  rw [Maps.atKey_of_not_has h0] at h1
  cases h1
  rfl
 | some v' =>
  have h1 := hv.1
  rw [ha k l _ hs hf] at h1
  cases h1
  rfl
theorem MapK.put (h : MapK P K w b n f) (hK : KeyLaw P K) (ht : P.underlying t = some (.map K e)) (hn : n < maxLen) {k : Value} {l : Lit} (hs : keyOf P K k = some l) (v : Value) :
  ∃ w', (Instr.mapUpdate t (.map (some b)) k v).run P w = .ok () w' ∧ MapK P K w' b (n + 1) (putK f k v) ∧ w.mapTurned w' b := by
 obtain ⟨D, h, hh, ha⟩ := h
 obtain ⟨w', hrun, h', hturn⟩ := h.store (Keyed.of_law hK) ht hn (d := .held v) (ps := []) hs rfl
 have hk : WideAt.IsKeyLit l := by
  obtain ⟨s, rfl⟩ := hK.str hs
  trivial
 refine ⟨w', hrun, ⟨D.put l (.held v), h', fun k' l' hl' => ?_, fun k' l' u hl' hu z => ?_⟩, hturn⟩
 ·unfold putK
  by_cases e : k' = k
  ·subst e
   rw [hl'] at hs
   cases hs
   rw [if_pos rfl, Maps.has_put_same h.isMap hk]; rfl
  ·have hne : l ≠ l' := fun e2 => e (hK.inj hl' (e2 ▸ hs))
   rw [if_neg e, Maps.has_put_other (fun e2 => hne e2.symm), hh k' l' hl']
 ·unfold putK at hu
  by_cases e : k' = k
  ·subst e
   rw [hl'] at hs
   cases hs
   rw [if_pos rfl] at hu
   cases hu
   rw [Maps.atKey_put_same h.isMap hk]
  ·have hne : l ≠ l' := fun e2 => e (hK.inj hl' (e2 ▸ hs))
   rw [if_neg e] at hu
   rw [Maps.atKey_put_other (fun e2 => hne e2.symm)]
   exact ha k' l' u hl' hu z
theorem MapK.wpput {ops : Array Oper} {rest : List Oper} {o : Oper} {a : Act} {Q : Exit → Act → World → Prop} (h : MapK P K w b n f) (hg : o.guard = none) (m x v : Operand) (hop : o.op = Op.mapUpdate t m x v)
  (hK : KeyLaw P K) (ht : P.underlying t = some (.map K e)) (hn : n < maxLen) (hm : a.eval m = .map (some b)) {k : Value} {l : Lit} (hx : a.eval x = k) (hs : keyOf P K k = some l) {u : Value} (hv : a.eval v = u)
  (hk : ∀ w', MapK P K w' b (n + 1) (putK f k u) → w.mapTurned w' b → wpList P ops Q rest (a.put o.dst undef) w') : wpList P ops Q (o :: rest) a w := by
 refine wpList_plain hg fun K' hK' => ?_
 obtain ⟨w', hrun, r1, r2⟩ := h.put hK ht hn hs u
 unfold Oper.wp
 simp [execOp, hop, hm, hx, hv, hrun, Result.andThen]
 exact hK' _ _ (hk w' r1 r2)
theorem setBlock_twice (w : World) (b : Nat) (x y : Obj) : setBlock (setBlock w b x) b y = setBlock w b y := by
 unfold setBlock
 simp
theorem entry_steps (hK : KeyLaw P K) (ht : P.underlying t = some (.map K e)) {z : Value} (hz : ∀ u : World, (zeroValue e).run P u = .ok z u) {D : DataW Value} (h : w.ownsMap P K heldE b n D) {k : Value} {l : Lit} (hs : keyOf P K k = some l) :
  ∃ v0 st w1, (Instr.mapEntry t (.map (some b)) k).run P w = .ok (.tuple #[v0, goInt st]) w1 ∧ w.mapTurned w1 b ∧ ∀ val w3, (Instr.mapUpdate t (.map (some b)) k val).run P w = .ok () w3 → (Instr.entryStore t (.map (some b)) (goInt st) val).run P w1 = .ok () w3 := by
 obtain ⟨es, clock, hb, F, _, _⟩ := h
 obtain ⟨v0, st, es1, clock1, h1, _, h3⟩ := WideElems.entry_then_store hK ht hz hb F hs
 refine ⟨v0, st, _, h1, ⟨es, clock, es1, clock1, hb, rfl⟩, fun val w3 h4 => ?_⟩
 obtain ⟨es', clock', h5, h6⟩ := h3 (setBlock w b (.map es1 clock1)) val (heap_setBlock_same hb _)
 rw [h6] at h4
 rw [h5, setBlock_twice]
 exact h4
theorem MapK.entry (h : MapK P K w b n f) (hK : KeyLaw P K) (ht : P.underlying t = some (.map K e)) (hn : n < maxLen) {z : Value} (hz : ∀ u : World, (zeroValue e).run P u = .ok z u) {k : Value} {l : Lit} (hs : keyOf P K k = some l) :
  ∃ v0 st w1, (Instr.mapEntry t (.map (some b)) k).run P w = .ok (.tuple #[v0, goInt st]) w1 ∧ w.mapTurned w1 b ∧ ∀ val, ∃ w3, (Instr.entryStore t (.map (some b)) (goInt st) val).run P w1 = .ok () w3 ∧ MapK P K w3 b (n + 1) (putK f k val) ∧ w.mapTurned w3 b := by
 obtain ⟨D, hD, _⟩ := id h
 obtain ⟨v0, st, w1, h1, h2, h3⟩ := entry_steps hK ht hz hD hs
 refine ⟨v0, st, w1, h1, h2, fun val => ?_⟩
 obtain ⟨w3, h4, h5, h6⟩ := h.put hK ht hn hs val
 exact ⟨w3, h3 val w3 h4, h5, h6⟩
theorem MapS.entry {f : List UInt8 → Option Value} (h : MapS P K w b n f) (hK : P.underlying K = some .string) (ht : P.underlying t = some (.map K e)) (hn : n < maxLen) {z : Value} (hz : ∀ u : World, (zeroValue e).run P u = .ok z u) {s : ByteArray} (hs : s.size ≤ maxLen) :
  ∃ v0 st w1, (Instr.mapEntry t (.map (some b)) (.string s)).run P w = .ok (.tuple #[v0, goInt st]) w1 ∧ w.mapTurned w1 b ∧ ∀ val, ∃ w3, (Instr.entryStore t (.map (some b)) (goInt st) val).run P w1 = .ok () w3 ∧ MapS P K w3 b (n + 1) (putS f s.data.toList val) ∧ w.mapTurned w3 b := by
 obtain ⟨D, hD, _⟩ := id h
 obtain ⟨v0, st, w1, h1, h2, h3⟩ := entry_steps (string_law hK) ht hz hD (keyOf_string_mk hK hs)
 refine ⟨v0, st, w1, h1, h2, fun val => ?_⟩
 obtain ⟨w3, h4, h5, h6⟩ := h.put hK ht hn hs val
 exact ⟨w3, h3 val w3 h4, h5, h6⟩
theorem turned_grown (h : w.mapTurned w' b) : w.grownBy w' (some b) := by
 obtain ⟨es, clock, es', clock', hb, rfl⟩ := h
 exact ⟨rfl, rfl, rfl, by simp [setBlock], fun i _ hi => heap_setBlock_other hb _ (fun e => hi (by rw [e]))⟩
end
end Go.Proofs.YtbngbefchobfnaaGreatDoor

namespace Go.Proofs.YtbngbefchobfnaaGreatDoor.Print
open Go.RowKit Go.Proofs.YtbngbefchobfnaaGreatDoorW.PrintWords Go.Proofs.YtbngbefchobfnaaGreatDoorW.PrintLast Go.Proofs.YtbngbefchobfnaaGreatDoorW.PrintMore
attribute [local go_sem] max2_int min2_int max_two min_two max_three min_three max_four min_four   -- for this text's walks alone
set_option linter.unusedVariables false
set_option linter.unusedSimpArgs false
def errW : Option Int → Value
 | none => .nilIface
 | some c => .iface 0 (.int .i64 c)
theorem errW_none : errW none = .nilIface := rfl
theorem errW_some (c : Int) : errW (some c) = .iface 0 (.int .i64 c) := rfl
structure S39 where
 f0 : Int
 f1 : Int
 f2 : Int
 f3 : Int
def z39 : S39 := ⟨(0 : Int), (0 : Int), (0 : Int), (0 : Int)⟩
def k39 : Kd S39 := Kd.iso (Kd.pair (Kd.int .i64) (Kd.pair (Kd.int .i64) (Kd.pair (Kd.int .i64) (Kd.int .i64)))) (fun x : S39 => (x.f0, x.f1, x.f2, x.f3))
theorem k39_heap : Kd.Heap k39 := Kd.heap_iso _ (Kd.heap_pair (Kd.heap_int .i64) (Kd.heap_pair (Kd.heap_int .i64) (Kd.heap_pair (Kd.heap_int .i64) (Kd.heap_int .i64))))
theorem k39_open {w : World} {x : S39} {cs : List Value} (h : k39.K w x cs) : cs = [.int .i64 x.f0, .int .i64 x.f1, .int .i64 x.f2, .int .i64 x.f3] := by
 obtain ⟨_, _, rfl, rfl, ⟨_, _, rfl, rfl, ⟨_, _, rfl, rfl, rfl⟩⟩⟩ := h
 exact rfl
theorem k39_mk (w : World) (x : S39)  : k39.K w x [.int .i64 x.f0, .int .i64 x.f1, .int .i64 x.f2, .int .i64 x.f3] := ⟨[.int .i64 x.f0], [.int .i64 x.f1, .int .i64 x.f2, .int .i64 x.f3], rfl, rfl, ⟨[.int .i64 x.f1], [.int .i64 x.f2, .int .i64 x.f3], rfl, rfl, ⟨[.int .i64 x.f2], [.int .i64 x.f3], rfl, rfl, rfl⟩⟩⟩
theorem k39_mkM (w : World) (base : Nat) (ok : Nat → Prop) (x : S39)  : k39.M w base ok x [.int .i64 x.f0, .int .i64 x.f1, .int .i64 x.f2, .int .i64 x.f3] := ⟨[.int .i64 x.f0], [.int .i64 x.f1, .int .i64 x.f2, .int .i64 x.f3], rfl, rfl, ⟨[.int .i64 x.f1], [.int .i64 x.f2, .int .i64 x.f3], rfl, rfl, ⟨[.int .i64 x.f2], [.int .i64 x.f3], rfl, rfl, rfl⟩⟩⟩
structure S42 where
 f0 : ByteArray
 f1 : ByteArray
 f2 : ByteArray
 f3 : Int
 f4 : S39
 f5 : (List Int)
def z42 : S42 := ⟨(⟨#[]⟩ : ByteArray), (⟨#[]⟩ : ByteArray), (⟨#[]⟩ : ByteArray), (0 : Int), z39, ([] : List Int)⟩
def k42 : Kd S42 := Kd.iso (Kd.pair Kd.string (Kd.pair Kd.string (Kd.pair Kd.string (Kd.pair (Kd.int .u8) (Kd.pair k39 (Kd.slice 5 (Kd.int .u8))))))) (fun x : S42 => (x.f0, x.f1, x.f2, x.f3, x.f4, x.f5))
theorem k42_heap : Kd.Heap k42 := Kd.heap_iso _ (Kd.heap_pair Kd.heap_string (Kd.heap_pair Kd.heap_string (Kd.heap_pair Kd.heap_string (Kd.heap_pair (Kd.heap_int .u8) (Kd.heap_pair k39_heap (Kd.heap_slice 5 (Kd.heap_int .u8)))))))
theorem k42_open {w : World} {x : S42} {cs : List Value} (h : k42.K w x cs) : ∃ A8 c8, cs = [.string x.f0, .string x.f1, .string x.f2, .int .u8 x.f3, .int .i64 x.f4.f0, .int .i64 x.f4.f1, .int .i64 x.f4.f2, .int .i64 x.f4.f3, .slice A8 x.f5.length c8] ∧ x.f5.length ≤ c8 ∧ (Kd.int .u8).C w A8 x.f5.length x.f5 := by
 obtain ⟨_, _, rfl, rfl, ⟨_, _, rfl, rfl, ⟨_, _, rfl, rfl, ⟨_, _, rfl, rfl, ⟨_, _, rfl, s4, ⟨A8, c8, rfl, l8, g8⟩⟩⟩⟩⟩⟩ := h
 obtain rfl := k39_open s4
 exact ⟨A8, c8, rfl, l8, g8⟩
theorem k42_mk (w : World) (x : S42) {A8 : Option Addr} {c8 : Nat} (l8 : x.f5.length ≤ c8) (g8 : (Kd.int .u8).C w A8 x.f5.length x.f5) : k42.K w x [.string x.f0, .string x.f1, .string x.f2, .int .u8 x.f3, .int .i64 x.f4.f0, .int .i64 x.f4.f1, .int .i64 x.f4.f2, .int .i64 x.f4.f3, .slice A8 x.f5.length c8] := ⟨[.string x.f0], [.string x.f1, .string x.f2, .int .u8 x.f3, .int .i64 x.f4.f0, .int .i64 x.f4.f1, .int .i64 x.f4.f2, .int .i64 x.f4.f3, .slice A8 x.f5.length c8], rfl, rfl, ⟨[.string x.f1], [.string x.f2, .int .u8 x.f3, .int .i64 x.f4.f0, .int .i64 x.f4.f1, .int .i64 x.f4.f2, .int .i64 x.f4.f3, .slice A8 x.f5.length c8], rfl, rfl, ⟨[.string x.f2], [.int .u8 x.f3, .int .i64 x.f4.f0, .int .i64 x.f4.f1, .int .i64 x.f4.f2, .int .i64 x.f4.f3, .slice A8 x.f5.length c8], rfl, rfl, ⟨[.int .u8 x.f3], [.int .i64 x.f4.f0, .int .i64 x.f4.f1, .int .i64 x.f4.f2, .int .i64 x.f4.f3, .slice A8 x.f5.length c8], rfl, rfl, ⟨[.int .i64 x.f4.f0, .int .i64 x.f4.f1, .int .i64 x.f4.f2, .int .i64 x.f4.f3], [.slice A8 x.f5.length c8], rfl, (k39_mk w x.f4 ), ⟨A8, c8, rfl, l8, g8⟩⟩⟩⟩⟩⟩
theorem k42_mkM (w : World) (base : Nat) (ok : Nat → Prop) (x : S42) {v8 : Value} (g8 : (Kd.int .u8).R 5 w base ok v8 x.f5) : k42.M w base ok x [.string x.f0, .string x.f1, .string x.f2, .int .u8 x.f3, .int .i64 x.f4.f0, .int .i64 x.f4.f1, .int .i64 x.f4.f2, .int .i64 x.f4.f3, v8] := ⟨[.string x.f0], [.string x.f1, .string x.f2, .int .u8 x.f3, .int .i64 x.f4.f0, .int .i64 x.f4.f1, .int .i64 x.f4.f2, .int .i64 x.f4.f3, v8], rfl, rfl, ⟨[.string x.f1], [.string x.f2, .int .u8 x.f3, .int .i64 x.f4.f0, .int .i64 x.f4.f1, .int .i64 x.f4.f2, .int .i64 x.f4.f3, v8], rfl, rfl, ⟨[.string x.f2], [.int .u8 x.f3, .int .i64 x.f4.f0, .int .i64 x.f4.f1, .int .i64 x.f4.f2, .int .i64 x.f4.f3, v8], rfl, rfl, ⟨[.int .u8 x.f3], [.int .i64 x.f4.f0, .int .i64 x.f4.f1, .int .i64 x.f4.f2, .int .i64 x.f4.f3, v8], rfl, rfl, ⟨[.int .i64 x.f4.f0, .int .i64 x.f4.f1, .int .i64 x.f4.f2, .int .i64 x.f4.f3], [v8], rfl, (k39_mkM w base ok x.f4 ), ⟨v8, rfl, g8⟩⟩⟩⟩⟩⟩
theorem k42_openF {W : World} {ok : Nat → Prop} {x : S42} {cs : List Value} (h : Kd.FK k42 W ok x cs) : ∃ A8 c8, cs = [.string x.f0, .string x.f1, .string x.f2, .int .u8 x.f3, .int .i64 x.f4.f0, .int .i64 x.f4.f1, .int .i64 x.f4.f2, .int .i64 x.f4.f3, .slice A8 x.f5.length c8] ∧ x.f5.length ≤ c8 ∧ Kd.F (Kd.int .u8) W ok A8 x.f5.length x.f5 := by
 obtain ⟨A8, c8, rfl, l8, _⟩ := k42_open (Kd.FK_now h)
 exact ⟨A8, c8, rfl, l8, (fun W' hW => by obtain ⟨A8_, c8_, he, l8_, g8_⟩ := k42_open (h W' hW); injection (Option.some.inj (show some (Value.slice A8 x.f5.length c8) = some (Value.slice A8_ x.f5.length c8_) from congrArg (fun l => l[8]?) he)) with ha_ _ _; rw [ha_]; exact g8_)⟩
theorem k42_mkF (W : World) (ok : Nat → Prop) (x : S42) {A8 : Option Addr} {c8 : Nat} (l8 : x.f5.length ≤ c8) (g8 : Kd.F (Kd.int .u8) W ok A8 x.f5.length x.f5) : Kd.FK k42 W ok x [.string x.f0, .string x.f1, .string x.f2, .int .u8 x.f3, .int .i64 x.f4.f0, .int .i64 x.f4.f1, .int .i64 x.f4.f2, .int .i64 x.f4.f3, .slice A8 x.f5.length c8] := fun W2 hW => k42_mk W2 x l8 (g8 W2 hW)
def rd_T42 (xs : List S42) (i : Int) : S42 := xs.getD i.toNat z42
theorem at_T42 {w : World} {A : Option Addr} {n : Nat} {xs : List S42} (h : Kd.C k42 w A n xs) (i : Int) (h0 : 0 ≤ i) (h1 : i < n) : ∃ ad A8 c8, A = some ad ∧ w.cell? (ad.add (i.toNat * 9)) = some (.string (rd_T42 xs i).f0) ∧ w.cell? ⟨(ad.add (i.toNat * 9)).block, (ad.add (i.toNat * 9)).off + 1, none⟩ = some (.string (rd_T42 xs i).f1) ∧ w.cell? ⟨(ad.add (i.toNat * 9)).block, (ad.add (i.toNat * 9)).off + 2, none⟩ = some (.string (rd_T42 xs i).f2) ∧ w.cell? ⟨(ad.add (i.toNat * 9)).block, (ad.add (i.toNat * 9)).off + 3, none⟩ = some (.int .u8 (rd_T42 xs i).f3) ∧ w.cell? ⟨(ad.add (i.toNat * 9)).block, (ad.add (i.toNat * 9)).off + 4, none⟩ = some (.int .i64 (rd_T42 xs i).f4.f0) ∧ w.cell? ⟨(ad.add (i.toNat * 9)).block, (ad.add (i.toNat * 9)).off + 5, none⟩ = some (.int .i64 (rd_T42 xs i).f4.f1) ∧ w.cell? ⟨(ad.add (i.toNat * 9)).block, (ad.add (i.toNat * 9)).off + 6, none⟩ = some (.int .i64 (rd_T42 xs i).f4.f2) ∧ w.cell? ⟨(ad.add (i.toNat * 9)).block, (ad.add (i.toNat * 9)).off + 7, none⟩ = some (.int .i64 (rd_T42 xs i).f4.f3) ∧ w.cell? ⟨(ad.add (i.toNat * 9)).block, (ad.add (i.toNat * 9)).off + 8, none⟩ = some (.slice A8 (rd_T42 xs i).f5.length c8) ∧ (rd_T42 xs i).f5.length ≤ c8 ∧ (Kd.int .u8).C w A8 (rd_T42 xs i).f5.length (rd_T42 xs i).f5 := by
 obtain ⟨ad, c, e, _, hK, hc0⟩ := Kd.C_get h z42 i h0 h1
 have hc : ∀ j u, c[j]? = some u → w.cell? (ad.add (i.toNat * 9 + j)) = some u := hc0
 obtain ⟨A8, c8, rfl, l8, g8⟩ := k42_open hK
 exact ⟨ad, A8, c8, e, hc 0 _ rfl, by rw [← add_field _ _ 1 (by omega)]; exact hc 1 _ rfl, by rw [← add_field _ _ 2 (by omega)]; exact hc 2 _ rfl, by rw [← add_field _ _ 3 (by omega)]; exact hc 3 _ rfl, by rw [← add_field _ _ 4 (by omega)]; exact hc 4 _ rfl, by rw [← add_field _ _ 5 (by omega)]; exact hc 5 _ rfl, by rw [← add_field _ _ 6 (by omega)]; exact hc 6 _ rfl, by rw [← add_field _ _ 7 (by omega)]; exact hc 7 _ rfl, by rw [← add_field _ _ 8 (by omega)]; exact hc 8 _ rfl, l8, g8⟩
def rd_L6 (xs : List (List S42)) (i : Int) : (List S42) := xs.getD i.toNat ([] : List S42)
theorem at_L6 {w : World} {A : Option Addr} {n : Nat} {xs : List (List S42)} (h : Kd.C (Kd.slice 42 k42) w A n xs) (i : Int) (h0 : 0 ≤ i) (h1 : i < n) : ∃ ad A0 c0, A = some ad ∧ w.cell? (ad.add i.toNat) = some (.slice A0 (rd_L6 xs i).length c0) ∧ (rd_L6 xs i).length ≤ c0 ∧ k42.C w A0 (rd_L6 xs i).length (rd_L6 xs i) := by
 obtain ⟨ad, c, e, _, hK, hc0⟩ := Kd.C_get h ([] : List S42) i h0 h1
 have hc : ∀ j u, c[j]? = some u → w.cell? (ad.add (i.toNat * 1 + j)) = some u := hc0
 obtain ⟨A0, c0, rfl, l0, g0⟩ := hK
 exact ⟨ad, A0, c0, e, by have hq := hc 0 _ rfl; rwa [Nat.mul_one, Nat.add_zero] at hq, l0, g0⟩
structure S67 where
 f0 : S42
 f1 : Int
end Go.Proofs.YtbngbefchobfnaaGreatDoor.Print

namespace Go.Proofs.YtbngbefchobfnaaGreatDoor.Print
structure S72 where
 f0 : ByteArray
 f1 : ByteArray
 f2 : Int
 f3 : S39
 f4 : (List Int)
def z72 : S72 := ⟨⟨#[]⟩, ⟨#[]⟩, 0, z39, []⟩
end Go.Proofs.YtbngbefchobfnaaGreatDoor.Print

namespace Go.Proofs.YtbngbefchobfnaaGreatDoor
def splitB : List UInt8 → List (List UInt8)
 | [] => [[]]
 | c :: r => if c = 47 then [] :: splitB r else match splitB r with
   | [] => [[c]]
   | p :: ps => (c :: p) :: ps
theorem splitB_ne (l : List UInt8) : splitB l ≠ [] := by
 cases l with
 | nil => simp [splitB]
 | cons c r =>
  simp only [splitB]
  split
  ·simp
  ·split <;> simp
def ofL (l : List UInt8) : ByteArray := ⟨l.toArray⟩
def splitS (s : ByteArray) : List ByteArray := (splitB s.data.toList).map ofL
theorem indexByte_cases (l : List UInt8) : (Lib.indexByte l 47 = -1 ∧ splitB l = [l]) ∨
  ∃ i : Nat, Lib.indexByte l 47 = i ∧ i < l.length ∧ splitB l = l.take i :: splitB (l.drop (i + 1)) := by
 induction l with
 | nil => exact .inl ⟨rfl, rfl⟩
 | cons c r ih =>
  by_cases hc : c = 47
  ·subst hc
   exact .inr ⟨0, by simp [Lib.indexByte], by simp, by simp [splitB]⟩
  ·have hb : (c == 47) = false := by simpa using hc
   rcases ih with ⟨h1, h2⟩ | ⟨i, h1, h2, h3⟩
   ·left
    refine ⟨by simp [Lib.indexByte, hb, h1], ?_⟩
    simp [splitB, hc, h2]
   ·right
    refine ⟨i + 1, ?_, by simp; omega, ?_⟩
    ·have : ¬ ((i : Int) = -1) := by omega
     simp [Lib.indexByte, hb, h1, this]
    ·simp [splitB, hc, h3]
theorem ofL_data (s : ByteArray) : ofL s.data.toList = s := by
 cases s; simp [ofL]
theorem data_ofL (l : List UInt8) : (ofL l).data.toList = l := by simp [ofL]
theorem ext_data (s : ByteArray) (a b : Nat) : (s.extract a b).data.toList = (s.data.toList.take b).drop a := by
 rw [ByteArray.data_extract]
 simp [List.extract_eq_take_drop, List.drop_take]
theorem splitS_cases (s : ByteArray) : (Lib.indexByte s.data.toList 47 = -1 ∧ splitS s = [s]) ∨
  ∃ i : Nat, Lib.indexByte s.data.toList 47 = i ∧ i < s.size ∧ splitS s = s.extract 0 i :: splitS (s.extract (i + 1) s.size) := by
 rcases indexByte_cases s.data.toList with ⟨h1, h2⟩ | ⟨i, h1, h2, h3⟩
 ·exact .inl ⟨h1, by simp [splitS, h2, ofL_data]⟩
 ·refine .inr ⟨i, h1, by simpa using h2, ?_⟩
  have e1 : s.extract 0 i = ofL (s.data.toList.take i) := by
   rw [← ofL_data (s.extract 0 i), ext_data]; simp
  have e2 : (s.extract (i + 1) s.size).data.toList = s.data.toList.drop (i + 1) := by
   rw [ext_data, List.take_of_length_le (by simp)]
  unfold splitS
  rw [h3, e2, List.map_cons, e1]
end Go.Proofs.YtbngbefchobfnaaGreatDoor

namespace Go.Proofs.YtbngbefchobfnaaGreatDoor
def keepP (p : ByteArray) : Bool := !(p.toList == []) && !(p.toList == [46])
def partsOf (ps : List ByteArray) : List ByteArray := ps.filter keepP
def isUp (p : ByteArray) : Bool := p.toList == [46, 46]
def outOf (s : ByteArray) : ByteArray := ⟨(Lib.join ((partsOf (splitS s)).map (·.data.toList)) [47]).toArray⟩
def cleanF (s : ByteArray) : ByteArray × Int :=
 if rightB s = false then (⟨#[]⟩, 9) else if Lib.hasPrefix s.data.toList [47] = true then (⟨#[]⟩, 6)
 else if (splitS s).any isUp = true then (⟨#[]⟩, 6)
 else if (outOf s).toList == [] || decide (200 < (outOf s).size) then (⟨#[]⟩, 6) else (outOf s, 0)
theorem partsOf_hit {pre : List ByteArray} {x : ByteArray} (h1 : (x.toList == []) = false) (h2 : (x.toList == [46]) = false) : partsOf (pre ++ [x]) = partsOf pre ++ [x] := by
 simp only [partsOf, List.filter_append, List.filter_cons, keepP, h1, h2]
 simp
theorem partsOf_miss {pre : List ByteArray} {x : ByteArray} (h : (x.toList == []) = true ∨ (x.toList == [46]) = true) : partsOf (pre ++ [x]) = partsOf pre := by
 simp only [partsOf, List.filter_append, List.filter_cons, keepP]
 rcases h with h | h <;> simp [h]
theorem any_snoc {pre : List ByteArray} {x : ByteArray} (h : pre.any isUp = false) (hx : (x.toList == [46, 46]) = false) : (pre ++ [x]).any isUp = false := by
 simp only [List.any_append, h, Bool.false_or, List.any_cons, List.any_nil, Bool.or_false]
 exact hx
theorem any_prefix {pre xs : List ByteArray} {x : ByteArray} (h : pre ++ [x] <+: xs) (hx : (x.toList == [46, 46]) = true) : xs.any isUp = true :=
 List.any_eq_true.2 ⟨x, h.subset (by simp), hx⟩
theorem splitB_total (l : List UInt8) : ((splitB l).map List.length).sum + (splitB l).length = l.length + 1 := by
 induction l with
 | nil => simp [splitB]
 | cons c r ih =>
  simp only [splitB]
  split
  ·simp; omega
  ·have h := splitB_ne r
   cases hs : splitB r with
   | nil => exact absurd hs h
   | cons p ps => rw [hs] at ih; simp at ih ⊢; omega
theorem sum_filter_le (f : ByteArray → Bool) (l : List ByteArray) : ((l.filter f).map (fun x => x.data.toList.length)).sum + (l.filter f).length ≤ (l.map (fun x => x.data.toList.length)).sum + l.length := by
 induction l with
 | nil => simp
 | cons x l ih =>
  simp only [List.filter_cons, List.map_cons, List.sum_cons, List.length_cons]
  split
  ·simp only [List.map_cons, List.sum_cons, List.length_cons]; omega
  ·omega
theorem join_len (xs : List (List UInt8)) : (Lib.join xs [47]).length ≤ (xs.map List.length).sum + xs.length := by
 unfold Lib.join
 induction xs with
 | nil => simp [List.intercalate]
 | cons a xs ih =>
  cases xs with
  | nil => simp [List.intercalate]
  | cons b xs =>
   simp [List.intercalate, List.intersperse] at ih ⊢
   omega
theorem splitS_total (s : ByteArray) : ((splitS s).map (fun x => x.data.toList.length)).sum + (splitS s).length = s.size + 1 := by
 have h := splitB_total s.data.toList
 have e : (splitS s).map (fun x => x.data.toList.length) = (splitB s.data.toList).map List.length := by
  simp only [splitS, List.map_map, Function.comp_def, data_ofL]
 rw [e]
 simp only [splitS, List.length_map]
 simpa using h
theorem parts_total (s : ByteArray) : ((partsOf (splitS s)).map (fun x => x.data.toList.length)).sum + (partsOf (splitS s)).length ≤ s.size + 1 := by
 have h1 := sum_filter_le keepP (splitS s)
 have h2 := splitS_total s
 unfold partsOf
 omega
theorem parts_len (s : ByteArray) : (partsOf (splitS s)).length ≤ s.size + 1 := by have := parts_total s; omega
theorem prefix_len {pre : List ByteArray} {s : ByteArray} (h : pre <+: splitS s) : (partsOf pre).length ≤ s.size + 1 := by
 have h1 : (partsOf pre).length ≤ pre.length := List.length_filter_le _ _
 have h2 := h.length_le
 have h3 := splitS_total s
 omega
theorem out_len (s : ByteArray) : (Lib.join ((partsOf (splitS s)).map (·.data.toList)) [47]).length ≤ s.size + 1 := by
 refine Nat.le_trans (join_len _) ?_
 have := parts_total s
 simpa [List.map_map, Function.comp_def] using this
end Go.Proofs.YtbngbefchobfnaaGreatDoor

namespace Go.Proofs.YtbngbefchobfnaaGreatDoor
open Go.RowKit Go.Proofs.YtbngbefchobfnaaGreatDoor.Print Go.Proofs.YtbngbefchobfnaaGreatDoorW.PrintWords
abbrev Node := S42
abbrev Mem := S72
abbrev Met := S39
def emp : ByteArray := ⟨#[]⟩
def z0 : Met := ⟨0, 0, 0, 0⟩
def lt (a b : ByteArray) : Bool := Op.bytesLess a.toList b.toList
def cleanOk (s : ByteArray) : Bool := decide ((cleanF s).2 = 0) && decide (s.toList = (cleanF s).1.toList)
def metaOk (m : Met) : Bool := decide (0 ≤ m.f0 ∧ m.f0 ≤ 4095 ∧ 0 ≤ m.f1 ∧ m.f1 ≤ 2147483647 ∧ 0 ≤ m.f2 ∧ m.f2 ≤ 2147483647 ∧ 0 ≤ m.f3 ∧ m.f3 ≤ 1099511627776)
def targetOk (s : ByteArray) : Bool := rightB s && decide (1 ≤ s.size ∧ s.size ≤ 200)
def goodM (m : Mem) : Bool :=
 cleanOk m.f0 && metaOk m.f3 && decide (m.f4.length ≤ 1048576) && (decide (m.f2 = 48) || decide (m.f4.length = 0)) &&
  (if m.f2 = 48 ∨ m.f2 = 53 then decide (m.f1.toList = []) else if m.f2 = 49 then cleanOk m.f1 else if m.f2 = 50 then targetOk m.f1 else false)
def memOf (x : Node) : Mem := ⟨x.f0, x.f1, x.f3, x.f4, x.f5⟩
def findF (l : List Node) (p : ByteArray) : Option Node := l.find? (fun x => decide (x.f0.toList = p.toList))
def tupN (r : Option Node) : ByteArray × ByteArray × ByteArray × Int × Int × Int × Int × Int × List Int × Bool := match r with
 | some x => (x.f0, x.f1, x.f2, x.f3, x.f4.f0, x.f4.f1, x.f4.f2, x.f4.f3, x.f5, true)
 | none => (⟨#[]⟩, ⟨#[]⟩, ⟨#[]⟩, 0, 0, 0, 0, 0, [], false)
def equalB (a b : Node) : Bool := decide (a.f0.toList = b.f0.toList ∧ a.f3 = b.f3 ∧ a.f4.f0 = b.f4.f0 ∧ a.f4.f1 = b.f4.f1 ∧ a.f4.f2 = b.f4.f2 ∧ a.f4.f3 = b.f4.f3 ∧ a.f1.toList = b.f1.toList ∧ (strOfNums a.f5).toList = (strOfNums b.f5).toList)
def sameB : List Node → List Node → Bool
 | [], [] => true
 | a :: l, b :: r => decide (a.f2.toList = b.f2.toList) && equalB a b && sameB l r
 | _, _ => false
def ledB (l : List Node) (x : Node) : Bool :=
 if x.f3 = 48 then match findF l x.f2 with
  | some y => decide (y.f3 = 48 ∧ y.f2.toList = y.f0.toList ∧ lt x.f0 y.f0 = false ∧ y.f4.f0 = x.f4.f0 ∧ y.f4.f1 = x.f4.f1 ∧ y.f4.f2 = x.f4.f2 ∧ y.f4.f3 = x.f4.f3 ∧ (strOfNums y.f5).toList = (strOfNums x.f5).toList)
  | none => false
 else decide (x.f2.toList = [])
def riseB : List Node → Bool
 | x :: y :: l => lt x.f0 y.f0 && riseB (y :: l)
 | _ => true
def goodTree (l : List Node) : Bool := riseB l && l.all (fun x => !decide (x.f3 = 49) && goodM (memOf x)) && decide (l.length ≤ 4096) && l.all (ledB l)
def lk (f : List (List UInt8 × ByteArray)) (s : List UInt8) : Option ByteArray := match f with
 | [] => none
 | (k, v) :: r => if s = k then some v else lk r s
structure MemSt where
 seen : List ByteArray
 first : List (List UInt8 × ByteArray)
 out : List Mem
def lkI (f : List (List UInt8 × Int)) (s : List UInt8) : Option Int := match f with
 | [] => none
 | (k, v) :: r => if s = k then some v else lkI r s
def stepS (f : List (List UInt8 × Int)) (m : Mem) : Option (List (List UInt8 × Int)) :=
 if (lkI f m.f0.data.toList).isSome = true ∨ goodM m = false ∨ (m.f2 = 49 ∧ (lkI f m.f1.data.toList).getD 0 ≠ 48) then none else some ((m.f0.data.toList, m.f2) :: f)
structure ClsSt where
 by_ : List (List UInt8 × Int)
 out : List (List ByteArray)
def at_ (s : List (ByteArray × Nat)) (p : ByteArray) : Option Nat := match s with
 | [] => none
 | (k, v) :: r => if k.toList = p.toList then some v else at_ r p
def stepF (l : List Mem) (s : List (ByteArray × Nat)) (i : Nat) : Option (List (ByteArray × Nat)) :=
 match l[i]? with
 | none => none
 | some m => if m.f2 = 49 then match at_ s m.f1 with
   | none => none
   | some c => match l[c]? with
    | none => none
    | some t => if t.f2 = 48 then some (s.filter (fun q => !decide (q.1.toList = m.f0.toList)) ++ [(m.f0, c)]) else none
  else some (s.filter (fun q => !decide (q.1.toList = m.f0.toList)) ++ [(m.f0, i)])
def insP (q : ByteArray × Nat) : List (ByteArray × Nat) → List (ByteArray × Nat)
 | [] => [q]
 | r :: s => if lt q.1 r.1 = true then q :: r :: s else r :: insP q s
def sortP (s : List (ByteArray × Nat)) : List (ByteArray × Nat) := s.foldr insP []
def nodeZ (x : Node) : Bool := decide (x.f0.size ≤ 140737488351232 ∧ x.f1.size ≤ 140737488351232 ∧ x.f2.size ≤ 140737488351232 ∧ x.f5.length ≤ 140737488351232)
def nodesZ (l : List Node) : Bool := decide (l.length ≤ 1000000000000) && l.all nodeZ
def nodesG (l : List Node) : Bool := nodesZ l && l.all (fun x => decide (x.f0.size ≤ 8000000000000 ∧ x.f1.size ≤ 8000000000000))
def NodeZ (x : Node) : Prop := x.f0.size ≤ 140737488351232 ∧ x.f1.size ≤ 140737488351232 ∧ x.f2.size ≤ 140737488351232 ∧ x.f5.length ≤ 140737488351232
def MemR (x : Mem) : Prop := x.f0.size ≤ 140737488351232 ∧ x.f1.size ≤ 140737488351232 ∧ x.f4.length ≤ 140737488351232
def MemZ (x : Mem) : Prop := x.f0.size ≤ 8000000000000 ∧ x.f1.size ≤ 8000000000000 ∧ x.f4.length ≤ 140737488351232
theorem MemZ.r {x : Mem} (h : MemZ x) : MemR x := ⟨by have := h.1; omega, by have := h.2.1; omega, h.2.2⟩
def NodesZ (l : List Node) : Prop := l.length ≤ 1000000000000 ∧ ∀ x ∈ l, NodeZ x
def NodesG (l : List Node) : Prop := NodesZ l ∧ ∀ x ∈ l, x.f0.size ≤ 8000000000000 ∧ x.f1.size ≤ 8000000000000
theorem nodesZ_iff (l : List Node) : nodesZ l = true ↔ NodesZ l := by simp [nodesZ, NodesZ, nodeZ, NodeZ]
theorem nodesG_iff (l : List Node) : nodesG l = true ↔ NodesG l := by simp [nodesG, NodesG, nodesZ_iff]
theorem infoU8 : (Tryz.prog.info? 5).map (fun i => (i.zero, i.size, i.bytes)) = some (some (.int .u8 0), 1, 1) := by kernel_rfl
theorem infoNode : (Tryz.prog.info? 42).map (fun i => (i.zero, i.size, i.bytes)) = some (some (.agg #[(.string ⟨#[]⟩), (.string ⟨#[]⟩), (.string ⟨#[]⟩), (.int .u8 0), (.int .i64 0), (.int .i64 0), (.int .i64 0), (.int .i64 0), (.slice none 0 0)]), 9, 112) := by kernel_rfl
end Go.Proofs.YtbngbefchobfnaaGreatDoor

namespace Go.Proofs.YtbngbefchobfnaaGreatDoor
open Go.RowKit
theorem u8_lt (a b : UInt8) : (a < b) ↔ a.toNat < b.toNat := UInt8.lt_iff_toNat_lt
theorem u8_eq (a b : UInt8) : a = b ↔ a.toNat = b.toNat := UInt8.toNat_inj.symm
theorem less_cons (a b : UInt8) (x y : List UInt8) : Op.bytesLess (a :: x) (b :: y) = true ↔ a.toNat < b.toNat ∨ (a = b ∧ Op.bytesLess x y = true) := by
 simp [Op.bytesLess, u8_lt]
theorem less_irr : ∀ l : List UInt8, Op.bytesLess l l = false
 | [] => rfl
 | a :: l => by
  rw [Bool.eq_false_iff]
  intro h
  rw [less_cons] at h
  rcases h with h | h
  ·omega
  ·rw [less_irr l] at h; exact absurd h.2 (by decide)
theorem less_trans : ∀ a b c : List UInt8, Op.bytesLess a b = true → Op.bytesLess b c = true → Op.bytesLess a c = true
 | _, _, [], _, h => by cases ‹List UInt8› <;> simp [Op.bytesLess] at h
 | _, [], _ :: _, h, _ => by cases ‹List UInt8› <;> simp [Op.bytesLess] at h
 | [], _ :: _, _ :: _, _, _ => rfl
 | a :: x, b :: y, c :: z, h1, h2 => by
  rw [less_cons] at h1 h2 ⊢
  rcases h1 with h1 | ⟨rfl, h1⟩
  ·rcases h2 with h2 | ⟨rfl, h2⟩
   ·exact .inl (by omega)
   ·exact .inl h1
  ·rcases h2 with h2 | ⟨rfl, h2⟩
   ·exact .inl h2
   ·exact .inr ⟨rfl, less_trans x y z h1 h2⟩
theorem less_tri : ∀ a b : List UInt8, Op.bytesLess a b = true ∨ a = b ∨ Op.bytesLess b a = true
 | [], [] => .inr (.inl rfl)
 | [], _ :: _ => .inl rfl
 | _ :: _, [] => .inr (.inr rfl)
 | a :: x, b :: y => by
  rw [less_cons, less_cons]
  by_cases h : a.toNat < b.toNat
  ·exact .inl (.inl h)
  ·by_cases h2 : b.toNat < a.toNat
   ·exact .inr (.inr (.inl h2))
   ·have e : a = b := (u8_eq a b).2 (by omega)
    subst e
    rcases less_tri x y with h3 | h3 | h3
    ·exact .inl (.inr ⟨rfl, h3⟩)
    ·exact .inr (.inl (by rw [h3]))
    ·exact .inr (.inr (.inr ⟨rfl, h3⟩))
theorem cmp_neg : ∀ a b : List UInt8, Lib.compareBytes a b < 0 ↔ Op.bytesLess a b = true
 | [], [] => by simp [Lib.compareBytes, Op.bytesLess]
 | [], _ :: _ => by simp [Lib.compareBytes, Op.bytesLess]
 | _ :: _, [] => by simp [Lib.compareBytes, Op.bytesLess]
 | a :: x, b :: y => by
  rw [less_cons, Lib.compareBytes]
  by_cases h : a < b
  ·rw [if_pos h]
   rw [u8_lt] at h
   simp [h]
  ·rw [if_neg h]
   rw [u8_lt] at h
   by_cases h2 : b < a
   ·rw [if_pos h2]
    rw [u8_lt] at h2
    constructor
    ·intro h3; omega
    ·rintro (h3 | ⟨rfl, _⟩) <;> omega
   ·rw [if_neg h2, cmp_neg x y]
    rw [u8_lt] at h2
    have e : a = b := (u8_eq a b).2 (by omega)
    subst e
    simp
theorem cmp_zero : ∀ a b : List UInt8, Lib.compareBytes a b = 0 ↔ a = b
 | [], [] => by simp [Lib.compareBytes]
 | [], _ :: _ => by simp [Lib.compareBytes]
 | _ :: _, [] => by simp [Lib.compareBytes]
 | a :: x, b :: y => by
  rw [Lib.compareBytes]
  by_cases h : a < b
  ·rw [if_pos h]
   rw [u8_lt] at h
   constructor
   ·intro h3; omega
   ·intro h3; injection h3 with h3; subst h3; omega
  ·rw [if_neg h]
   rw [u8_lt] at h
   by_cases h2 : b < a
   ·rw [if_pos h2]
    rw [u8_lt] at h2
    constructor
    ·intro h3; omega
    ·intro h3; injection h3 with h3; subst h3; omega
   ·rw [if_neg h2, cmp_zero x y]
    rw [u8_lt] at h2
    have e : a = b := (u8_eq a b).2 (by omega)
    subst e
    simp
theorem lt_data (a b : ByteArray) : lt a b = Op.bytesLess a.data.toList b.data.toList := by unfold lt; rw [Lib.toList_data, Lib.toList_data]
theorem lt_irr (a : ByteArray) : lt a a = false := less_irr _
theorem lt_trans {a b c : ByteArray} (h : lt a b = true) (k : lt b c = true) : lt a c = true := less_trans _ _ _ h k
theorem lt_tri (a b : ByteArray) : lt a b = true ∨ a.toList = b.toList ∨ lt b a = true := less_tri _ _
theorem lt_asym {a b : ByteArray} (h : lt a b = true) : lt b a = false := by
 cases h2 : lt b a with
 | false => rfl
 | true =>
  have := lt_trans h h2
  rw [lt_irr] at this
  cases this
theorem lt_ne {a b : ByteArray} (h : lt a b = true) : a.toList ≠ b.toList := by
 intro e
 unfold lt at h
 rw [e, less_irr] at h
 cases h
theorem riseB_cons {x : Node} {l : List Node} (h : riseB (x :: l) = true) : riseB l = true ∧ ∀ y ∈ l, lt x.f0 y.f0 = true := by
 induction l generalizing x with
 | nil => exact ⟨rfl, fun y hy => by cases hy⟩
 | cons z l ih =>
  rw [riseB, Bool.and_eq_true] at h
  refine ⟨h.2, fun y hy => ?_⟩
  rcases List.mem_cons.1 hy with rfl | hy
  ·exact h.1
  ·exact lt_trans h.1 ((ih h.2).2 y hy)
theorem riseB_at {l : List Node} (h : riseB l = true) : ∀ (i j : Nat) (hi : i < l.length) (hj : j < l.length), i < j → lt l[i].f0 l[j].f0 = true := by
 induction l with
 | nil => intro i j hi; exact absurd hi (Nat.not_lt_zero _)
 | cons x l ih =>
  obtain ⟨h1, h2⟩ := riseB_cons h
  intro i j hi hj hij
  match i, j with
  | 0, j + 1 => exact h2 _ (List.getElem_mem _)
  | i + 1, j + 1 => exact ih h1 i j _ _ (by omega)
theorem findF_at {l : List Node} (h : riseB l = true) (p : ByteArray) (n : Nat) (hn : n < l.length) (he : l[n].f0.toList = p.toList) : findF l p = some l[n] := by
 unfold findF
 rw [List.find?_eq_some_iff_append]
 refine ⟨by simpa using he, l.take n, l.drop (n + 1), ?_, fun y hy => ?_⟩
 ·rw [List.getElem_cons_drop, List.take_append_drop]
 ·obtain ⟨i, hi, rfl⟩ := List.getElem_of_mem hy
  rw [List.length_take] at hi
  have := lt_ne (riseB_at h i n (by omega) hn (by omega))
  rw [List.getElem_take]
  rw [← he]
  simpa using this
theorem findF_none {l : List Node} (p : ByteArray) (h : ∀ (i : Nat) (hi : i < l.length), l[i].f0.toList ≠ p.toList) : findF l p = none := by
 unfold findF
 rw [List.find?_eq_none]
 intro x hx
 obtain ⟨i, hi, rfl⟩ := List.getElem_of_mem hx
 simpa using h i hi
end Go.Proofs.YtbngbefchobfnaaGreatDoor

namespace Go.Proofs.YtbngbefchobfnaaGreatDoor
open Go.RowKit Go.Proofs.YtbngbefchobfnaaGreatDoor.Print
theorem riseB_take {l : List Node} (h : riseB l = true) (n : Nat) : riseB (l.take n) = true := by
 induction l generalizing n with
 | nil => rw [List.take_nil]; rfl
 | cons x r ih =>
  cases n with
  | zero => rfl
  | succ n =>
   cases r with
   | nil => rw [List.take_succ_cons, List.take_nil]; rfl
   | cons y r =>
    have h1 : lt x.f0 y.f0 = true ∧ riseB (y :: r) = true := by rw [riseB, Bool.and_eq_true] at h; exact h
    have h2 := ih h1.2 n
    cases n with
    | zero => rfl
    | succ n =>
     rw [List.take_succ_cons, List.take_succ_cons, riseB, Bool.and_eq_true]
     rw [List.take_succ_cons] at h2
     exact ⟨h1.1, h2⟩
theorem riseB_step {l : List Node} (h : ∀ (i : Nat) (hi : i + 1 < l.length), lt l[i].f0 l[i + 1].f0 = true) : riseB l = true := by
 induction l with
 | nil => rfl
 | cons x r ih =>
  cases r with
  | nil => rfl
  | cons y r =>
   rw [riseB, Bool.and_eq_true]
   exact ⟨h 0 (by simp), ih (fun i hi => h (i + 1) (by simp at hi ⊢; omega))⟩
theorem lead_take {l : List Node} (hr : riseB l = true) (i : Nat) (hi : i < l.length) : ledB (l.take (i + 1)) l[i] = ledB l l[i] := by
 unfold ledB
 by_cases h48 : l[i].f3 = 48
 ·rw [if_pos h48, if_pos h48]
  by_cases hp : ∃ (j : Nat) (hj : j < l.length), l[j].f0.toList = l[i].f2.toList
  ·obtain ⟨j, hj, he⟩ := hp
   rw [findF_at hr _ j hj he]
   rcases Nat.lt_or_ge i j with h | h
   ·have hlt := riseB_at hr i j hi hj h
    have hn : findF (l.take (i + 1)) l[i].f2 = none := findF_none _ (fun t ht => by
     rw [List.length_take] at ht
     rw [List.getElem_take]
     intro e
     have h3 := riseB_at hr t j (by omega) hj (by omega)
     rw [← he] at e
     exact lt_ne h3 e)
    rw [hn]
    dsimp only
    rw [decide_eq_false]
    rintro ⟨_, _, h2, _⟩
    rw [hlt] at h2
    cases h2
   ·have hs : findF (l.take (i + 1)) l[i].f2 = some l[j] := by
     have := findF_at (riseB_take hr (i + 1)) l[i].f2 j (by rw [List.length_take]; omega) (by rw [List.getElem_take]; exact he)
     rw [List.getElem_take] at this
     exact this
    rw [hs]
  ·have h1 : findF l l[i].f2 = none := findF_none _ (fun t ht e => hp ⟨t, ht, e⟩)
   have h2 : findF (l.take (i + 1)) l[i].f2 = none := findF_none _ (fun t ht e => by
    rw [List.length_take] at ht
    rw [List.getElem_take] at e
    exact hp ⟨t, by omega, e⟩)
   rw [h1, h2]
 ·rw [if_neg h48, if_neg h48]
def nodeOk (l : List Node) (i : Nat) (h : i < l.length) : Bool := (decide (i = 0) || lt (l[i - 1]'(by omega)).f0 l[i].f0) && !decide (l[i].f3 = 49) && goodM (memOf l[i]) && ledB (l.take (i + 1)) l[i]
theorem goodTree_of {l : List Node} (h : ∀ (i : Nat) (hi : i < l.length), nodeOk l i hi = true) : goodTree l = decide (l.length ≤ 4096) := by
 have hp : ∀ (i : Nat) (hi : i < l.length), ((i = 0 ∨ lt (l[i - 1]'(by omega)).f0 l[i].f0 = true) ∧ ¬ l[i].f3 = 49 ∧ goodM (memOf l[i]) = true) ∧ ledB (l.take (i + 1)) l[i] = true := fun i hi => by
  have := h i hi
  unfold nodeOk at this
  simp only [Bool.and_eq_true, Bool.or_eq_true, decide_eq_true_iff, Bool.not_eq_true', decide_eq_false_iff_not] at this
  exact ⟨⟨this.1.1.1, this.1.1.2, this.1.2⟩, this.2⟩
 have hr : riseB l = true := riseB_step (fun i hi => by
  have := (hp (i + 1) hi).1.1
  rcases this with h | h
  ·cases h
  ·exact h)
 unfold goodTree
 rw [hr, Bool.true_and]
 have h1 : (l.all (fun x => !decide (x.f3 = 49) && goodM (memOf x))) = true := by
  rw [List.all_eq_true]
  intro x hx
  obtain ⟨i, hi, rfl⟩ := List.getElem_of_mem hx
  rw [Bool.and_eq_true, Bool.not_eq_true', decide_eq_false_iff_not]
  exact ⟨(hp i hi).1.2.1, (hp i hi).1.2.2⟩
 have h2 : l.all (ledB l) = true := by
  rw [List.all_eq_true]
  intro x hx
  obtain ⟨i, hi, rfl⟩ := List.getElem_of_mem hx
  rw [← lead_take hr i hi]
  exact (hp i hi).2
 rw [h1, h2, Bool.true_and, Bool.and_true]
theorem goodTree_not {l : List Node} (i : Nat) (hi : i < l.length) (h : nodeOk l i hi = false) : goodTree l = false := by
 cases hg : goodTree l with
 | false => rfl
 | true =>
  exfalso
  unfold goodTree at hg
  simp only [Bool.and_eq_true, List.all_eq_true, Bool.not_eq_true', decide_eq_false_iff_not] at hg
  obtain ⟨⟨⟨hr, h1⟩, _⟩, h2⟩ := hg
  have hm : l[i] ∈ l := List.getElem_mem hi
  have : nodeOk l i hi = true := by
   unfold nodeOk
   simp only [Bool.and_eq_true, Bool.or_eq_true, decide_eq_true_iff, Bool.not_eq_true', decide_eq_false_iff_not]
   refine ⟨⟨⟨?_, (h1 _ hm).1⟩, (h1 _ hm).2⟩, ?_⟩
   ·rcases Nat.eq_zero_or_pos i with h | h
    ·exact .inl h
    ·exact .inr (riseB_at hr (i - 1) i (by omega) hi (by omega))
   ·rw [lead_take hr i hi]
    exact h2 _ hm
  rw [h] at this
  cases this
end Go.Proofs.YtbngbefchobfnaaGreatDoor

namespace Go.Proofs.YtbngbefchobfnaaGreatDoor
open Go.RowKit Go.Proofs.YtbngbefchobfnaaGreatDoor.Print Go.Proofs.YtbngbefchobfnaaGreatDoorW.PrintWords
theorem ba_ext {a b : ByteArray} (h : a.toList = b.toList) : a = b := by
 rw [Lib.toList_data, Lib.toList_data] at h
 cases a; cases b
 congr 1
 exact Array.toList_inj.1 h
theorem ba_iff {a b : ByteArray} : a.toList = b.toList ↔ a = b := ⟨ba_ext, fun h => by rw [h]⟩
theorem ba_data {a b : ByteArray} : a.data.toList = b.data.toList ↔ a = b := by rw [← Lib.toList_data, ← Lib.toList_data]; exact ba_iff
theorem findF_mem {l : List Node} {p : ByteArray} {x : Node} (h : findF l p = some x) : x ∈ l ∧ x.f0 = p := by
 unfold findF at h
 exact ⟨List.mem_of_find?_eq_some h, ba_ext (by simpa using List.find?_some h)⟩
theorem findF_here {l : List Node} (hr : riseB l = true) {x : Node} (hx : x ∈ l) : findF l x.f0 = some x := by
 obtain ⟨i, hi, rfl⟩ := List.getElem_of_mem hx
 exact findF_at hr _ i hi rfl
theorem findF_is {l : List Node} {p : ByteArray} : (findF l p).isSome = true ↔ p ∈ l.map (fun x => x.f0) := by
 rw [List.mem_map]
 constructor
 ·intro h
  obtain ⟨x, hx⟩ := Option.isSome_iff_exists.1 h
  exact ⟨x, findF_mem hx⟩
 ·rintro ⟨x, hx, rfl⟩
  cases h : findF l x.f0 with
  | some y => rfl
  | none =>
   unfold findF at h
   rw [List.find?_eq_none] at h
   have := h x hx
   simp at this
theorem good_parts {l : List Node} (h : goodTree l = true) : riseB l = true ∧ (∀ x ∈ l, ¬ x.f3 = 49 ∧ goodM (memOf x) = true) ∧ l.length ≤ 4096 ∧ ∀ x ∈ l, ledB l x = true := by
 unfold goodTree at h
 simp only [Bool.and_eq_true, List.all_eq_true, Bool.not_eq_true', decide_eq_false_iff_not, decide_eq_true_iff] at h
 exact ⟨h.1.1.1, fun x hx => h.1.1.2 x hx, h.1.2, h.2⟩
theorem paths_nodup {l : List Node} (hr : riseB l = true) : (l.map (fun x => x.f0)).Nodup := by
 induction l with
 | nil => exact List.nodup_nil
 | cons x l ih =>
  obtain ⟨h1, h2⟩ := riseB_cons hr
  rw [List.map_cons, List.nodup_cons]
  refine ⟨fun hm => ?_, ih h1⟩
  obtain ⟨y, hy, he⟩ := List.mem_map.1 hm
  exact lt_ne (h2 y hy) (by rw [he])
def kindsOf (out : List Mem) : List (List UInt8 × Int) := (out.map (fun m => (m.f0.data.toList, m.f2))).reverse
structure MInv (l : List Node) (pre : List ByteArray) (s : MemSt) : Prop where
 seen : s.seen = pre.reverse
 paths : s.out.map (fun m => m.f0) = pre
 sound : s.out.foldlM stepS [] = some (kindsOf s.out)
 first : ∀ q r, lk s.first q = some r → lkI (kindsOf s.out) r.data.toList = some 48 ∧ cleanOk r = true
theorem goodM_clean {m : Mem} (h : goodM m = true) : cleanOk m.f0 = true ∧ metaOk m.f3 = true := by
 unfold goodM at h
 simp only [Bool.and_eq_true] at h
 exact ⟨h.1.1.1.1, h.1.1.1.2⟩
end Go.Proofs.YtbngbefchobfnaaGreatDoor

namespace Go.Proofs.YtbngbefchobfnaaGreatDoor
open Go.RowKit Go.Proofs.YtbngbefchobfnaaGreatDoor.Print Go.Proofs.YtbngbefchobfnaaGreatDoorW.PrintWords
set_option linter.unusedVariables false
structure SameM (a b : Mem) : Prop where
 f0 : a.f0 = b.f0
 f1 : a.f1 = b.f1
 f2 : a.f2 = b.f2
 f3 : a.f3 = b.f3
 f4 : (strOfNums a.f4).toList = (strOfNums b.f4).toList
structure SameN (a b : Node) : Prop where
 f0 : a.f0 = b.f0
 f1 : a.f1 = b.f1
 f2 : a.f2 = b.f2
 f3 : a.f3 = b.f3
 f4 : a.f4 = b.f4
 f5 : (strOfNums a.f5).toList = (strOfNums b.f5).toList
theorem met_ext {a b : Met} (h0 : a.f0 = b.f0) (h1 : a.f1 = b.f1) (h2 : a.f2 = b.f2) (h3 : a.f3 = b.f3) : a = b := by
 cases a; cases b
 simp_all
theorem equalB_iff {a b : Node} : equalB a b = true ↔ a.f0 = b.f0 ∧ a.f1 = b.f1 ∧ a.f3 = b.f3 ∧ a.f4 = b.f4 ∧ (strOfNums a.f5).toList = (strOfNums b.f5).toList := by
 unfold equalB
 rw [decide_eq_true_iff]
 constructor
 ·rintro ⟨h1, h2, h3, h4, h5, h6, h7, h8⟩
  exact ⟨ba_ext h1, ba_ext h7, h2, met_ext h3 h4 h5 h6, h8⟩
 ·rintro ⟨h1, h2, h3, h4, h5⟩
  rw [h1, h2, h3, h4]
  exact ⟨rfl, rfl, rfl, rfl, rfl, rfl, rfl, h5⟩
theorem SameN.symm {a b : Node} (h : SameN a b) : SameN b a := ⟨h.f0.symm, h.f1.symm, h.f2.symm, h.f3.symm, h.f4.symm, h.f5.symm⟩
theorem SameN.trans {a b c : Node} (h : SameN a b) (k : SameN b c) : SameN a c := ⟨h.f0.trans k.f0, h.f1.trans k.f1, h.f2.trans k.f2, h.f3.trans k.f3, h.f4.trans k.f4, h.f5.trans k.f5⟩
inductive SameMs : List Mem → List Mem → Prop
 | nil : SameMs [] []
 | cons {a b : Mem} {l r : List Mem} : SameM a b → SameMs l r → SameMs (a :: l) (b :: r)
theorem SameMs.snoc {l r : List Mem} {a b : Mem} (h : SameMs l r) (k : SameM a b) : SameMs (l ++ [a]) (r ++ [b]) := by
 induction h with
 | nil => exact .cons k .nil
 | cons h _ ih => exact .cons h ih
theorem SameMs.len {l r : List Mem} (h : SameMs l r) : l.length = r.length := by
 induction h with
 | nil => rfl
 | cons _ _ ih => rw [List.length_cons, List.length_cons, ih]
theorem SameMs.at_ {l r : List Mem} (h : SameMs l r) : ∀ (i : Nat) (h1 : i < l.length) (h2 : i < r.length), SameM l[i] r[i] := by
 induction h with
 | nil => intro i h1; exact absurd h1 (Nat.not_lt_zero _)
 | cons h _ ih =>
  intro i h1 h2
  cases i with
  | zero => exact h
  | succ i => exact ih i _ _
theorem equalB_symm {a b : Node} (h : equalB a b = true) : equalB b a = true := by
 obtain ⟨h1, h2, h3, h4, h5⟩ := equalB_iff.1 h
 exact equalB_iff.2 ⟨h1.symm, h2.symm, h3.symm, h4.symm, h5.symm⟩
theorem equalB_trans {a b c : Node} (h : equalB a b = true) (k : equalB b c = true) : equalB a c = true := by
 obtain ⟨h1, h2, h3, h4, h5⟩ := equalB_iff.1 h
 obtain ⟨k1, k2, k3, k4, k5⟩ := equalB_iff.1 k
 exact equalB_iff.2 ⟨h1.trans k1, h2.trans k2, h3.trans k3, h4.trans k4, h5.trans k5⟩
end Go.Proofs.YtbngbefchobfnaaGreatDoor

namespace Go.Proofs.YtbngbefchobfnaaGreatDoor
open Go.RowKit Go.Proofs.YtbngbefchobfnaaGreatDoor.Print Go.Proofs.YtbngbefchobfnaaGreatDoorW.PrintWords
set_option linter.unusedVariables false
structure PEnt where
 path : ByteArray
 node : Node
 tree : Int
abbrev PL := List PEnt
def putE (s : PL) (e : PEnt) : PL := s.filter (fun q => !decide (q.path.toList = e.path.toList)) ++ [e]
def atE (s : PL) (p : ByteArray) : Option PEnt := s.find? (fun e => decide (e.path.toList = p.toList))
def insE (q : PEnt) : PL → PL
 | [] => [q]
 | r :: s => if lt q.path r.path = true then q :: r :: s else r :: insE q s
def sortE (s : PL) : PL := s.foldr insE []
def oneE (e q : PEnt) : Bool := decide (q.node.f3 = 48 ∧ q.tree = e.tree ∧ q.node.f2.toList = e.node.f2.toList)
def leadE (sp : PL) (e : PEnt) : ByteArray := match sp.find? (oneE e) with
 | some q => q.path
 | none => emp
def outE (sp : PL) (e : PEnt) : Node := ⟨e.path, e.node.f1, if e.node.f3 = 48 then leadE sp e else e.node.f2, e.node.f3, e.node.f4, e.node.f5⟩
def treeE (s : PL) : List Node := (sortE s).map (outE (sortE s))
def NodupE (s : PL) : Prop := (s.map (fun e => e.path)).Nodup
def RiseE (s : PL) : Prop := s.Pairwise (fun a b => lt a.path b.path = true)
theorem putE_sub {s : PL} {e q : PEnt} (h : q ∈ putE s e) : (q ∈ s ∧ q.path ≠ e.path) ∨ q = e := by
 unfold putE at h
 rcases List.mem_append.1 h with h | h
 ·rw [List.mem_filter] at h
  refine .inl ⟨h.1, fun e2 => ?_⟩
  have := h.2
  rw [e2] at this
  simp at this
 ·exact .inr (List.mem_singleton.1 h)
theorem putE_nodup {s : PL} (h : NodupE s) (e : PEnt) : NodupE (putE s e) := by
 unfold NodupE putE at *
 rw [List.map_append, List.nodup_append]
 refine ⟨(List.Sublist.map _ List.filter_sublist).nodup h, by simp, fun a ha b hb => ?_⟩
 obtain ⟨q, hq, rfl⟩ := List.mem_map.1 ha
 simp only [List.map_cons, List.map_nil, List.mem_singleton] at hb
 subst hb
 rw [List.mem_filter] at hq
 intro e2
 have := hq.2
 rw [e2] at this
 simp at this
theorem atE_put (s : PL) (e : PEnt) (p : ByteArray) : atE (putE s e) p = if p = e.path then some e else atE s p := by
 unfold atE putE
 rw [List.find?_append]
 by_cases h : p = e.path
 ·subst h
  rw [if_pos rfl]
  have h1 : (s.filter (fun q => !decide (q.path.toList = e.path.toList))).find? (fun q => decide (q.path.toList = e.path.toList)) = none := by
   rw [List.find?_eq_none]
   intro q hq
   have := (List.mem_filter.1 hq).2
   simpa using this
  rw [h1]
  simp
 ·rw [if_neg h]
  have h1 : [e].find? (fun q => decide (q.path.toList = p.toList)) = none := by
   rw [List.find?_eq_none]
   intro q hq
   rw [List.mem_singleton] at hq
   subst hq
   simpa using fun e2 => h (ba_ext e2).symm
  rw [h1, Option.or_none]
  induction s with
  | nil => rfl
  | cons a s ih =>
   rw [List.filter_cons]
   by_cases ha : a.path = e.path
   ·rw [if_neg (by simp [ha]), ih, List.find?_cons_of_neg]
    simpa [ha] using fun e2 => h (ba_ext e2).symm
   ·rw [if_pos (by simpa using fun e2 => ha (ba_ext e2)), List.find?_cons, List.find?_cons, ih]
theorem atE_mem {s : PL} {p : ByteArray} {e : PEnt} (h : atE s p = some e) : e ∈ s ∧ e.path = p := by
 unfold atE at h
 exact ⟨List.mem_of_find?_eq_some h, ba_ext (by simpa using List.find?_some h)⟩
theorem atE_of {s : PL} (hn : NodupE s) {e : PEnt} (he : e ∈ s) : atE s e.path = some e := by
 induction s with
 | nil => cases he
 | cons a s ih =>
  unfold NodupE at hn ih
  rw [List.map_cons, List.nodup_cons] at hn
  unfold atE at ih ⊢
  rcases List.mem_cons.1 he with rfl | h
  ·rw [List.find?_cons_of_pos (by simp)]
  ·rw [List.find?_cons_of_neg, ih hn.2 h]
   have : a.path ≠ e.path := fun e2 => hn.1 (List.mem_map.2 ⟨e, h, e2.symm⟩)
   simpa using fun e2 => this (ba_ext e2)
theorem insE_perm (q : PEnt) (s : PL) : (insE q s).Perm (q :: s) := by
 induction s with
 | nil => exact List.Perm.refl _
 | cons r s ih =>
  rw [insE]
  split
  ·exact List.Perm.refl _
  ·exact (List.Perm.cons r ih).trans (List.Perm.swap _ _ _)
theorem sortE_perm (s : PL) : (sortE s).Perm s := by
 induction s with
 | nil => exact List.Perm.refl _
 | cons q s ih => exact (insE_perm q _).trans (List.Perm.cons q ih)
theorem sortE_mem {s : PL} {e : PEnt} : e ∈ sortE s ↔ e ∈ s := (sortE_perm s).mem_iff
theorem insE_rise {q : PEnt} {s : PL} (h : RiseE s) (hq : ∀ r ∈ s, r.path ≠ q.path) : RiseE (insE q s) := by
 induction s with
 | nil => exact List.pairwise_singleton _ _
 | cons r s ih =>
  unfold RiseE at h ih ⊢
  rw [List.pairwise_cons] at h
  rw [insE]
  by_cases hl : lt q.path r.path = true
  ·rw [if_pos hl, List.pairwise_cons]
   refine ⟨fun x hx => ?_, List.pairwise_cons.2 h⟩
   rcases List.mem_cons.1 hx with rfl | hx
   ·exact hl
   ·exact lt_trans hl (h.1 x hx)
  ·rw [if_neg hl, List.pairwise_cons]
   refine ⟨fun x hx => ?_, ih h.2 (fun x hx => hq x (List.mem_cons_of_mem _ hx))⟩
   rcases List.mem_cons.1 ((insE_perm q s).mem_iff.1 hx) with rfl | hx
   ·rcases lt_tri r.path x.path with h2 | h2 | h2
    ·exact h2
    ·exact absurd (ba_ext h2) (hq r List.mem_cons_self)
    ·exact absurd h2 hl
   ·exact h.1 x hx
theorem sortE_rise {s : PL} (hn : NodupE s) : RiseE (sortE s) := by
 induction s with
 | nil => exact List.Pairwise.nil
 | cons q s ih =>
  unfold NodupE at hn ih
  rw [List.map_cons, List.nodup_cons] at hn
  exact insE_rise (ih hn.2) (fun r hr e => hn.1 (List.mem_map.2 ⟨r, sortE_mem.1 hr, e⟩))
theorem riseE_nodup {s : PL} (h : RiseE s) : NodupE s := by
 unfold RiseE at h
 unfold NodupE
 rw [List.nodup_iff_pairwise_ne, List.pairwise_map]
 exact h.imp (fun {a b} hl e => lt_ne hl (congrArg ByteArray.toList e))
theorem find_treeE {s : PL} (hn : NodupE s) (p : ByteArray) : findF (treeE s) p = (atE s p).map (outE (sortE s)) := by
 unfold treeE findF
 rw [List.find?_map]
 have e : (fun x : Node => decide (x.f0.toList = p.toList)) ∘ outE (sortE s) = fun r => decide (r.path.toList = p.toList) := rfl
 rw [e]
 have h2 : atE (sortE s) p = atE s p := by
  cases h : atE s p with
  | some x =>
   obtain ⟨hx, rfl⟩ := atE_mem h
   exact atE_of (riseE_nodup (sortE_rise hn)) (sortE_mem.2 hx)
  | none =>
   unfold atE at h ⊢
   rw [List.find?_eq_none] at h ⊢
   exact fun x hx => h x (sortE_mem.1 hx)
 unfold atE at h2
 rw [h2]
 rfl
theorem treeE_rise {s : PL} (hn : NodupE s) : riseB (treeE s) = true := by
 refine riseB_step (fun i hi => ?_)
 unfold treeE at hi ⊢
 rw [List.getElem_map, List.getElem_map]
 rw [List.length_map] at hi
 have h := sortE_rise hn
 unfold RiseE at h
 rw [List.pairwise_iff_getElem] at h
 exact h i (i + 1) (by omega) hi (Nat.lt_succ_self i)
theorem treeE_len (s : PL) : (treeE s).length = s.length := by unfold treeE; rw [List.length_map, (sortE_perm s).length_eq]
theorem oneE_iff {e q : PEnt} : oneE e q = true ↔ q.node.f3 = 48 ∧ q.tree = e.tree ∧ q.node.f2 = e.node.f2 := by
 unfold oneE
 rw [decide_eq_true_iff, ba_iff]
theorem leadE_first {sp : PL} (h : RiseE sp) {e : PEnt} (he : e ∈ sp) (h48 : e.node.f3 = 48) : ∃ r ∈ sp, oneE e r = true ∧ leadE sp e = r.path ∧ lt e.path r.path = false := by
 unfold leadE
 induction sp with
 | nil => cases he
 | cons a sp ih =>
  rw [RiseE, List.pairwise_cons] at h
  by_cases ha : oneE e a = true
  ·rw [List.find?_cons_of_pos ha]
   refine ⟨a, List.mem_cons_self, ha, rfl, ?_⟩
   rcases List.mem_cons.1 he with rfl | h1
   ·exact lt_irr _
   ·exact lt_asym (h.1 e h1)
  ·rw [List.find?_cons_of_neg ha]
   rcases List.mem_cons.1 he with rfl | h1
   ·exact absurd (oneE_iff.2 ⟨h48, rfl, rfl⟩) ha
   ·obtain ⟨b, hb, h2, h3, h4⟩ := ih h.2 h1
    exact ⟨b, List.mem_cons_of_mem _ hb, h2, h3, h4⟩
theorem leadE_congr {sp : PL} {e f : PEnt} (h1 : e.tree = f.tree) (h2 : e.node.f2 = f.node.f2) : leadE sp e = leadE sp f := by
 unfold leadE
 have : oneE e = oneE f := by
  funext q
  unfold oneE
  rw [h1, h2]
 rw [this]
theorem leadE_inj {sp : PL} (h : RiseE sp) {e f : PEnt} (he : e ∈ sp) (hf : f ∈ sp) (h48 : e.node.f3 = 48) (h48' : f.node.f3 = 48) : leadE sp e = leadE sp f ↔ e.tree = f.tree ∧ e.node.f2 = f.node.f2 := by
 constructor
 ·intro hl
  obtain ⟨a, ha, ha2, hal, _⟩ := leadE_first h he h48
  obtain ⟨b, hb, hb2, hbl, _⟩ := leadE_first h hf h48'
  have hn := riseE_nodup h
  have h1 := atE_of hn ha
  have h2 := atE_of hn hb
  rw [← hal, hl, hbl, h2] at h1
  injection h1 with h1
  subst h1
  rw [oneE_iff] at ha2 hb2
  exact ⟨ha2.2.1.symm.trans hb2.2.1, ha2.2.2.symm.trans hb2.2.2⟩
 ·rintro ⟨h1, h2⟩
  exact leadE_congr h1 h2
structure EntsOk (s : PL) : Prop where
 nodup : NodupE s
 len : s.length ≤ 4096
 good : ∀ e ∈ s, ¬ e.node.f3 = 49 ∧ goodM ⟨e.path, e.node.f1, e.node.f3, e.node.f4, e.node.f5⟩ = true
 bare : ∀ e ∈ s, ¬ e.node.f3 = 48 → e.node.f2.toList = []
 alike : ∀ e ∈ s, ∀ f ∈ s, e.node.f3 = 48 → oneE e f = true → f.node.f4 = e.node.f4 ∧ (strOfNums f.node.f5).toList = (strOfNums e.node.f5).toList
theorem treeE_good {s : PL} (h : EntsOk s) : goodTree (treeE s) = true := by
 have hR := sortE_rise h.nodup
 unfold goodTree
 rw [treeE_rise h.nodup]
 simp only [Bool.true_and, Bool.and_eq_true, decide_eq_true_iff, List.all_eq_true]
 refine ⟨⟨fun x hx => ?_, by rw [treeE_len]; exact h.len⟩, fun x hx => ?_⟩
 ·obtain ⟨e, he, rfl⟩ := List.mem_map.1 hx
  have := h.good e (sortE_mem.1 he)
  exact ⟨by have h2 := this.1; unfold outE; dsimp only; rw [Bool.not_eq_true', decide_eq_false_iff_not]; exact h2, this.2⟩
 ·obtain ⟨e, he, rfl⟩ := List.mem_map.1 hx
  unfold ledB
  by_cases h48 : e.node.f3 = 48
  ·obtain ⟨r, hr, hr1, hrl, hrt⟩ := leadE_first hR he h48
   have e3 : (outE (sortE s) e).f3 = 48 := h48
   have e2 : (outE (sortE s) e).f2 = r.path := by unfold outE; dsimp only; rw [if_pos h48, hrl]
   have hat : atE s r.path = some r := atE_of h.nodup (sortE_mem.1 hr)
   rw [if_pos e3, e2, find_treeE h.nodup, hat]
   dsimp only [Option.map_some]
   have ho := oneE_iff.1 hr1
   obtain ⟨a1, a2⟩ := h.alike e (sortE_mem.1 he) r (sortE_mem.1 hr) h48 hr1
   have e4 : (outE (sortE s) r).f2 = r.path := by
    unfold outE
    dsimp only
    rw [if_pos ho.1, ← hrl]
    exact leadE_congr ho.2.1 ho.2.2
   rw [decide_eq_true_iff, e4]
   refine ⟨ho.1, rfl, hrt, ?_, ?_, ?_, ?_, a2⟩ <;> · unfold outE; dsimp only; rw [a1]
  ·have e3 : ¬ (outE (sortE s) e).f3 = 48 := h48
   rw [if_neg e3]
   have e2 : (outE (sortE s) e).f2 = e.node.f2 := by unfold outE; dsimp only; rw [if_neg h48]
   rw [e2]
   exact decide_eq_true (h.bare e (sortE_mem.1 he) h48)
structure Agree (T U : List Node) : Prop where
 data : ∀ p, (findF T p = none ∧ findF U p = none) ∨ ∃ x y, findF T p = some x ∧ findF U p = some y ∧ equalB x y = true
 cls : ∀ p q x y x' y', findF T p = some x → findF T q = some y → findF U p = some x' → findF U q = some y' → x.f3 = 48 → y.f3 = 48 → (x.f2 = y.f2 ↔ x'.f2 = y'.f2)
theorem Agree.symm {T U : List Node} (h : Agree T U) : Agree U T := by
 refine ⟨fun p => ?_, fun p q x y x' y' h1 h2 h3 h4 h5 h6 => ?_⟩
 ·rcases h.data p with ⟨a, b⟩ | ⟨x, y, a, b, c⟩
  ·exact .inl ⟨b, a⟩
  ·exact .inr ⟨y, x, b, a, equalB_symm c⟩
 ·have k : ∀ p x x', findF U p = some x → findF T p = some x' → x.f3 = 48 → x'.f3 = 48 := by
   intro p x x' e1 e2 e3
   rcases h.data p with ⟨a, b⟩ | ⟨u, v, a, b, c⟩
   ·rw [b] at e1; cases e1
   ·rw [b] at e1; cases e1; rw [a] at e2; cases e2
    rw [(equalB_iff.1 c).2.2.1]; exact e3
  exact (h.cls p q x' y' x y h3 h4 h1 h2 (k p x x' h1 h3 h5) (k q y y' h2 h4 h6)).symm
theorem agree_same {T U : List Node} (hT : goodTree T = true) (hU : goodTree U = true) (h : Agree T U) : sameB T U = true := by
 obtain ⟨rT, gT, _, lT⟩ := good_parts hT
 obtain ⟨rU, gU, _, lU⟩ := good_parts hU
 have hp : T.map (fun x => x.f0) = U.map (fun x => x.f0) := by
  refine List.Perm.eq_of_pairwise (le := fun a b => lt a b = true) (fun a b _ _ h1 h2 => by rw [lt_asym h1] at h2; cases h2) ?_ ?_ ((List.perm_ext_iff_of_nodup (paths_nodup rT) (paths_nodup rU)).2 (fun p => ?_))
  ·rw [List.pairwise_map, List.pairwise_iff_getElem]
   exact fun i j hi hj hij => riseB_at rT i j hi hj hij
  ·rw [List.pairwise_map, List.pairwise_iff_getElem]
   exact fun i j hi hj hij => riseB_at rU i j hi hj hij
  ·rw [← findF_is, ← findF_is]
   rcases h.data p with ⟨a, b⟩ | ⟨x, y, a, b, _⟩ <;> rw [a, b] <;> simp
 have hl : T.length = U.length := by have := congrArg List.length hp; simpa using this
 refine sameB_idx' T U hl (fun i hi => ?_)
 have hiU : i < U.length := by omega
 have h0 : T[i].f0 = U[i].f0 := by
  have h1 : (T.map (fun x => x.f0))[i]'(by simpa using hi) = (U.map (fun x => x.f0))[i]'(by simpa using hiU) := by congr 1
  simpa using h1
 have fT := findF_here rT (List.getElem_mem hi)
 have fU := findF_here rU (List.getElem_mem hiU)
 have hd : equalB T[i] U[i] = true := by
  rcases h.data T[i].f0 with ⟨a, _⟩ | ⟨x, y, a, b, c⟩
  ·rw [fT] at a; cases a
  ·rw [fT] at a; cases a
   rw [h0, fU] at b; cases b
   exact c
 refine ⟨?_, hd⟩
 obtain ⟨_, _, d3, _, _⟩ := equalB_iff.1 hd
 by_cases h48 : T[i].f3 = 48
 ·obtain ⟨z, z1, z2, z3, z4, _⟩ := ledE (lT _ (List.getElem_mem hi)) h48
  obtain ⟨w, w1, w2, w3, w4, _⟩ := ledE (lU _ (List.getElem_mem hiU)) (by rw [← d3]; exact h48)
  obtain ⟨zm, zp⟩ := findF_mem z1
  obtain ⟨wm, wp⟩ := findF_mem w1
  -- the other tree's node at each of the two leaders
  obtain ⟨z', f1, z48⟩ : ∃ z', findF U z.f0 = some z' ∧ z'.f3 = 48 := by
   rcases h.data z.f0 with ⟨a, _⟩ | ⟨x, y, a, b, c⟩
   ·rw [findF_here rT zm] at a; cases a
   ·rw [findF_here rT zm] at a; cases a
    exact ⟨y, b, by rw [← (equalB_iff.1 c).2.2.1]; exact z2⟩
  obtain ⟨w', f2, w48⟩ : ∃ w', findF T w.f0 = some w' ∧ w'.f3 = 48 := by
   rcases h.data w.f0 with ⟨_, a⟩ | ⟨x, y, a, b, c⟩
   ·rw [findF_here rU wm] at a; cases a
   ·rw [findF_here rU wm] at b; cases b
    exact ⟨x, a, by rw [(equalB_iff.1 c).2.2.1]; exact w2⟩
  have c1 := (h.cls T[i].f0 z.f0 T[i] z U[i] z' fT (findF_here rT zm) (by rw [h0]; exact fU) f1 h48 z2).1 (by rw [z3]; exact zp.symm)
  have c2 := (h.cls T[i].f0 w.f0 T[i] w' U[i] w fT f2 (by rw [h0]; exact fU) (findF_here rU wm) h48 w48).2 (by rw [w3]; exact wp.symm)
  obtain ⟨m', p'⟩ := findF_mem f1
  obtain ⟨m'', p''⟩ := findF_mem f2
  -- z.f0 is the least of the class in T, w.f0 in U
  obtain ⟨y1, g1, _, _, g4, _⟩ := ledE (lU _ m') z48
  obtain ⟨y2, k1, _, _, k4, _⟩ := ledE (lT _ m'') w48
  rw [← c1, w1] at g1
  cases g1
  rw [← c2, z1] at k1
  cases k1
  rw [p'] at g4
  rw [p''] at k4
  have hzw : z.f0 = w.f0 := by
   rcases lt_tri z.f0 w.f0 with e | e | e
   ·rw [e] at g4; cases g4
   ·exact ba_ext e
   ·rw [e] at k4; cases k4
  rw [← zp, hzw, wp]
 ·have e1 := lT _ (List.getElem_mem hi)
  have e2 := lU _ (List.getElem_mem hiU)
  unfold ledB at e1 e2
  rw [if_neg h48] at e1
  rw [if_neg (by rw [← d3]; exact h48)] at e2
  rw [of_decide_eq_true e1, of_decide_eq_true e2]
where
 sameB_idx' : ∀ (l r : List Node) (hl : l.length = r.length), (∀ (i : Nat) (hi : i < l.length), l[i].f2.toList = (r[i]'(by omega)).f2.toList ∧ equalB l[i] (r[i]'(by omega)) = true) → sameB l r = true
  | [], [], _, _ => rfl
  | [], _ :: _, h, _ => by cases h
  | _ :: _, [], h, _ => by cases h
  | a :: l, b :: r, hl, h => by
   rw [sameB]
   have h0 := h 0 (Nat.succ_pos _)
   rw [Bool.and_eq_true, Bool.and_eq_true]
   exact ⟨⟨decide_eq_true h0.1, h0.2⟩, sameB_idx' l r (by simpa using hl) (fun i hi => h (i + 1) (by simpa using hi))⟩
 ledE : ∀ {l : List Node} {x : Node}, ledB l x = true → x.f3 = 48 → ∃ z, findF l x.f2 = some z ∧ z.f3 = 48 ∧ z.f2 = z.f0 ∧ lt x.f0 z.f0 = false ∧ True := by
  intro l x h h48
  unfold ledB at h
  rw [if_pos h48] at h
  cases hf : findF l x.f2 with
  | none => rw [hf] at h; cases h
  | some z =>
   rw [hf] at h
   dsimp only at h
   rw [decide_eq_true_iff] at h
   exact ⟨z, rfl, h.1, ba_ext h.2.1, h.2.2.1, trivial⟩
end Go.Proofs.YtbngbefchobfnaaGreatDoor

namespace Go.Proofs.YtbngbefchobfnaaGreatDoor
open Go.RowKit Go.Maps Go.Proofs.YtbngbefchobfnaaGreatDoor.Print Go.Proofs.YtbngbefchobfnaaGreatDoorW.PrintWords
abbrev PS := List (ByteArray × Nat)
def atD (s : PS) (k : List UInt8) : Option Nat := match s with
 | [] => none
 | (p, c) :: r => if k = p.data.toList then some c else atD r k
theorem at_atD (s : PS) (p : ByteArray) : at_ s p = atD s p.data.toList := by
 induction s with
 | nil => rfl
 | cons q r ih =>
  obtain ⟨k, v⟩ := q
  rw [at_, atD, ih]
  by_cases h : k = p
  ·rw [if_pos (by rw [h]), if_pos (by rw [h])]
  ·rw [if_neg (fun e => h (ba_ext e)), if_neg (fun e => h (ba_data.1 e.symm))]
def without (s : PS) (p : ByteArray) : PS := s.filter (fun q => !decide (q.1.toList = p.toList))
def putP (s : PS) (p : ByteArray) (c : Nat) : PS := without s p ++ [(p, c)]
theorem stepF_eq (l : List Mem) (s : PS) (i : Nat) (hi : i < l.length) : stepF l s i = if l[i].f2 = 49 then (match atD s l[i].f1.data.toList with
   | none => none
   | some c => match l[c]? with
    | none => none
    | some t => if t.f2 = 48 then some (putP s l[i].f0 c) else none) else some (putP s l[i].f0 i) := by
 unfold stepF
 rw [List.getElem?_eq_getElem hi]
 dsimp only
 rw [at_atD]
 rfl
structure FInv (l : List Mem) (i : Nat) (s : PS) : Prop where
 nodup : (s.map (fun q => q.1)).Nodup
 cls : ∀ q ∈ s, q.2 < i ∧ ∃ m, l[q.2]? = some m ∧ ¬ m.f2 = 49
 len : s.length ≤ i
 full : ∀ q ∈ s, q.1.toList ≠ []
 small : ∀ q ∈ s, q.1.size ≤ 8000000000000
theorem without_sub {s : PS} {p : ByteArray} {q : ByteArray × Nat} (h : q ∈ without s p) : q ∈ s ∧ q.1 ≠ p := by
 unfold without at h
 rw [List.mem_filter] at h
 refine ⟨h.1, fun e => ?_⟩
 have := h.2
 rw [e] at this
 simp at this
theorem FInv.start (l : List Mem) : FInv l 0 [] := ⟨List.nodup_nil, fun q h => (by cases h), Nat.le_refl _, fun q h => (by cases h), fun q h => (by cases h)⟩
theorem FInv.put {l : List Mem} {i : Nat} {s : PS} (h : FInv l i s) {p : ByteArray} {c : Nat} (hp : p.toList ≠ []) (hps : p.size ≤ 8000000000000) (hc : c < i + 1) {m : Mem} (hm : l[c]? = some m) (h49 : ¬ m.f2 = 49) : FInv l (i + 1) (putP s p c) := by
 refine ⟨?_, ?_, ?_, ?_, ?_⟩
 ·unfold putP
  rw [List.map_append, List.nodup_append]
  refine ⟨(List.Sublist.map _ List.filter_sublist).nodup h.nodup, by simp, fun a ha b hb => ?_⟩
  obtain ⟨q, hq, rfl⟩ := List.mem_map.1 ha
  simp only [List.map_cons, List.map_nil, List.mem_singleton] at hb
  subst hb
  exact (without_sub hq).2
 ·intro q hq
  rcases List.mem_append.1 hq with hq | hq
  ·have := h.cls q (without_sub hq).1
   exact ⟨by omega, this.2⟩
  ·rw [List.mem_singleton] at hq
   subst hq
   exact ⟨hc, m, hm, h49⟩
 ·unfold putP
  rw [List.length_append]
  have h1 : (without s p).length ≤ s.length := List.length_filter_le _ _
  have := h.len
  simp only [List.length_cons, List.length_nil]
  omega
 ·intro q hq
  rcases List.mem_append.1 hq with hq | hq
  ·exact h.full q (without_sub hq).1
  ·rw [List.mem_singleton] at hq
   subst hq
   exact hp
 ·intro q hq
  rcases List.mem_append.1 hq with hq | hq
  ·exact h.small q (without_sub hq).1
  ·rw [List.mem_singleton] at hq
   subst hq
   exact hps
theorem atD_mem {s : PS} {k : List UInt8} {c : Nat} (h : atD s k = some c) : ∃ q ∈ s, q.1.data.toList = k ∧ q.2 = c := by
 induction s with
 | nil => cases h
 | cons q r ih =>
  obtain ⟨a, v⟩ := q
  rw [atD] at h
  by_cases h2 : k = a.data.toList
  ·rw [if_pos h2] at h
   cases h
   exact ⟨_, List.mem_cons_self, h2.symm, rfl⟩
  ·rw [if_neg h2] at h
   obtain ⟨q, hq, h3⟩ := ih h
   exact ⟨q, List.mem_cons_of_mem _ hq, h3⟩
theorem FInv.step {l : List Mem} {i : Nat} {s s' : PS} (h : FInv l i s) (hi : i < l.length) (hp : l[i].f0.toList ≠ []) (hps : l[i].f0.size ≤ 8000000000000) (hs : stepF l s i = some s') : FInv l (i + 1) s' := by
 rw [stepF_eq l s i hi] at hs
 by_cases h49 : l[i].f2 = 49
 ·rw [if_pos h49] at hs
  cases ha : atD s l[i].f1.data.toList with
  | none => rw [ha] at hs; cases hs
  | some c =>
   rw [ha] at hs
   obtain ⟨q, hq, _, rfl⟩ := atD_mem ha
   obtain ⟨h1, m, hm, h2⟩ := h.cls q hq
   dsimp only at hs
   rw [hm] at hs
   dsimp only at hs
   split at hs
   ·cases hs
    exact h.put hp hps (by omega) hm h2
   ·cases hs
 ·rw [if_neg h49] at hs
  cases hs
  exact h.put hp hps (by omega) (List.getElem?_eq_getElem hi) h49
theorem insP_perm (q : ByteArray × Nat) (s : PS) : (insP q s).Perm (q :: s) := by
 induction s with
 | nil => exact List.Perm.refl _
 | cons r s ih =>
  rw [insP]
  split
  ·exact List.Perm.refl _
  ·exact (List.Perm.cons r ih).trans (List.Perm.swap _ _ _)
theorem sortP_perm (s : PS) : (sortP s).Perm s := by
 induction s with
 | nil => exact List.Perm.refl _
 | cons q s ih => exact (insP_perm q _).trans (List.Perm.cons q ih)
theorem sortP_len (s : PS) : (sortP s).length = s.length := (sortP_perm s).length_eq
def RiseP (s : PS) : Prop := s.Pairwise (fun a b => lt a.1 b.1 = true)
theorem insP_rise {q : ByteArray × Nat} {s : PS} (h : RiseP s) (hq : ∀ r ∈ s, r.1 ≠ q.1) : RiseP (insP q s) := by
 induction s with
 | nil => exact List.pairwise_singleton _ _
 | cons r s ih =>
  unfold RiseP at h ih ⊢
  rw [List.pairwise_cons] at h
  rw [insP]
  by_cases hl : lt q.1 r.1 = true
  ·rw [if_pos hl, List.pairwise_cons]
   refine ⟨fun x hx => ?_, List.pairwise_cons.2 h⟩
   rcases List.mem_cons.1 hx with rfl | hx
   ·exact hl
   ·exact lt_trans hl (h.1 x hx)
  ·rw [if_neg hl, List.pairwise_cons]
   refine ⟨fun x hx => ?_, ih h.2 (fun x hx => hq x (List.mem_cons_of_mem _ hx))⟩
   rcases List.mem_cons.1 ((insP_perm q s).mem_iff.1 hx) with rfl | hx
   ·rcases lt_tri r.1 x.1 with h2 | h2 | h2
    ·exact h2
    ·exact absurd (ba_ext h2) (hq r List.mem_cons_self)
    ·exact absurd h2 hl
   ·exact h.1 x hx
theorem sortP_rise {s : PS} (hn : (s.map (fun q => q.1)).Nodup) : RiseP (sortP s) := by
 induction s with
 | nil => exact List.Pairwise.nil
 | cons q s ih =>
  rw [List.map_cons, List.nodup_cons] at hn
  exact insP_rise (ih hn.2) (fun r hr e => hn.1 (List.mem_map.2 ⟨r, (sortP_perm s).mem_iff.1 hr, e⟩))
theorem less_le : ∀ a b : List UInt8, Op.bytesLess a b = true → a ≤ b := by
 intro a b h
 rw [← List.not_lt]
 have key : ∀ a b : List UInt8, a < b → Op.bytesLess a b = true := by
  intro a
  induction a with
  | nil => intro b h; cases b with | nil => exact absurd h (List.lt_irrefl _) | cons => rfl
  | cons x a ih =>
   intro b h
   cases b with
   | nil => exact absurd h (by simp)
   | cons y b =>
    rw [less_cons]
    rw [List.cons_lt_cons_iff] at h
    rcases h with h | ⟨h, h2⟩
    ·exact .inl (by rw [u8_lt] at h; exact h)
    ·exact .inr ⟨h, ih b h2⟩
 intro h2
 have h3 := less_trans _ _ _ h (key b a h2)
 rw [less_irr] at h3
 cases h3
def keysP (s : PS) : List (List UInt8) := s.map (fun q => q.1.data.toList)
theorem keysP_nodup {s : PS} (hn : (s.map (fun q => q.1)).Nodup) : (keysP s).Nodup := by
 unfold keysP
 rw [List.nodup_iff_pairwise_ne, List.pairwise_map] at *
 exact hn.imp (fun h e => h (ba_data.1 e))
theorem keys_sorted {s : PS} (hn : (s.map (fun q => q.1)).Nodup) {ss : List (List UInt8)} (hp : ss.Perm (keysP s)) : ss.mergeSort (fun x y => decide (x ≤ y)) = keysP (sortP s) := by
 have h1 : ss.mergeSort leB = (keysP (sortP s)).mergeSort leB := mergeSort_of_perm (hp.trans ((sortP_perm s).map _).symm)
 refine h1.trans (List.mergeSort_of_pairwise ?_)
 unfold keysP
 rw [List.pairwise_map]
 exact (sortP_rise hn).imp (fun hl => decide_eq_true (less_le _ _ (by rw [← lt_data]; exact hl)))
theorem MapS.keys {P : Program} {K : TypeId} {w : World} {b n : Nat} {f : List UInt8 → Option Value} (h : MapS P K w b n f) (hK : P.underlying K = some .string) {qs : List (List UInt8)} (hn : qs.Nodup) (hq : ∀ k, k ∈ qs ↔ (f k).isSome = true) :
  ∃ D : DataW Value, w.ownsMap P K heldE b n D ∧ qs.Perm (strKeys D) ∧ Maps.size D = qs.length := by
 obtain ⟨D, hown, hh, _⟩ := h
 obtain ⟨es, hD, hpw, _⟩ := hown.entries (string_keyed hK)
 obtain ⟨es', hD', hko⟩ := hown.keysOf
 obtain rfl : es = es' := by rw [hD] at hD'; simpa using hD'
 have hp : qs.Perm (strKeys D) := by
  rw [hD]
  exact perm_strKeys hpw (fun p hp => by obtain ⟨v, hv⟩ := hko p hp; obtain ⟨x, _, hx, _⟩ := Maps.keyOf_str hK hv; exact ⟨x, hx⟩) hn (fun x => by rw [hq x, ← hh x, hD])
 refine ⟨D, hown, hp, ?_⟩
 rw [hp.length_eq, hD]
 simp [strKeys, Maps.size]
end Go.Proofs.YtbngbefchobfnaaGreatDoor

namespace Go.Proofs.YtbngbefchobfnaaGreatDoor
open Go.RowKit Go.Shelf
def RoundEnd {α : Type} (Kp : World → World → Prop) (I : List α → World → Prop) (Ix : Code → List α → World → Prop) (l : Nat) (rec : Loop) (xs : List α) (W : World) : Exit → Act → World → Prop
 | .normal, _, W' => (W'.heap[l]? = some (.loop rec) ∧ W'.heap[rec.defers]? = some (.deferred (some []))) ∧ Kp W W' ∧ I xs W'
 | .ret, _, W' => (W'.heap[l]? = some (.loop rec) ∧ W'.heap[rec.defers]? = some (.deferred (some []))) ∧ Ix .ret xs W'
 | .exit id, _, W' => (W'.heap[l]? = some (.loop rec) ∧ W'.heap[rec.defers]? = some (.deferred (some []))) ∧ Ix (.exit id) xs W'
 | .goto t, _, W' => (W'.heap[l]? = some (.loop rec) ∧ W'.heap[rec.defers]? = some (.deferred (some []))) ∧ Ix (.goto t) xs W'
 | .panic _, _, _ => False
 | .outgrown, _, _ => False
def Book (o : Obj) : Prop := o.isCells = false ∧ o.isWalk = false
def Gives {α : Type} (F : Fence) (n : Nat) (P : Program) (gf : Nat) (lb : Array Value) (encs : α → Array Value) (B : Nat) (It Kp : World → World → Prop) (S Sp : List α → Prop) (W : World) : Prop :=
 ∀ (l : Nat) (J Jx : List α → World → Prop) (W1 : World), Below B W W1 →
  (∀ s A A', J s A → It A A' → J s A') → (∀ s A A', Jx s A → It A A' → Jx s A') →
  (∀ pre x A, J pre A → Sp (pre ++ [x]) → YieldAt F (n - 1) P l (encs x) A fun e A' =>
   (e = .returned (.bool true) ∧ J (pre ++ [x]) A' ∧ Kp A A') ∨ (e = .returned (.bool false) ∧ Jx (pre ++ [x]) A')) →
  J [] W1 →
  CallsIn F n P gf (#[.func (.yield l) #[] #[]] ++ lb) W1 fun e W' => (∃ v, e = .returned v) ∧ ((∃ xs, S xs ∧ J xs W') ∨ (∃ pre, Sp pre ∧ Jx pre W'))
variable {F : Fence} {n : Nat} {P : Program}
theorem wpIn_range_own {α : Type} {g : Operand} {ps : Array Tmp} {assign body : Code} {Q : Exit → Act → World → Prop} {a : Act} {w : World}
  (hro : F.round = none) (h1 : 1 ≤ n) {gf : Nat} {lb : Array Value} (hg : a.eval g = .func (.func gf) #[] lb) (hFg : F.fn gf) (eg : ∀ args w, (callFunc gf args).run P w = .ok (.enter gf args) w)
  {encs : α → Array Value} {It Kp : World → World → Prop} {S Sp : List α → Prop}
  (hseq : Gives F (n - 1) P gf lb encs w.heap.size It Kp S Sp w) (hps : ∀ x, (encs x).size = ps.size)
  (hIt : ∀ A A' k o, It A A' → w.heap.size ≤ k → Book o → A.heap[k]? = some o → A'.heap[k]? = some o)
  (hKt : ∀ {A B C : World}, Kp A B → Kp B C → Kp A C) (hKb : ∀ (A : World) (k : Nat) (o' : Obj), w.heap.size ≤ k → Kp A (A.putObj k o'))
  (I : List α → World → Prop) (Ix : Code → List α → World → Prop)
  (hI : ∀ s A k o o', I s A → w.heap.size ≤ k → Book o → A.heap[k]? = some o → I s (A.putObj k o')) (hIx : ∀ c s A k o o', Ix c s A → w.heap.size ≤ k → Book o → A.heap[k]? = some o → Ix c s (A.putObj k o'))
  (hI' : ∀ s A A', I s A → It A A' → I s A') (hIx' : ∀ c s A A', Ix c s A → It A A' → Ix c s A')
  (h0 : ∀ o1 o2, I [] ((w.alloc o1).alloc o2)) (a₁ : α → Act)
  (hassign : ∀ (l : Nat) (x : α) (W : World) (K : Act → World → Prop), K (a₁ x) W →
   assign.wpIn (F.inRound l) (n - 1 - 1) P (Exit.then K (fun _ _ _ => False)) { tmps := (ps.zip (encs x)).foldl (fun t (p, v) => t.setIfInBounds p v) a.tmps, defers := [] } W)
  (hbody : ∀ (l : Nat) (rec : Loop) (pre : List α) (x : α) (W : World), I pre W → Sp (pre ++ [x]) → w.heap.size ≤ l → w.heap.size ≤ rec.defers → W.heap[l]? = some (.loop rec) → W.heap[rec.defers]? = some (.deferred (some [])) →
   body.wpIn (F.inRound l) (n - 1 - 1) P (RoundEnd Kp I Ix l rec (pre ++ [x]) W) (a₁ x) W)
  (hdone : ∀ (D : Nat) (xs : List α) (W : World), w.heap.size ≤ D → S xs → I xs W → W.heap[D]? = some (.deferred (some [])) → Q .normal { a with defers := { target := .collected D, args := #[] } :: a.defers } W)
  (hstop : ∀ (D : Nat) (c : Code) (pre : List α) (W : World), w.heap.size ≤ D → Sp pre → Ix c pre W → W.heap[D]? = some (.deferred (some [])) → c.wpIn F n P Q { a with defers := { target := .collected D, args := #[] } :: a.defers } W) :
  (Code.rangeFunc g ps assign body).wpIn F n P Q a w := by
 refine wpIn_rangeFunc fun fn hfn => ?_
 rw [hro]
 obtain ⟨rec, hrec⟩ : ∃ rec : LoopState → Option Code → Loop, rec = fun st pe => { state := st, pending := pe, fn, tmps := a.tmps, params := ps, assign, body, defers := w.heap.size } := ⟨_, rfl⟩
 have hdef : ∀ st pe, (rec st pe).defers = w.heap.size := fun st pe => by rw [hrec]
 generalize hW1 : (w.alloc (.deferred (some []))).alloc (.loop (rec .ready none)) = W1
 have hsz : W1.heap.size = w.heap.size + 2 := by rw [← hW1]; simp
 have hL1 : W1.heap[w.heap.size + 1]? = some (.loop (rec .ready none)) := by
  rw [← hW1]; have := World.alloc_heap_new (w.alloc (.deferred (some []))) (.loop (rec .ready none)); rwa [World.size_alloc] at this
 have hK1 : W1.heap[w.heap.size]? = some (.deferred (some [])) := by
  rw [← hW1]; exact (Below.heap_alloc _ _ _ (by simp)).trans (World.alloc_heap_new w _)
 have hb1 : Below w.heap.size w W1 := by
  rw [← hW1]; exact ((Below.refl _ w).alloc (Nat.le_refl _) _).alloc (by simp) _
 have bl : ∀ r : Loop, Book (.loop r) := fun _ => ⟨rfl, rfl⟩
 have bd : ∀ r, Book (.deferred r) := fun _ => ⟨rfl, rfl⟩
 refine ⟨w.heap.size + 1, [{ target := .collected w.heap.size, args := #[] }], W1, { target := .fn (.func gf) lb, args := #[.func (.yield (w.heap.size + 1)) #[] #[]] }, W1, gf,
  #[.func (.yield (w.heap.size + 1)) #[] #[]] ++ lb, W1, ?_, ?_, ?_, ?_, fun _ => h1, ?_⟩
 ·rw [← hW1, hrec]; exact run_enterLoop_outer _ _ _ _ _
 ·simp only [resolve, hg]
  simp [go_sem]
 ·intro f' hf'; simp [Target.leads] at hf'; subst hf'; exact hFg
 ·simp [invoke, go_sem, eg]
 ·refine (hseq (w.heap.size + 1)
   (fun pre A => I pre A ∧ A.heap[w.heap.size + 1]? = some (.loop (rec .ready none)) ∧ A.heap[w.heap.size]? = some (.deferred (some [])))
   (fun pre A => ∃ c, Ix c pre A ∧ A.heap[w.heap.size + 1]? = some (.loop (rec .done (some c))) ∧ A.heap[w.heap.size]? = some (.deferred (some [])))
   W1 hb1
   (fun s A A' hs hi => ⟨hI' s A A' hs.1 hi, hIt _ _ _ _ hi (by omega) (bl _) hs.2.1, hIt _ _ _ _ hi (by omega) (bd _) hs.2.2⟩)
   (fun s A A' hs hi => by
    obtain ⟨c, h2, h3, h4⟩ := hs
    exact ⟨c, hIx' c s A A' h2 hi, hIt _ _ _ _ hi (by omega) (bl _) h3, hIt _ _ _ _ hi (by omega) (bd _) h4⟩)
   ?_ ⟨by rw [← hW1]; exact h0 _ _, hL1, hK1⟩).mono ?_
  ·rintro pre x W ⟨hi, hl, hk⟩ hsp
   have hlt : w.heap.size + 1 < W.heap.size := (Array.getElem?_eq_some_iff.1 hl).1
   have hy := run_yield (P := P) (args := encs x) hl (by rw [hrec]; exact hps x)
   rw [hrec] at hy
   refine ⟨fn, _, assign, body, hy, roundIn_of_wpIn hfn (hassign _ x W _ ⟨_, run_beginRound hl (by rw [hrec]), ?_⟩)⟩
   generalize hrb : ({ rec .ready none with state := .busy } : Loop) = rb
   have hrbd : rb.defers = w.heap.size := by rw [← hrb]; exact hdef _ _
   have hl2 : (W.putObj (w.heap.size + 1) (.loop rb)).heap[w.heap.size + 1]? = some (.loop rb) := World.putObj_heap_same hlt
   have hk2 : (W.putObj (w.heap.size + 1) (.loop rb)).heap[rb.defers]? = some (.deferred (some [])) := by rw [hrbd]; exact (World.putObj_heap_other (by omega)).trans hk
   have fin : ∀ (jump : Option Code) (W3 : World), (W3.heap[w.heap.size + 1]? = some (.loop rb) ∧ W3.heap[rb.defers]? = some (.deferred (some []))) →
     (Instr.endRound (w.heap.size + 1) jump).run P W3 = .ok (.bool jump.isNone) (W3.putObj (w.heap.size + 1) (.loop (rec (if jump.isNone then .ready else .done) jump))) ∧
     (W3.putObj (w.heap.size + 1) (.loop (rec (if jump.isNone then .ready else .done) jump))).heap[w.heap.size + 1]? = some (.loop (rec (if jump.isNone then .ready else .done) jump)) ∧
     (W3.putObj (w.heap.size + 1) (.loop (rec (if jump.isNone then .ready else .done) jump))).heap[w.heap.size]? = some (.deferred (some [])) := fun jump W3 hk3 => by
    have := run_endRound (P := P) jump hk3.1
    rw [← hrb, hrec] at this
    refine ⟨by rw [hrec]; exact this, World.putObj_heap_same (Array.getElem?_eq_some_iff.1 hk3.1).1, (World.putObj_heap_other (by omega)).trans (by have := hk3.2; rwa [hrbd] at this)⟩
   refine wpIn_mono (hbody _ rb pre x _ (hI _ _ _ _ _ hi (by omega) (bl _) hl) hsp (by omega) (by omega) hl2 hk2) ?_
   rintro e a3 W3 hp
   cases e with
   | normal =>
    obtain ⟨hk3, hkp3, hi3⟩ := hp
    obtain ⟨hr, hl4, hk4⟩ := fin none W3 hk3
    exact ⟨_, _, hr, .inl ⟨rfl, ⟨hI _ _ _ _ _ hi3 (by omega) (bl _) hk3.1, hl4, hk4⟩, hKt (hKt (hKb _ _ _ (by omega)) hkp3) (hKb _ _ _ (by omega))⟩⟩
   | ret =>
    obtain ⟨hk3, hi3⟩ := hp
    obtain ⟨hr, hl4, hk4⟩ := fin (some .ret) W3 hk3
    exact ⟨_, _, hr, .inr ⟨rfl, .ret, hIx _ _ _ _ _ _ hi3 (by omega) (bl _) hk3.1, hl4, hk4⟩⟩
   | exit id =>
    obtain ⟨hk3, hi3⟩ := hp
    obtain ⟨hr, hl4, hk4⟩ := fin (some (.exit id)) W3 hk3
    exact ⟨_, _, hr, .inr ⟨rfl, .exit id, hIx _ _ _ _ _ _ hi3 (by omega) (bl _) hk3.1, hl4, hk4⟩⟩
   | goto t =>
    obtain ⟨hk3, hi3⟩ := hp
    obtain ⟨hr, hl4, hk4⟩ := fin (some (.goto t)) W3 hk3
    exact ⟨_, _, hr, .inr ⟨rfl, .goto t, hIx _ _ _ _ _ _ hi3 (by omega) (bl _) hk3.1, hl4, hk4⟩⟩
   | panic ch => exact hp.elim
   | outgrown => exact hp.elim
  ·rintro e W2 ⟨⟨v, rfl⟩, (⟨xs, hS, hi, hl, hk⟩ | ⟨pre, hSp, c, hi, hl, hk⟩)⟩
   ·exact ⟨none, _, by have := run_endLoop (P := P) hl (by rw [hrec]; simp); rw [hrec] at this; exact this, hdone _ xs _ (Nat.le_refl _) hS (hI _ _ _ _ _ hi (by omega) (bl _) hl) ((World.putObj_heap_other (by omega)).trans hk)⟩
   ·exact ⟨some c, _, by have := run_endLoop (P := P) hl (by rw [hrec]; simp); rw [hrec] at this; exact this, hstop _ c pre _ (Nat.le_refl _) hSp (hIx _ _ _ _ _ _ hi (by omega) (bl _) hl) ((World.putObj_heap_other (by omega)).trans hk)⟩
end Go.Proofs.YtbngbefchobfnaaGreatDoor

namespace Go.Proofs.YtbngbefchobfnaaGreatDoor
open Go.RowKit Go.Shelf
attribute [local go_sem] Oper.semAt_some
set_option linter.unusedVariables false
set_option linter.unusedSimpArgs false
def IterAt (w : World) (s : ByteArray) (e : Ending) (w' : World) : Prop :=
 e = .returned (.func (.func 110) #[] #[.pointer (some ⟨w.heap.size + 1, 0, none⟩), .pointer (some ⟨w.heap.size, 0, none⟩), .pointer (some ⟨w.heap.size + 2, 0, none⟩)]) ∧
 w' = ((w.alloc (.cells #[.string s] 9)).alloc (.cells #[.string ⟨#[47]⟩] 9)).alloc (.cells #[.int .i64 0] 3)
theorem SplitSeq_calls (s : ByteArray) (w : World) : Calls Tryz.prog 90 #[.string s, .string ⟨#[47]⟩] w (IterAt w s) := by
 go_enter Tryz.func90, Tryz.ntmps90
 go_wp2
 go_ret
 exact ⟨rfl, rfl⟩
def SplitCells (bsep bs bsv : Nat) (t : ByteArray) (W : World) : Prop :=
 W.heap[bs]? = some (.cells #[.string t] 9) ∧ W.heap[bsep]? = some (.cells #[.string ⟨#[47]⟩] 9) ∧ W.heap[bsv]? = some (.cells #[.int .i64 0] 3)
def textAt (b : Nat) (W : World) : Nat := match W.cell? ⟨b, 0, none⟩ with | some (.string t) => t.size | _ => 0
def SplitIt (bs : Nat) (A A' : World) : Prop := ∃ v : ByteArray, A' = A.setCell ⟨bs, 0, none⟩ (.string v)
def SplitKp (bsep bs bsv : Nat) (A A' : World) : Prop := A'.heap[bs]? = A.heap[bs]? ∧ A'.heap[bsep]? = A.heap[bsep]? ∧ A'.heap[bsv]? = A.heap[bsv]?
theorem SplitCells.kept {bsep bs bsv : Nat} {t : ByteArray} {A A' : World} (h : SplitCells bsep bs bsv t A) (k : SplitKp bsep bs bsv A A') : SplitCells bsep bs bsv t A' :=
 ⟨k.1.trans h.1, k.2.1.trans h.2.1, k.2.2.trans h.2.2⟩
theorem heap_set_one {W : World} {b : Nat} {t : TypeId} {v u : Value} (h : W.heap[b]? = some (.cells #[v] t)) : (W.setCell ⟨b, 0, none⟩ u).heap[b]? = some (.cells #[u] t) := by
 simp [World.setCell, Array.getElem?_modify, h]
theorem SplitCells.set {bsep bs bsv : Nat} {t u : ByteArray} {A : World} (h : SplitCells bsep bs bsv t A) (h1 : bsep ≠ bs) (h2 : bsv ≠ bs) : SplitCells bsep bs bsv u (A.setCell ⟨bs, 0, none⟩ (.string u)) :=
 ⟨heap_set_one h.1, (Below.heap_setCell _ _ _ _ h1).trans h.2.1, (Below.heap_setCell _ _ _ _ h2).trans h.2.2⟩
theorem cell_of_block {W : World} {b : Nat} {t : TypeId} {v : Value} (h : W.heap[b]? = some (.cells #[v] t)) : W.cell? ⟨b, 0, none⟩ = some v := by simp [World.cell?, h]
theorem free_of_block {W : World} {b : Nat} {t : TypeId} {v : Value} (h : W.heap[b]? = some (.cells #[v] t)) : W.frozen? ⟨b, 0, none⟩ = false := by simp [World.frozen?, h]
set_option maxHeartbeats 1000000 in
set_option maxRecDepth 100000 in
theorem split_gives (n B bsep bs bsv : Nat) (s : ByteArray) (W : World) (hn : 1 ≤ n) (h1 : bsep ≠ bs) (h2 : bsv ≠ bs) (hb1 : bs < B) (hb2 : bsep < B) (hb3 : bsv < B) (hs : s.size ≤ 9223372036854775807) (hc : SplitCells bsep bs bsv s W) :
  Gives Fence.wide n Tryz.prog 110 #[.pointer (some ⟨bsep, 0, none⟩), .pointer (some ⟨bs, 0, none⟩), .pointer (some ⟨bsv, 0, none⟩)] (fun x : ByteArray => #[.string x])
   B (SplitIt bs) (SplitKp bsep bs bsv) (fun xs => xs = splitS s) (fun pre => pre <+: splitS s) W := by
 intro l J Jx W1 hW hJ hJx hY hJ0
 have hc1 : SplitCells bsep bs bsv s W1 := ⟨(hW.block _ hb1).trans hc.1, (hW.block _ hb2).trans hc.2.1, (hW.block _ hb3).trans hc.2.2⟩
 clear hW hc
 refine callsIn_of_wp Tryz.func110 rfl trivial ?_ rfl
 simp only [Tryz.ntmps110, List.size_toArray, List.length_cons, List.length_nil, Nat.reduceAdd, Nat.reduceSub, Array.replicate_succ, Array.replicate_zero, List.push_toArray, List.append_toArray, List.nil_append, List.cons_append]
 have g1 := cell_of_block hc1.2.1
 gi_wp2
 clear g1
 gi_loopw [7] (fun _ wr => ∃ (pre : List ByteArray) (t : ByteArray), splitS s = pre ++ splitS t ∧ t.size ≤ 9223372036854775807 ∧ SplitCells bsep bs bsv t wr ∧ J pre wr)
  (fun _ wr => textAt bs wr)
 case atStart => exact ⟨[], s, rfl, hs, hc1, hJ0⟩
 case round =>
  obtain ⟨pre, t, hsp, ht, hct, hJs⟩ := hrel
  have g1 := cell_of_block hct.1
  have g2 := cell_of_block hct.2.1
  have g3 := cell_of_block hct.2.2
  have f1 := free_of_block hct.1
  have cI : ∀ W, CallsIn Fence.wide (n - 1) Tryz.prog 107 #[.string t, .string ⟨#[47]⟩] W _ := fun W => callsIn_wide.2 (Tryz.strings_Index_one t 47 W)
  rcases splitS_cases t with ⟨hi, hlast⟩ | ⟨i, hi, hlt, hcons⟩
  ·rw [hi] at cI
   rw [hlast] at hsp
   obtain ⟨fn, tmps, assign, body, hy, hR⟩ := hY pre t wr hJs (by rw [hsp]; exact List.prefix_refl _)
   have HS := Lib.hid hsp
   clear hsp hlast hi
   gi_wp2_with (refine ⟨trivial, ?_⟩; gi_at_call 107; refine (cI _).mono ?_; rintro e w' ⟨rfl, rfl⟩)
   refine hR.mono ?_
   rintro e W3 (⟨rfl, hJ3, hk3⟩ | ⟨rfl, hJx3⟩)
   ·gi_wp2
    go_end0
    exact ⟨⟨_, rfl⟩, .inl ⟨_, HS.out.symm, hJ3⟩⟩
   ·gi_wp2
    go_end0
    exact ⟨⟨_, rfl⟩, .inr ⟨_, by rw [HS.out]; exact List.prefix_refl _, hJx3⟩⟩
  ·rw [hi] at cI
   rw [hcons] at hsp
   obtain ⟨fn, tmps, assign, body, hy, hR⟩ := hY pre (t.extract 0 i) wr hJs (by rw [hsp]; exact ⟨splitS (t.extract (i + 1) t.size), by simp⟩)
   have HS := Lib.hid hsp
   clear hsp hcons hi
   gi_wp2_with (refine ⟨trivial, ?_⟩; gi_at_call 107; refine (cI _).mono ?_; rintro e w' ⟨rfl, rfl⟩)
   refine hR.mono ?_
   clear hR hy g1 g2 g3 f1 cI
   rintro e W3 (⟨rfl, hJ3, hk3⟩ | ⟨rfl, hJx3⟩)
   ·have hct3 := hct.kept hk3
    have g1 := cell_of_block hct3.1
    have g2 := cell_of_block hct3.2.1
    have f1 := free_of_block hct3.1
    have hm1 : textAt bs w' = t.size := by simp [textAt, cell_of_block hct.1]
    have Hm1 := Lib.hid hm1
    clear hct hk3 hm1
    gi_wp2
    go_roundw
    case rel => exact ⟨pre ++ [t.extract 0 i], t.extract (i + 1) t.size, by rw [HS.out]; simp, by simp; omega, hct3.set h1 h2, hJ _ _ _ hJ3 ⟨_, rfl⟩⟩
    case measure =>
     have := cell_of_block (hct3.set (u := t.extract (i + 1) t.size) h1 h2).1
     rw [Hm1.out]
     simp only [textAt, this]
     simp
     omega
   ·gi_wp2
    refine bodyPost_ret (results_none rfl _ _ _) rfl ?_
    exact ⟨⟨_, rfl⟩, .inr ⟨_, by rw [HS.out]; exact ⟨splitS (t.extract (i + 1) t.size), by simp⟩, hJx3⟩⟩
end Go.Proofs.YtbngbefchobfnaaGreatDoor

namespace Go.Proofs.YtbngbefchobfnaaGreatDoor
open Go.RowKit Go.Shelf
attribute [local go_sem] Oper.semAt_some
set_option linter.unusedVariables false
set_option linter.unusedSimpArgs false
theorem infoStr : (Tryz.prog.info? 9).map (fun i => (i.zero, i.size, i.bytes)) = some (some (.string ⟨#[]⟩), 1, 16) := by kernel_rfl
def ResAt (n0 : Nat) (p : ByteArray × Int) (W : World) : Prop := Boxed W n0 9 (.string p.1) ∧ Boxed W (n0 + 1) 26 (.int .i64 p.2)
theorem ResAt.alloc {n0 : Nat} {p : ByteArray × Int} {W : World} (h : ResAt n0 p W) (o : Obj) : ResAt n0 p (W.alloc o) := ⟨h.1.alloc o, h.2.alloc o⟩
theorem ResAt.kept {n0 : Nat} {p : ByteArray × Int} {W W' : World} (h : ResAt n0 p W) {row : Option Nat} (hg : W.grownBy W' row) (h0 : some n0 ≠ row) (h1 : some (n0 + 1) ≠ row) : ResAt n0 p W' := ⟨h.1.kept hg h0, h.2.kept hg h1⟩
theorem ResAt.below {n0 : Nat} {p : ByteArray × Int} {W W' : World} (h : ResAt n0 p W) (hb : Below W.heap.size W W') : ResAt n0 p W' := ⟨(hb.block _ h.1.lt).trans h.1, (hb.block _ h.2.lt).trans h.2⟩
theorem ResAt.set {n0 : Nat} {p : ByteArray × Int} {W : World} (h : ResAt n0 p W) (a : ByteArray) (b : Int) : ResAt n0 (a, b) ((W.setCell ⟨n0, 0, none⟩ (.string a)).setCell ⟨n0 + 1, 0, none⟩ (.int .i64 b)) :=
 ⟨(Below.heap_setCell _ _ _ _ (by simp)).trans (h.1.set _), Boxed.set _ ((Below.heap_setCell _ _ _ _ (by simp)).trans h.2)⟩
theorem ResAt.start (w : World) : ResAt w.heap.size (⟨#[]⟩, 0) ((w.alloc (.cells #[.string ⟨#[]⟩] 9)).alloc (.cells #[.int .i64 0] 26)) :=
 ⟨(Boxed.new w _ _).alloc _, by have := Boxed.new (w.alloc (.cells #[.string ⟨#[]⟩] 9)) 26 (.int .i64 0); rwa [World.size_alloc] at this⟩
theorem start_below (w : World) (o1 o2 : Obj) : Below w.heap.size w ((w.alloc o1).alloc o2) := ((Below.refl _ _).alloc (Nat.le_refl _) _).alloc (by simp) _
theorem set_below {n0 : Nat} {w W : World} (h : Below n0 w W) (a b : Value) : Below n0 w ((W.setCell ⟨n0, 0, none⟩ a).setCell ⟨n0 + 1, 0, none⟩ b) := (h.setCell (p := ⟨n0, 0, none⟩) (Nat.le_refl _) _).setCell (p := ⟨n0 + 1, 0, none⟩) (Nat.le_succ _) _
def CleanEnd (s : ByteArray) (w : World) (e : Ending) (w' : World) : Prop := e = .returned (.tuple #[.string (cleanF s).1, .int .i64 (cleanF s).2]) ∧ Below w.heap.size w w'
theorem results_clean {n0 : Nat} {p : ByteArray × Int} {W : World} {fn : Func} (hf : fn.results = #[.cell 2 9, .cell 3 26]) {tmps : Array Value} (h2 : tmps[2]?.getD undef = .pointer (some ⟨n0, 0, none⟩)) (h3 : tmps[3]?.getD undef = .pointer (some ⟨n0 + 1, 0, none⟩)) (h : ResAt n0 p W) :
  (results fn tmps).run Tryz.prog W = .ok (.tuple #[.string p.1, .int .i64 p.2]) W := by
 have c1 := h.1.cell
 have c2 := h.2.cell
 simp [results, hf, go_sem, h2, h3, c1, c2]
set_option maxHeartbeats 1000000 in
theorem clean_text (s : ByteArray) (w : World) (hs : s.size ≤ 9223372036854775807) (hT : Tabs w) (h1 : rightB s = false) :
  Calls Tryz.prog 72 #[.string s] w (CleanEnd s w) := by
 have cR := fun W (hW : Tabs W) => right_calls s W hs hW
 have e1 : cleanF s = (⟨#[]⟩, 9) := by simp [cleanF, h1]
 rw [h1] at cR
 have E1 := Lib.hid e1
 have HT := Lib.hid hT
 clear e1 h1 hT
 go_enter Tryz.func72, Tryz.ntmps72
 go_wp2_with (go_at_call 74; refine (cR _ (HT.out.below (start_below _ _ _))).mono ?_; rintro e w' ⟨rfl, hb⟩; have hr := (ResAt.start w).below hb; have k1 := hr.1.cell; have k2 := hr.1.frozen; have k3 := hr.2.cell; have k4 := hr.2.frozen)
 refine bodyPost_ret (results_clean rfl rfl rfl (hr.set ⟨#[]⟩ 9)) rfl ⟨by rw [E1.out], set_below ((start_below _ _ _).trans (hb.mono (by simp; omega))) _ _⟩
set_option maxHeartbeats 1000000 in
theorem clean_root (s : ByteArray) (w : World) (hs : s.size ≤ 9223372036854775807) (hT : Tabs w) (h1 : rightB s = true) (h2 : Lib.hasPrefix s.data.toList [47] = true) :
  Calls Tryz.prog 72 #[.string s] w (CleanEnd s w) := by
 have cR := fun W (hW : Tabs W) => right_calls s W hs hW
 have cP := fun W => Tryz.strings_HasPrefix s ⟨#[47]⟩ W
 have e1 : cleanF s = (⟨#[]⟩, 6) := by simp [cleanF, h1, h2]
 rw [h1] at cR
 rw [show (⟨#[47]⟩ : ByteArray).data.toList = [47] from rfl, h2] at cP
 have E1 := Lib.hid e1
 have HT := Lib.hid hT
 clear e1 h1 h2 hT
 go_enter Tryz.func72, Tryz.ntmps72
 go_wp2_with (first | (go_at_call 74; refine (cR _ (HT.out.below (start_below _ _ _))).mono ?_; rintro e w' ⟨rfl, hb⟩; have hr := (ResAt.start w).below hb; have k1 := hr.1.cell; have k2 := hr.1.frozen; have k3 := hr.2.cell; have k4 := hr.2.frozen) | (go_at_call 89; refine (cP _).mono ?_; rintro e w2 ⟨rfl, rfl⟩))
 refine bodyPost_ret (results_clean rfl rfl rfl (hr.set ⟨#[]⟩ 6)) rfl ⟨by rw [E1.out], set_below ((start_below _ _ _).trans (hb.mono (by simp; omega))) _ _⟩
def CleanI (w : World) (P : Nat) (pre : List ByteArray) (W : World) : Prop :=
 pre.any isUp = false ∧ ResAt w.heap.size (⟨#[]⟩, 0) W ∧ (∃ v, Boxed W P 25 v ∧ W.ownsRow (P + 4) 9 1 v (partsOf pre).length ((partsOf pre).map Value.string)) ∧ Below w.heap.size w W ∧ P + 4 ≤ W.heap.size
def CleanIx (w : World) (c : Code) (pre : List ByteArray) (W : World) : Prop :=
 c = .ret ∧ (∃ p x, pre = p ++ [x] ∧ (x.toList == [46, 46]) = true) ∧ ResAt w.heap.size (⟨#[]⟩, 6) W ∧ Below w.heap.size w W
theorem CleanI.put {w : World} {P : Nat} {pre : List ByteArray} {W : World} {k : Nat} {o : Obj} (o' : Obj) (h : CleanI w P pre W) (hP : w.heap.size + 1 < P) (hk : P + 4 ≤ k) (ho : Book o) (hl : W.heap[k]? = some o) : CleanI w P pre (W.putObj k o') := by
 obtain ⟨h1, h2, ⟨v, h3, h4⟩, h5, h6⟩ := h
 exact ⟨h1, h2.kept (grownBy_putObj' W k o') (by simp; omega) (by simp; omega), ⟨v, h3.kept (grownBy_putObj' W k o') (by simp; omega), ownsRow_putObj h4 _ hl ho.1⟩, h5.grown (grownBy_putObj' W k o') h5.size (fun j e => by cases e; omega), by simpa using h6⟩
theorem CleanI.step {w : World} {P : Nat} {pre : List ByteArray} {W W' : World} (h : CleanI w P pre W) (hP : w.heap.size + 1 < P) (hk : SplitIt (P + 1) W W') : CleanI w P pre W' := by
 obtain ⟨u, rfl⟩ := hk
 obtain ⟨h1, h2, ⟨v, h3, h4⟩, h5, h6⟩ := h
 exact ⟨h1, h2.kept (grownBy_setCell' W _ _) (by simp; omega) (by simp; omega), ⟨v, h3.kept (grownBy_setCell' W _ _) (by simp), ownsRow_setCell_below h4 (a := ⟨P + 1, 0, none⟩) (by simp) _⟩, h5.setCell (p := ⟨P + 1, 0, none⟩) (by simp; omega) _, by simpa [World.setCell] using h6⟩
theorem CleanIx.put {w : World} {P : Nat} {c : Code} {pre : List ByteArray} {W : World} {k : Nat} {o : Obj} (o' : Obj) (h : CleanIx w c pre W) (hP : w.heap.size + 1 < P) (hk : P + 4 ≤ k) (ho : Book o) (hl : W.heap[k]? = some o) : CleanIx w c pre (W.putObj k o') := by
 obtain ⟨h1, h2, h3, h5⟩ := h
 exact ⟨h1, h2, h3.kept (grownBy_putObj' W k o') (by simp; omega) (by simp; omega), h5.grown (grownBy_putObj' W k o') h5.size (fun j e => by cases e; omega)⟩
theorem CleanIx.step {w : World} {P : Nat} {c : Code} {pre : List ByteArray} {W W' : World} (h : CleanIx w c pre W) (hP : w.heap.size + 1 < P) (hk : SplitIt (P + 1) W W') : CleanIx w c pre W' := by
 obtain ⟨u, rfl⟩ := hk
 obtain ⟨h1, h2, h3, h5⟩ := h
 exact ⟨h1, h2, h3.kept (grownBy_setCell' W _ _) (by simp; omega) (by simp; omega), h5.setCell (p := ⟨P + 1, 0, none⟩) (by simp; omega) _⟩
structure LoopStart (s : ByteArray) (w : World) (P : Nat) (W : World) : Prop where
 sz : W.heap.size = P + 4
 lt : w.heap.size + 1 < P
 res : ResAt w.heap.size (⟨#[]⟩, 0) W
 box : Boxed W P 25 (.slice none 0 0)
 cells : SplitCells (P + 1 + 1) (P + 1) (P + 1 + 2) s W
 bel : Below w.heap.size w W
theorem LoopStart.mk' {s : ByteArray} {w w2 : World} (hb : Below ((w.alloc (.cells #[.string ⟨#[]⟩] 9)).alloc (.cells #[.int .i64 0] 26)).heap.size ((w.alloc (.cells #[.string ⟨#[]⟩] 9)).alloc (.cells #[.int .i64 0] 26)) w2) :
  LoopStart s w w2.heap.size ((((w2.alloc (.cells #[.slice none 0 0] 25)).alloc (.cells #[.string s] 9)).alloc (.cells #[.string ⟨#[47]⟩] 9)).alloc (.cells #[.int .i64 0] 3)) := by
 have hs := hb.size
 simp at hs
 have c2 := Boxed.new (w2.alloc (.cells #[.slice none 0 0] 25)) 9 (.string s)
 rw [World.size_alloc] at c2
 have c3 := Boxed.new ((w2.alloc (.cells #[.slice none 0 0] 25)).alloc (.cells #[.string s] 9)) 9 (.string ⟨#[47]⟩)
 rw [World.size_alloc, World.size_alloc] at c3
 have c4 := Boxed.new (((w2.alloc (.cells #[.slice none 0 0] 25)).alloc (.cells #[.string s] 9)).alloc (.cells #[.string ⟨#[47]⟩] 9)) 3 (.int .i64 0)
 rw [World.size_alloc, World.size_alloc, World.size_alloc] at c4
 exact ⟨by simp, by omega, ((((ResAt.start w).below hb).alloc _).alloc _ |>.alloc _).alloc _, (((Boxed.new w2 _ _).alloc _).alloc _).alloc _, ⟨(c2.alloc _).alloc _, c3.alloc _, c4⟩,
  (((((start_below _ _ _).trans (hb.mono (by simp; omega))).alloc (by omega) _).alloc (by simp; omega) _).alloc (by simp; omega) _).alloc (by simp; omega) _⟩
theorem appended {W w1 : World} {P k m : Nat} {v v' : Value} {xs ys : List Value} {tmp : Obj} (hv : Boxed W P 25 v) (hrow : W.ownsRow (P + 4) 9 1 v k xs) (hsz : P + 4 ≤ W.heap.size)
  (hown : w1.ownsRow (P + 4) 9 1 v' m ys) (hgrow : (W.alloc tmp).grownBy w1 v.ownBlock) :
  Boxed w1 P 25 v ∧ Boxed (w1.setCell ⟨P, 0, none⟩ v') P 25 v' ∧ (w1.setCell ⟨P, 0, none⟩ v').ownsRow (P + 4) 9 1 v' m ys ∧
   (∀ j o, W.heap[j]? = some o → j ≠ P → some j ≠ v.ownBlock → (w1.setCell ⟨P, 0, none⟩ v').heap[j]? = some o) ∧
   (∀ n0 w, n0 ≤ P → Below n0 w W → Below n0 w (w1.setCell ⟨P, 0, none⟩ v')) ∧ P + 4 ≤ (w1.setCell ⟨P, 0, none⟩ v').heap.size := by
 have hv1 : Boxed w1 P 25 v := (hv.alloc tmp).kept hgrow (hv.not_row (by decide) hrow)
 have hb : ∀ j, v.ownBlock = some j → P + 4 ≤ j := by
  intro j hj
  rcases hrow.2 with ⟨rfl, _⟩ | ⟨g, cap, cur, rfl, h, _⟩
  ·simp [Value.ownBlock] at hj
  ·obtain rfl : g = j := by simpa [Value.ownBlock] using hj
   exact h
 refine ⟨hv1, hv1.set v', hown.kept (grownBy_setCell' w1 P v') (.inr (hv1.not_row (by decide) hown).symm), fun j o hj h1 h2 => ?_, fun n0 w hn hB => ?_, ?_⟩
 ·have hlt := (Array.getElem?_eq_some_iff.1 hj).1
  exact (Below.heap_setCell _ _ _ _ h1).trans ((hgrow.block j (by simp; omega) h2).trans ((Below.heap_alloc W tmp j hlt).trans hj))
 ·exact ((hB.alloc (Nat.le_trans hn (by omega)) tmp).grown hgrow (by simp; omega) (fun j e => by have := hb j e; omega)).setCell (p := ⟨P, 0, none⟩) hn _
 ·have := hgrow.size
  simp at this
  simp [World.setCell]
  omega
theorem own_not_book {W : World} {base size k j : Nat} {e : TypeId} {v : Value} {xs : List Value} {o : Obj} (hrow : W.ownsRow base e size v k xs) (hj : W.heap[j]? = some o) (ho : o.isCells = false) : some j ≠ v.ownBlock := by
 rcases hrow.2 with ⟨rfl, _⟩ | ⟨g, cap, cur, rfl, _, hg, _⟩
 ·simp [Value.ownBlock]
 ·intro e'
  obtain rfl : j = g := by simpa [Value.ownBlock] using e'
  rw [hj] at hg; cases hg; cases ho
theorem own_not_low {W : World} {base size k j : Nat} {e : TypeId} {v : Value} {xs : List Value} (hrow : W.ownsRow base e size v k xs) (hj : j < base) : some j ≠ v.ownBlock := by
 rcases hrow.2 with ⟨rfl, _⟩ | ⟨g, cap, cur, rfl, hb, _⟩
 ·simp [Value.ownBlock]
 ·intro e'
  obtain rfl : j = g := by simpa [Value.ownBlock] using e'
  omega
theorem parts_bound {pre : List ByteArray} {s : ByteArray} (h : (partsOf pre).length ≤ s.size + 1) (hs : s.size ≤ 8000000000000) : (partsOf pre).length + 1 ≤ 9223372036854775807 ∧ ((partsOf pre).length + 1) * 16 ≤ 140737488355328 := by omega
theorem join_own {W : World} {base : Nat} {v : Value} {s : ByteArray} (hrow : W.ownsRow base 9 1 v (partsOf (splitS s)).length ((partsOf (splitS s)).map Value.string)) (_hb : base ≤ W.heap.size) (hs : s.size ≤ 8000000000000) :
  Calls Tryz.prog 91 #[v, .string ⟨#[47]⟩] W fun e W' => e = .returned (.string (outOf s)) ∧ Below W.heap.size W W' := by
 have hl := out_len s
 have hn := parts_len s
 by_cases h0 : partsOf (splitS s) = []
 ·have ho : outOf s = ⟨#[]⟩ := by simp [outOf, h0, Lib.join]
  rw [ho]
  rcases hrow.2 with ⟨rfl, _⟩ | ⟨g, cap, cur, rfl, _⟩
  ·refine (Tryz.strings_Join_none _ _ _ W).mono ?_
   rintro e w' ⟨rfl, rfl⟩
   exact ⟨rfl, Below.refl _ _⟩
  ·rw [h0]
   refine (Tryz.strings_Join_none _ _ _ W).mono ?_
   rintro e w' ⟨rfl, rfl⟩
   exact ⟨rfl, Below.refl _ _⟩
 ·have hp : 0 < (partsOf (splitS s)).length := List.length_pos_iff.2 h0
  have hc := fun g hg => hrow.cells (g := g) hg
  rcases hrow.2 with ⟨_, h1⟩ | ⟨g, cap, cur, rfl, _, hg, hnc, _⟩
  ·omega
  ·refine (Tryz.strings_Join g 0 cap (partsOf (splitS s)) ⟨#[47]⟩ W ?_ (Array.getElem?_eq_some_iff.1 hg).1 (by omega) hnc ?_).mono ?_
   ·intro j x hx
    have := hc g (by simp [Value.ownBlock]) j (.string x) (by simp [hx])
    rwa [show (⟨g, 0, none⟩ : Addr).add j = ⟨g, 0 + j, none⟩ from by unfold Addr.add; split <;> simp_all] at this
   ·show (Lib.join _ [47]).length ≤ _
    omega
   ·rintro e w' ⟨rfl, hb⟩
    exact ⟨rfl, hb⟩
set_option maxRecDepth 100000 in
set_option maxHeartbeats 1000000 in
theorem clean_loop (s : ByteArray) (w : World) (hs : s.size ≤ 8000000000000) (hT : Tabs w) (h1 : rightB s = true) (h2 : Lib.hasPrefix s.data.toList [47] = false) :
  Calls Tryz.prog 72 #[.string s] w (CleanEnd s w) := by
 refine (callsIn_wide (n := 3)).1 ?_
 have cR := fun W (hW : Tabs W) => right_calls s W (by omega) hW
 have cP := fun W => Tryz.strings_HasPrefix s ⟨#[47]⟩ W
 rw [h1] at cR
 rw [show (⟨#[47]⟩ : ByteArray).data.toList = [47] from rfl, h2] at cP
 have H1 := Lib.hid h1
 have H2 := Lib.hid h2
 have HT := Lib.hid hT
 obtain ⟨i0, hi, hz0, hz1, hz2⟩ := info_parts infoStr
 clear h1 h2 hT
 refine callsIn_of_wp_marks Tryz.func72 rfl trivial ?_ rfl
 simp only [Tryz.ntmps72, List.size_toArray, List.length_cons, List.length_nil, Nat.reduceAdd, Nat.reduceSub, Array.replicate_succ, Array.replicate_zero, List.push_toArray, List.append_toArray, List.nil_append, List.cons_append]
 gi_wp2_with (first | (refine ⟨trivial, ?_⟩; gi_at_call 74; refine (callsIn_wide.2 (cR _ (HT.out.below (start_below _ _ _)))).mono ?_; rintro e w' ⟨rfl, hb⟩; have hr := (ResAt.start w).below hb) | (refine ⟨trivial, ?_⟩; gi_at_call 89; refine (callsIn_wide.2 (cP _)).mono ?_; rintro e w2 ⟨rfl, rfl⟩) | (refine ⟨trivial, ?_⟩; gi_at_call 90; refine (callsIn_wide.2 (SplitSeq_calls s _)).mono ?_; rintro e w3 ⟨rfl, rfl⟩))
 have hL := LoopStart.mk' (s := s) hb
 generalize hWl : ((((w2.alloc (.cells #[.slice none 0 0] 25)).alloc (.cells #[.string s] 9)).alloc (.cells #[.string ⟨#[47]⟩] 9)).alloc (.cells #[.int .i64 0] 3)) = Wl at hL ⊢
 clear hWl hr hb cP cR
 generalize w2.heap.size = P at hL ⊢
 refine wpIn_range_own rfl (by omega) (gf := 110) (lb := #[.pointer (some ⟨P + 1 + 1, 0, none⟩), .pointer (some ⟨P + 1, 0, none⟩), .pointer (some ⟨P + 1 + 2, 0, none⟩)]) rfl trivial (enters_of Tryz.func110 (by kernel_rfl) rfl)
  (split_gives 2 Wl.heap.size (P + 1 + 1) (P + 1) (P + 1 + 2) s Wl (by omega) (by omega) (by omega) (by rw [hL.sz]; omega) (by rw [hL.sz]; omega) (by rw [hL.sz]; omega) (by omega) hL.cells) (fun _ => rfl)
  (fun A A' k o hi hk ho hl => by
   obtain ⟨u, rfl⟩ := hi
   have := hL.sz
   exact (Below.heap_setCell _ _ _ _ (by simp; omega)).trans hl)
  (fun h k => ⟨k.1.trans h.1, k.2.1.trans h.2.1, k.2.2.trans h.2.2⟩)
  (fun A k o' hk => by
   have := hL.sz
   exact ⟨World.putObj_heap_other (by omega), World.putObj_heap_other (by omega), World.putObj_heap_other (by omega)⟩)
  (CleanI w P) (CleanIx w)
  (fun pre A k o o' h hk ho hl => h.put o' hL.lt (by have := hL.sz; omega) ho hl) (fun c pre A k o o' h hk ho hl => h.put o' hL.lt (by have := hL.sz; omega) ho hl)
  (fun pre A A' h hi => h.step hL.lt hi) (fun c pre A A' h hi => h.step hL.lt hi)
  (fun o1 o2 => ⟨rfl, (hL.res.alloc _).alloc _, ⟨_, (hL.box.alloc _).alloc _, World.ownsRow_nil _ _ _ _⟩, (hL.bel.alloc hL.bel.size _).alloc (by have := hL.bel.size; simp; omega) _, by have := hL.sz; simp; omega⟩)
  (fun x => { tmps := #[.string s, undef, .pointer (some ⟨w.heap.size, 0, none⟩), .pointer (some ⟨w.heap.size + 1, 0, none⟩), .pointer (some ⟨P, 0, none⟩), .string x, undef, .bool false, .string s, .bool true, .bool false, .bool false, .string s, .bool false, .string s,
     .func (.func 110) #[] #[.pointer (some ⟨P + 1 + 1, 0, none⟩), .pointer (some ⟨P + 1, 0, none⟩), .pointer (some ⟨P + 1 + 2, 0, none⟩)],
     .string x, undef, undef, undef, undef, undef, undef, undef, undef, undef, undef, undef, undef, undef, undef, undef, undef, undef, undef, undef, undef], defers := [] }) ?assign ?body ?done ?stop
 case assign =>
  intro l x W K hK
  gi_wp2
  exact hK
 case body =>
  rintro l rec pre x W ⟨h1, hr, ⟨v, hv, hrow⟩, hB, hsz⟩ hpx hl hd hl2 hk2
  have hlt := hL.lt
  have hLs := hL.sz
  have cv := hv.cell
  have k1 := hr.1.cell
  have k2 := hr.1.frozen
  have k3 := hr.2.cell
  have k4 := hr.2.frozen
  by_cases hup : (x.toList == [46, 46]) = true
  ·have HL2 := Lib.hid hl2
   have HK2 := Lib.hid hk2
   clear hl2 hk2 hLs
   gi_wp2
   have HLs := hL.sz
   exact ⟨⟨(Below.heap_setCell _ _ _ _ (by simp; omega)).trans ((Below.heap_setCell _ _ _ _ (by simp; omega)).trans HL2.out), (Below.heap_setCell _ _ _ _ (by simp; omega)).trans ((Below.heap_setCell _ _ _ _ (by simp; omega)).trans HK2.out)⟩, rfl, ⟨pre, x, rfl, hup⟩, hr.set _ _, set_below hB _ _⟩
  ·have hup' : (x.toList == [46, 46]) = false := by simpa using hup
   clear hup
   by_cases he : (x.toList == []) = true
   ·have HL2 := Lib.hid hl2
    have HK2 := Lib.hid hk2
    clear hl2 hk2 hLs
    gi_wp2
    exact ⟨⟨HL2.out, HK2.out⟩, ⟨rfl, rfl, rfl⟩, any_snoc h1 hup', hr, ⟨v, hv, by rw [partsOf_miss (.inl he)]; exact hrow⟩, hB, hsz⟩
   ·have he' : (x.toList == []) = false := by simpa using he
    clear he
    by_cases hd1 : (x.toList == [46]) = true
    ·have HL2 := Lib.hid hl2
     have HK2 := Lib.hid hk2
     clear hl2 hk2 hLs
     gi_wp2
     exact ⟨⟨HL2.out, HK2.out⟩, ⟨rfl, rfl, rfl⟩, any_snoc h1 hup', hr, ⟨v, hv, by rw [partsOf_miss (.inr hd1)]; exact hrow⟩, hB, hsz⟩
    ·have hd1' : (x.toList == [46]) = false := by simpa using hd1
     clear hd1
     have HL2 := Lib.hid hl2
     have HK2 := Lib.hid hk2
     obtain ⟨b1, b2⟩ := parts_bound (prefix_len ((List.prefix_append pre [x]).trans hpx)) hs
     clear hl2 hk2 hLs hpx
     gi_wp2_with (gi_at_builtin; refine wpListIn_append_own _ rfl _ _ 25 rfl (P + 4) 9 i0 (.string ⟨#[]⟩) 1 16 Tryz.underlying25 hi hz0 hz1 hz2 rfl (by decide) _ _ _ rfl (hrow.alloc _) ⟨W.heap.size, 0, none⟩ 1 1 [.string x] rfl rfl (cell_one_new _ _ _) (by simp [Value.oneCell']) (by unfold maxLen; omega) (by omega) (by simp; omega) ?_; intro v' w1 hown' hgrow _; obtain ⟨g', cap', rfl⟩ := ownsRow_succ hown'; obtain ⟨hv1, hv2, hr2, hk2, hb2, hz2⟩ := appended hv hrow hsz hown' hgrow; have hc1 := hv1.cell; have hf1 := hv1.frozen)
     have low : ∀ j o, W.heap[j]? = some o → j < P + 4 → j ≠ P → (w1.setCell ⟨P, 0, none⟩ (.slice (some ⟨g', 0, none⟩) ((partsOf pre).length + 1) cap')).heap[j]? = some o := fun j o hj h4 h5 => hk2 j o hj h5 (own_not_low hrow h4)
     have kept : ∀ j, j < P + 4 → j ≠ P → (w1.setCell ⟨P, 0, none⟩ (.slice (some ⟨g', 0, none⟩) ((partsOf pre).length + 1) cap')).heap[j]? = W.heap[j]? := fun j h4 h5 => by
      have hj : j < W.heap.size := by omega
      rw [Array.getElem?_eq_getElem hj]
      exact low j _ (Array.getElem?_eq_getElem hj) h4 h5
     have HLs := hL.sz
     exact ⟨⟨hk2 _ _ HL2.out (by omega) (own_not_book hrow HL2.out rfl), hk2 _ _ HK2.out (by omega) (own_not_book hrow HK2.out rfl)⟩,
      ⟨kept _ (by omega) (by omega), kept _ (by omega) (by omega), kept _ (by omega) (by omega)⟩, any_snoc h1 hup', ⟨low _ _ hr.1 (by omega) (by omega), low _ _ hr.2 (by omega) (by omega)⟩,
      ⟨_, hv2, by rw [partsOf_hit he' hd1']; simpa using hr2⟩, hb2 _ _ (by omega) hB, hz2⟩
 case done =>
  rintro D ys W hD rfl ⟨h1, hr, ⟨v, hv, hrow⟩, hB, hsz⟩ hK
  have hlt := hL.lt
  have hLs := hL.sz
  have cv := hv.cell
  have cJ : CallsIn Fence.wide (3 - 1) Tryz.prog 91 #[v, .string ⟨#[47]⟩] W fun e W' => e = .returned (.string (outOf s)) ∧ Below W.heap.size W W' := callsIn_wide.2 (join_own hrow (by omega) hs)
  have fin : ∀ (w4 : World), Below W.heap.size W w4 → ∀ (p : ByteArray × Int) (w5 : World), w5 = ((w4.setCell ⟨w.heap.size, 0, none⟩ (.string p.1)).setCell ⟨w.heap.size + 1, 0, none⟩ (.int .i64 p.2)) →
    w5.heap[D]? = some (.deferred (some [])) ∧ ResAt w.heap.size p (w5.putObj D (.deferred none)) ∧ Below w.heap.size w (w5.putObj D (.deferred none)) := by
   rintro w4 hb4 p w5 rfl
   have hD4 : w4.heap[D]? = some (.deferred (some [])) := (hb4.block _ (Array.getElem?_eq_some_iff.1 hK).1).trans hK
   have hB5 := set_below (hB.trans (hb4.mono hB.size)) (.string p.1) (.int .i64 p.2)
   refine ⟨(Below.heap_setCell _ _ _ _ (by simp; omega)).trans ((Below.heap_setCell _ _ _ _ (by simp; omega)).trans hD4), ((hr.below hb4).set p.1 p.2).kept (grownBy_putObj' _ D _) (by simp; omega) (by simp; omega), ?_⟩
   exact hB5.grown (grownBy_putObj' _ D _) hB5.size (fun j e => by cases e; omega)
  have Fin := Lib.hid fin
  clear fin hrow
  have hcl : cleanF s = if (outOf s).toList == [] || decide (200 < (outOf s).size) then (⟨#[]⟩, 6) else (outOf s, 0) := by simp [cleanF, H1.out, H2.out, h1]
  generalize outOf s = O at cJ hcl
  by_cases ho : (O.toList == []) = true
  ·have E1 := Lib.hid (show cleanF s = (⟨#[]⟩, 6) by rw [hcl]; simp [ho])
   clear hcl
   gi_wp2_with (refine ⟨trivial, ?_⟩; gi_at_call 91; refine cJ.mono ?_; rintro e w4 ⟨rfl, hb4⟩; have hr4 := hr.below hb4; have k1 := hr4.1.cell; have k2 := hr4.1.frozen; have k3 := hr4.2.cell; have k4 := hr4.2.frozen)
   have F1 := Fin.out w4 hb4 (⟨#[]⟩, 6) _ rfl
   exact ⟨by simp, .inl ⟨_, _, rfl, run_takeDeferred F1.1, ⟨_, results_clean rfl rfl rfl F1.2.1, by rw [E1.out], F1.2.2⟩⟩⟩
  ·have ho' : (O.toList == []) = false := by simpa using ho
   clear ho
   by_cases h200 : (200 : Int) < (O.size : Int)
   ·have E1 := Lib.hid (show cleanF s = (⟨#[]⟩, 6) by rw [hcl, decide_eq_true (by omega : 200 < O.size)]; simp)
    clear hcl
    gi_wp2_with (refine ⟨trivial, ?_⟩; gi_at_call 91; refine cJ.mono ?_; rintro e w4 ⟨rfl, hb4⟩; have hr4 := hr.below hb4; have k1 := hr4.1.cell; have k2 := hr4.1.frozen; have k3 := hr4.2.cell; have k4 := hr4.2.frozen)
    have F1 := Fin.out w4 hb4 (⟨#[]⟩, 6) _ rfl
    exact ⟨by simp, .inl ⟨_, _, rfl, run_takeDeferred F1.1, ⟨_, results_clean rfl rfl rfl F1.2.1, by rw [E1.out], F1.2.2⟩⟩⟩
   ·have E1 := Lib.hid (show cleanF s = (O, 0) by rw [hcl, ho', decide_eq_false (by omega : ¬ 200 < O.size)]; simp)
    clear hcl
    gi_wp2_with (refine ⟨trivial, ?_⟩; gi_at_call 91; refine cJ.mono ?_; rintro e w4 ⟨rfl, hb4⟩; have hr4 := hr.below hb4; have k1 := hr4.1.cell; have k2 := hr4.1.frozen; have k3 := hr4.2.cell; have k4 := hr4.2.frozen)
    have F1 := Fin.out w4 hb4 (O, 0) _ rfl
    exact ⟨by simp, .inl ⟨_, _, rfl, run_takeDeferred F1.1, ⟨_, results_clean rfl rfl rfl F1.2.1, by rw [E1.out], F1.2.2⟩⟩⟩
 case stop =>
  rintro D c pre W hD hsp ⟨rfl, ⟨p, x, rfl, hup⟩, hr, hB⟩ hK
  have e1 : cleanF s = (⟨#[]⟩, 6) := by simp [cleanF, H1.out, H2.out, any_prefix hsp hup]
  have E1 := Lib.hid e1
  have hlt := hL.lt
  have hLs := hL.sz
  clear e1
  gi_wp2
  refine ⟨by simp, .inl ⟨_, _, rfl, run_takeDeferred hK, ?_⟩⟩
  have hr' : ResAt w.heap.size (⟨#[]⟩, 6) (W.putObj D (.deferred none)) := hr.kept (grownBy_putObj' W D _) (by simp; omega) (by simp; omega)
  exact ⟨_, results_clean rfl rfl rfl hr', by rw [E1.out], hB.grown (grownBy_putObj' W D _) hB.size (fun j e => by cases e; omega)⟩
theorem Clean_calls (s : ByteArray) (w : World) (hs : s.size ≤ 8000000000000) (hT : Tabs w) : Calls Tryz.prog 72 #[.string s] w (CleanEnd s w) := by
 cases h1 : rightB s with
 | false => exact clean_text s w (by omega) hT h1
 | true =>
  cases h2 : Lib.hasPrefix s.data.toList [47] with
  | true => exact clean_root s w (by omega) hT h1 h2
  | false => exact clean_loop s w hs hT h1 h2
end Go.Proofs.YtbngbefchobfnaaGreatDoor

namespace Go.Proofs.YtbngbefchobfnaaGreatDoor.Print
open Go.RowKit Go.Proofs.YtbngbefchobfnaaGreatDoorW.PrintWords
def path_right.f (a0 : ByteArray) : Option (Bool) := if a0.size ≤ 8000000000000 then some (rightB a0) else none
theorem path_right.calls (a0 : ByteArray) (r : Bool) (w : World) (hT : Aside0 (Tabs w)) (h : path_right.f a0 = some r) :
  Calls Tryz.prog 74 #[.string a0] w fun e w' => e = .returned (.bool r) ∧ Below w.heap.size w w' := by
 unfold path_right.f at h
 split at h
 ·cases h
  exact right_calls a0 w (by omega) hT.out
 ·cases h
def path_Clean.f (a0 : ByteArray) : Option (ByteArray × Int) := if a0.size ≤ 8000000000000 then some (cleanF a0) else none
theorem path_Clean.calls (a0 : ByteArray) (r1 : ByteArray) (r2 : Int) (w : World) (hT : Aside0 (Tabs w)) (h : path_Clean.f a0 = some (r1, r2)) :
  Calls Tryz.prog 72 #[.string a0] w fun e w' => e = .returned (.tuple #[.string r1, .int .i64 r2]) ∧ Below w.heap.size w w' := by
 unfold path_Clean.f at h
 split at h
 ·refine (Clean_calls a0 w (by omega) hT.out).mono ?_
  rintro e w' ⟨he, hb⟩
  refine ⟨?_, hb⟩
  rw [he]
  simp only [Option.some.injEq] at h
  rw [h]
 ·cases h
end Go.Proofs.YtbngbefchobfnaaGreatDoor.Print
