/- Facts on the program of this seat, by the kernel; there are no conditions. -/
import Derived.Test.YtkbielcbkpglhaaGreatDoorE5
import Derived.Test.YtkbielcbkpglhaaGreatDoorProg
import Derived.Test.YtkbielcbkpglhaaGreatDoorE6
namespace Go.Proofs
open Go.Shelf
/-! ### The contracts of Go's library that are laid by hand -/
def Tryz.lays240_ren : Ren where
  f := fun x => match x with | 240 => 271 | 276 => 324 | n => n
  t := fun x => match x with | 0 => 0 | 4 => 4 | 9 => 9 | 20 => 20 | 70 => 147 | 72 => 149 | 164 => 316 | 37 => 63 | n => n
  g := fun n => n
theorem Tryz.lays240 : Lays.n240 Tryz.prog Tryz.lays240_ren :=
{ mixed := Eq.refl true, f240 := Eq.trans Tryz.func271 (congrArg some (by kernel_rfl)), f276 := Eq.trans Tryz.func324 (congrArg some (by kernel_rfl)),
  t0 := Tryz.underlying0, a0 := Tryz.isAgg0, z0 := Tryz.sizeOf0, v0 := Tryz.zeroValue0, t4 := Tryz.underlying4, a4 := Tryz.isAgg4, z4 := Tryz.sizeOf4, v4 := Tryz.zeroValue4, t9 := Tryz.underlying9, a9 := Tryz.isAgg9, z9 := Tryz.sizeOf9, v9 := Tryz.zeroValue9, t20 := Tryz.underlying20, a20 := Tryz.isAgg20, z20 := Tryz.sizeOf20, v20 := Tryz.zeroValue20, t70 := Tryz.underlying147, a70 := Tryz.isAgg147, z70 := Tryz.sizeOf147, v70 := Tryz.zeroValue147, t72 := Tryz.underlying149, a72 := Tryz.isAgg149, z72 := Tryz.sizeOf149, v72 := Tryz.zeroValue149, t164 := Tryz.underlying316, a164 := Tryz.isAgg316, z164 := Tryz.sizeOf316, v164 := Tryz.zeroValue316 }
theorem Tryz.Builder_X72_240 : Builder.X72 Tryz.prog Tryz.lays240_ren where
  sizeBuilder := by kernel_rfl
  liesBuilder := by kernel_rfl
def Tryz.lays169_ren : Ren where
  f := fun x => match x with | 169 => 104 | n => n
  t := fun x => match x with | 0 => 0 | 3 => 3 | 9 => 9 | 37 => 63 | 70 => 147 | 72 => 149 | 127 => 231 | 5 => 5 | n => n
  g := fun n => n
theorem Tryz.lays169 : Lays.n169 Tryz.prog Tryz.lays169_ren :=
{ mixed := Eq.refl true, f169 := Eq.trans Tryz.func104 (congrArg some (by kernel_rfl)),
  t0 := Tryz.underlying0, a0 := Tryz.isAgg0, z0 := Tryz.sizeOf0, v0 := Tryz.zeroValue0, t3 := Tryz.underlying3, a3 := Tryz.isAgg3, z3 := Tryz.sizeOf3, v3 := Tryz.zeroValue3, t9 := Tryz.underlying9, a9 := Tryz.isAgg9, z9 := Tryz.sizeOf9, v9 := Tryz.zeroValue9, t37 := Tryz.underlying63, a37 := Tryz.isAgg63, z37 := Tryz.sizeOf63, v37 := Tryz.zeroValue63, t70 := Tryz.underlying147, a70 := Tryz.isAgg147, z70 := Tryz.sizeOf147, v70 := Tryz.zeroValue147, t72 := Tryz.underlying149, a72 := Tryz.isAgg149, z72 := Tryz.sizeOf149, v72 := Tryz.zeroValue149, t127 := Tryz.underlying231, a127 := Tryz.isAgg231, z127 := Tryz.sizeOf231, v127 := Tryz.zeroValue231 }
theorem Tryz.Builder_Extra_169 : Builder.Extra Tryz.prog Tryz.lays169_ren where
  sizeBuilder := by kernel_rfl
  liesBuilder := by kernel_rfl
  t5 := Tryz.underlying5
  a5 := Tryz.isAgg5
  z5 := Tryz.sizeOf5
  v5 := Tryz.zeroValue5
  infoByte := by kernel_rfl
  cellsByte := by kernel_rfl
  sizeByte := by kernel_rfl
  neB5 := by decide
def Tryz.lays219_ren : Ren where
  f := fun x => match x with | 217 => 189 | 219 => 185 | 224 => 278 | 225 => 277 | 266 => 281 | 267 => 279 | 314 => 327 | n => n
  t := fun x => match x with | 3 => 3 | 4 => 4 | 5 => 5 | 9 => 9 | 46 => 206 | 51 => 289 | 146 => 318 | n => n
  g := fun x => match x with | 1 => 0 | n => n
theorem Tryz.lays219 : Lays.n219 Tryz.prog Tryz.lays219_ren :=
{ mixed := Eq.refl true, f217 := Eq.trans Tryz.func189 (congrArg some (by kernel_rfl)), f219 := Eq.trans Tryz.func185 (congrArg some (by kernel_rfl)), f224 := Eq.trans Tryz.func278 (congrArg some (by kernel_rfl)), f225 := Eq.trans Tryz.func277 (congrArg some (by kernel_rfl)), f266 := Eq.trans Tryz.func281 (congrArg some (by kernel_rfl)), f267 := Eq.trans Tryz.func279 (congrArg some (by kernel_rfl)), f314 := Eq.trans Tryz.func327 (congrArg some (by kernel_rfl)),
  t3 := Tryz.underlying3, a3 := Tryz.isAgg3, z3 := Tryz.sizeOf3, v3 := Tryz.zeroValue3, t4 := Tryz.underlying4, a4 := Tryz.isAgg4, z4 := Tryz.sizeOf4, v4 := Tryz.zeroValue4, t5 := Tryz.underlying5, a5 := Tryz.isAgg5, z5 := Tryz.sizeOf5, v5 := Tryz.zeroValue5, t9 := Tryz.underlying9, a9 := Tryz.isAgg9, z9 := Tryz.sizeOf9, v9 := Tryz.zeroValue9, t46 := Tryz.underlying206, a46 := Tryz.isAgg206, z46 := Tryz.sizeOf206, v46 := Tryz.zeroValue206, t51 := Tryz.underlying289, a51 := Tryz.isAgg289, z51 := Tryz.sizeOf289, v51 := Tryz.zeroValue289, t146 := Tryz.underlying318, a146 := Tryz.isAgg318, z146 := Tryz.sizeOf318, v146 := Tryz.zeroValue318, g1 := by kernel_rfl }
/-! ### The evaluator of this program -/
open Go.Ev in
noncomputable def Tryz.E0 : Env where
  P := Tryz.prog
  prim := fun f => if f = 185 then some (primIndex 0) else if f = 271 then some (primCheck 149) else if f = 104 then some (primString 149 5) else none
theorem Tryz.mixed : Tryz.E0.P.follows .mixedOrders = true := Eq.refl true
def noNumB (P : Program) : Bool := P.funcs.toList.all fun fn => !(fn.name == "runtime.NumGoroutine")
theorem noNum_of {P : Program} (h : noNumB P = true) : Go.Ev.NoNum P := fun f fn hf hn => by
  unfold noNumB at h
  rw [List.all_eq_true] at h
  have := h fn (by rw [Array.mem_toList_iff]; exact Array.mem_of_getElem? hf)
  simp [hn] at this
theorem Tryz.noNum : Go.Ev.NoNum Tryz.prog := noNum_of (by kernel_rfl)
open Go.Ev in
theorem Tryz.prims0 : PrimsOk Tryz.E0 := by
  intro f p hp F φ st w args vs r st' hR ha h
  simp only [Tryz.E0] at hp
  split at hp
  · rename_i hf
    simp only [Option.some.injEq] at hp; subst hp hf
    exact primIndex_ok (P := Tryz.prog) (by decide) (fun s sub m w hs hm => Any.stringslite_Index Tryz.lays219 s sub m w hs hm) hR ha h
  · split at hp
    · rename_i _ hf
      simp only [Option.some.injEq] at hp; subst hp hf
      exact primCheck_ok (P := Tryz.prog) (fun b w h0 => Any.Builder_copyCheck_used Tryz.lays240 Tryz.Builder_X72_240 b w h0) (fun b w h0 h1 h2 => Any.Builder_copyCheck_fresh Tryz.lays240 Tryz.Builder_X72_240 b w h0 h1 h2) hR ha h
    · split at hp
      · rename_i _ _ hf
        simp only [Option.some.injEq] at hp; subst hp hf
        exact primString_ok (P := Tryz.prog) (by kernel_rfl) (fun b g cap size l w h1 h2 h3 h4 h5 h6 h7 => Any.ev_Builder_String Tryz.lays169 Tryz.Builder_Extra_169 b g cap size l w h1 h2 h3 h4 h5 h6 h7) hR ha h
      · simp at hp
namespace Tryz
open Go.Ev
theorem globalsSize : Tryz.prog.globals.size = 7 := by kernel_rfl
end Tryz
end Go.Proofs
namespace Go.Proofs
namespace Tryz
open Go.Ev
noncomputable def E1 : Env where
  P := Tryz.prog
  prim := fun f => if f = 77 then some (primTrue 0) else Tryz.E0.prim f
/-- The evaluator of the laws: the check is a step. -/
noncomputable def E : Env where
  P := Tryz.prog
  prim := fun f => if f = 20 then some (primTrue 0) else Tryz.E1.prim f
end Tryz
end Go.Proofs
set_option linter.unusedVariables false
namespace Go.Proofs.Tryz
open Go.Ev
@[simp] theorem u3 : Tryz.E.P.underlying 3 = some (.int .i64) := by kernel_rfl
@[simp] theorem ag3 : isAggA Tryz.E.P 3 = some false := by kernel_rfl
@[simp] theorem sz3 : sizeA Tryz.E.P 3 = some 1 := by kernel_rfl
@[simp] theorem z3 : zeroA Tryz.E.P 3 = some (.int .i64 0) := by kernel_rfl
@[simp] theorem u4 : Tryz.E.P.underlying 4 = some (.bool) := by kernel_rfl
@[simp] theorem ag4 : isAggA Tryz.E.P 4 = some false := by kernel_rfl
@[simp] theorem sz4 : sizeA Tryz.E.P 4 = some 1 := by kernel_rfl
@[simp] theorem z4 : zeroA Tryz.E.P 4 = some (.bool false) := by kernel_rfl
@[simp] theorem u5 : Tryz.E.P.underlying 5 = some (.int .u8) := by kernel_rfl
@[simp] theorem ag5 : isAggA Tryz.E.P 5 = some false := by kernel_rfl
@[simp] theorem sz5 : sizeA Tryz.E.P 5 = some 1 := by kernel_rfl
@[simp] theorem z5 : zeroA Tryz.E.P 5 = some (.int .u8 0) := by kernel_rfl
@[simp] theorem u9 : Tryz.E.P.underlying 9 = some (.string) := by kernel_rfl
@[simp] theorem ag9 : isAggA Tryz.E.P 9 = some false := by kernel_rfl
@[simp] theorem sz9 : sizeA Tryz.E.P 9 = some 1 := by kernel_rfl
@[simp] theorem z9 : zeroA Tryz.E.P 9 = some (.str []) := by kernel_rfl
@[simp] theorem u22 : Tryz.E.P.underlying 22 = some (.slice 9) := by kernel_rfl
@[simp] theorem ag22 : isAggA Tryz.E.P 22 = some false := by kernel_rfl
@[simp] theorem sz22 : sizeA Tryz.E.P 22 = some 1 := by kernel_rfl
@[simp] theorem z22 : zeroA Tryz.E.P 22 = some (.slice none 0 (some 0)) := by kernel_rfl
@[simp] theorem el22 : elemA Tryz.E.P 22 = some 9 := by kernel_rfl
@[simp] theorem row9 : rowA Tryz.E.P 9 = some 1 := by kernel_rfl
@[simp] theorem few9 : fewA Tryz.E.P 9 = true := by kernel_rfl
@[simp] theorem by9 : isByte Tryz.E.P 9 = false := by kernel_rfl
@[simp] theorem u33 : Tryz.E.P.underlying 33 = some (.slice 35) := by kernel_rfl
@[simp] theorem ag33 : isAggA Tryz.E.P 33 = some false := by kernel_rfl
@[simp] theorem sz33 : sizeA Tryz.E.P 33 = some 1 := by kernel_rfl
@[simp] theorem z33 : zeroA Tryz.E.P 33 = some (.slice none 0 (some 0)) := by kernel_rfl
@[simp] theorem el33 : elemA Tryz.E.P 33 = some 35 := by kernel_rfl
@[simp] theorem row35 : rowA Tryz.E.P 35 = some 4 := by kernel_rfl
@[simp] theorem few35 : fewA Tryz.E.P 35 = true := by kernel_rfl
@[simp] theorem by35 : isByte Tryz.E.P 35 = false := by kernel_rfl
@[simp] theorem ag35 : isAggA Tryz.E.P 35 = some true := by kernel_rfl
@[simp] theorem sz35 : sizeA Tryz.E.P 35 = some 4 := by kernel_rfl
@[simp] theorem z35 : zeroA Tryz.E.P 35 = some (.agg [.int .i64 0, .str [], .slice none 0 (some 0), .bool false]) := by kernel_rfl
@[simp] theorem bld35 (ps : List (Nat × AV)) : buildA Tryz.E.P 35 ps = (fillA (#[(0, 1), (1, 1), (2, 1), (3, 1)][·]?) [.int .i64 0, .str [], .slice none 0 (some 0), .bool false] ps).bind fun r => some (.agg r) := by kernel_rfl
@[simp] theorem fld35_0 : fldA Tryz.E.P 35 0 = some (3, 0, 1) := by kernel_rfl
@[simp] theorem fld35_1 : fldA Tryz.E.P 35 1 = some (9, 1, 1) := by kernel_rfl
@[simp] theorem fld35_2 : fldA Tryz.E.P 35 2 = some (33, 2, 1) := by kernel_rfl
@[simp] theorem fld35_3 : fldA Tryz.E.P 35 3 = some (4, 3, 1) := by kernel_rfl
@[simp] theorem u36 : Tryz.E.P.underlying 36 = some (.slice 49) := by kernel_rfl
@[simp] theorem ag36 : isAggA Tryz.E.P 36 = some false := by kernel_rfl
@[simp] theorem sz36 : sizeA Tryz.E.P 36 = some 1 := by kernel_rfl
@[simp] theorem z36 : zeroA Tryz.E.P 36 = some (.slice none 0 (some 0)) := by kernel_rfl
@[simp] theorem el36 : elemA Tryz.E.P 36 = some 49 := by kernel_rfl
@[simp] theorem row49 : rowA Tryz.E.P 49 = some 2 := by kernel_rfl
@[simp] theorem few49 : fewA Tryz.E.P 49 = true := by kernel_rfl
@[simp] theorem by49 : isByte Tryz.E.P 49 = false := by kernel_rfl
@[simp] theorem u37 : Tryz.E.P.underlying 37 = some (.int .i64) := by kernel_rfl
@[simp] theorem ag37 : isAggA Tryz.E.P 37 = some false := by kernel_rfl
@[simp] theorem sz37 : sizeA Tryz.E.P 37 = some 1 := by kernel_rfl
@[simp] theorem z37 : zeroA Tryz.E.P 37 = some (.int .i64 0) := by kernel_rfl
@[simp] theorem ag49 : isAggA Tryz.E.P 49 = some true := by kernel_rfl
@[simp] theorem sz49 : sizeA Tryz.E.P 49 = some 2 := by kernel_rfl
@[simp] theorem z49 : zeroA Tryz.E.P 49 = some (.agg [.int .i64 0, .bool false]) := by kernel_rfl
@[simp] theorem bld49 (ps : List (Nat × AV)) : buildA Tryz.E.P 49 ps = (fillA (#[(0, 1), (1, 1)][·]?) [.int .i64 0, .bool false] ps).bind fun r => some (.agg r) := by kernel_rfl
@[simp] theorem fld49_0 : fldA Tryz.E.P 49 0 = some (3, 0, 1) := by kernel_rfl
@[simp] theorem fld49_1 : fldA Tryz.E.P 49 1 = some (4, 1, 1) := by kernel_rfl
@[simp] theorem u63 : Tryz.E.P.underlying 63 = some (.slice 5) := by kernel_rfl
@[simp] theorem ag63 : isAggA Tryz.E.P 63 = some false := by kernel_rfl
@[simp] theorem sz63 : sizeA Tryz.E.P 63 = some 1 := by kernel_rfl
@[simp] theorem z63 : zeroA Tryz.E.P 63 = some (.slice none 0 (some 0)) := by kernel_rfl
@[simp] theorem el63 : elemA Tryz.E.P 63 = some 5 := by kernel_rfl
@[simp] theorem row5 : rowA Tryz.E.P 5 = some 1 := by kernel_rfl
@[simp] theorem few5 : fewA Tryz.E.P 5 = true := by kernel_rfl
@[simp] theorem by5 : isByte Tryz.E.P 5 = true := by kernel_rfl
@[simp] theorem sz116 : sizeA Tryz.E.P 116 = some 1 := by kernel_rfl
@[simp] theorem z116 : zeroA Tryz.E.P 116 = some (.nilFunc) := by kernel_rfl
@[simp] theorem ag118 : isAggA Tryz.E.P 118 = some true := by kernel_rfl
@[simp] theorem sz118 : sizeA Tryz.E.P 118 = some 2 := by kernel_rfl
@[simp] theorem z118 : zeroA Tryz.E.P 118 = some (.agg [.str [], .nilFunc]) := by kernel_rfl
@[simp] theorem bld118 (ps : List (Nat × AV)) : buildA Tryz.E.P 118 ps = (fillA (#[(0, 1), (1, 1)][·]?) [.str [], .nilFunc] ps).bind fun r => some (.agg r) := by kernel_rfl
@[simp] theorem fld118_0 : fldA Tryz.E.P 118 0 = some (9, 0, 1) := by kernel_rfl
@[simp] theorem fld118_1 : fldA Tryz.E.P 118 1 = some (116, 1, 1) := by kernel_rfl
@[simp] theorem u119 : Tryz.E.P.underlying 119 = some (.array 8 118) := by kernel_rfl
@[simp] theorem ag119 : isAggA Tryz.E.P 119 = some true := by kernel_rfl
@[simp] theorem sz119 : sizeA Tryz.E.P 119 = some 16 := by kernel_rfl
@[simp] theorem z119 : zeroA Tryz.E.P 119 = some (.agg [.str [], .nilFunc, .str [], .nilFunc, .str [], .nilFunc, .str [], .nilFunc, .str [], .nilFunc, .str [], .nilFunc, .str [], .nilFunc, .str [], .nilFunc]) := by kernel_rfl
@[simp] theorem bld119 (ps : List (Nat × AV)) : buildA Tryz.E.P 119 ps = (fillA (fun i => some (i * 2, 2)) [.str [], .nilFunc, .str [], .nilFunc, .str [], .nilFunc, .str [], .nilFunc, .str [], .nilFunc, .str [], .nilFunc, .str [], .nilFunc, .str [], .nilFunc] ps).bind fun r => some (.agg r) := by kernel_rfl
theorem fn4 : Tryz.E.P.funcs[4]? = some f4 := func4
theorem hb4 : hasBody Tryz.E.P 4 = true := by kernel_rfl
theorem fn20 : Tryz.E.P.funcs[20]? = some f20 := func20
theorem hb20 : hasBody Tryz.E.P 20 = true := by kernel_rfl
theorem fn22 : Tryz.E.P.funcs[22]? = some f22 := func22
theorem hb22 : hasBody Tryz.E.P 22 = true := by kernel_rfl
theorem fn23 : Tryz.E.P.funcs[23]? = some f23 := func23
theorem hb23 : hasBody Tryz.E.P 23 = true := by kernel_rfl
theorem fn24 : Tryz.E.P.funcs[24]? = some f24 := func24
theorem hb24 : hasBody Tryz.E.P 24 = true := by kernel_rfl
theorem fn25 : Tryz.E.P.funcs[25]? = some f25 := func25
theorem hb25 : hasBody Tryz.E.P 25 = true := by kernel_rfl
theorem fn63 : Tryz.E.P.funcs[63]? = some f63 := func63
theorem hb63 : hasBody Tryz.E.P 63 = true := by kernel_rfl
theorem fn75 : Tryz.E.P.funcs[75]? = some f75 := func75
theorem hb75 : hasBody Tryz.E.P 75 = true := by kernel_rfl
theorem fn78 : Tryz.E.P.funcs[78]? = some f78 := func78
theorem hb78 : hasBody Tryz.E.P 78 = true := by kernel_rfl
theorem fn79 : Tryz.E.P.funcs[79]? = some f79 := func79
theorem hb79 : hasBody Tryz.E.P 79 = true := by kernel_rfl
theorem fn80 : Tryz.E.P.funcs[80]? = some f80 := func80
theorem hb80 : hasBody Tryz.E.P 80 = true := by kernel_rfl
theorem fn81 : Tryz.E.P.funcs[81]? = some f81 := func81
theorem hb81 : hasBody Tryz.E.P 81 = true := by kernel_rfl
theorem fn82 : Tryz.E.P.funcs[82]? = some f82 := func82
theorem hb82 : hasBody Tryz.E.P 82 = true := by kernel_rfl
theorem fn154 : Tryz.E.P.funcs[154]? = some f154 := func154
theorem hb154 : hasBody Tryz.E.P 154 = true := by kernel_rfl
theorem fn155 : Tryz.E.P.funcs[155]? = some f155 := func155
theorem hb155 : hasBody Tryz.E.P 155 = true := by kernel_rfl
theorem fn156 : Tryz.E.P.funcs[156]? = some f156 := func156
theorem hb156 : hasBody Tryz.E.P 156 = true := by kernel_rfl
theorem fn157 : Tryz.E.P.funcs[157]? = some f157 := func157
theorem hb157 : hasBody Tryz.E.P 157 = true := by kernel_rfl
theorem fn158 : Tryz.E.P.funcs[158]? = some f158 := func158
theorem hb158 : hasBody Tryz.E.P 158 = true := by kernel_rfl
theorem fn159 : Tryz.E.P.funcs[159]? = some f159 := func159
theorem hb159 : hasBody Tryz.E.P 159 = true := by kernel_rfl
theorem fn160 : Tryz.E.P.funcs[160]? = some f160 := func160
theorem hb160 : hasBody Tryz.E.P 160 = true := by kernel_rfl
end Go.Proofs.Tryz
