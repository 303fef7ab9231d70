/-
  Facts on the types and functions of the program.
-/
import Derived.Test.YtcdboppghnchpaaDoorDataA
import Derived.Test.YtcdboppghnchpaaDoorProg
import Derived.Shelf.Strings.OnBuilder
import Derived.Shelf.Strconv.Itoa1
import Derived.Shelf.Strconv.Itoa2
import Derived.Shelf.Strings.Repeat
namespace Go.Proofs.YtcdboppghnchpaaDoor
open Go Go.Proofs.YtcdboppghnchpaaDoor.Gw Go.RowKit
set_option linter.unusedVariables false
def dPose : Desc Pose := dV (fun x => (x.X, (x.Y, x.H))) (dP (dI .i64) (dP (dI .i64) (dI .i64)))
theorem dPose_o {w : World} {I : Nat → Prop} {cs : List Value} {x : Pose} (h : dPose.rep w I cs x) : cs = [.int .i64 x.X, .int .i64 x.Y, .int .i64 x.H] := by
  obtain ⟨c0, d0, rfl, h0, k0⟩ := h
  obtain ⟨c1, d1, rfl, h1, k1⟩ := k0
  obtain rfl : c0 = [.int .i64 x.X] := h0
  obtain rfl : c1 = [.int .i64 x.Y] := h1
  obtain rfl : d1 = [.int .i64 x.H] := k1
  rfl
theorem MX : Tryd.prog.follows .mixedOrders = true := by kernel_rfl
theorem T3 : TI Tryd.prog 3 1 8 (.int .i64 0) false := ⟨by kernel_rfl, by kernel_rfl, rfl⟩
theorem T4 : TI Tryd.prog 4 1 1 (.bool false) false := ⟨by kernel_rfl, by kernel_rfl, rfl⟩
theorem T9 : TI Tryd.prog 9 1 16 (.string ByteArray.empty) false := ⟨by kernel_rfl, by kernel_rfl, rfl⟩
theorem T23 : TI Tryd.prog 23 3 24 (.agg #[(.int .i64 0), (.int .i64 0), (.int .i64 0)]) true := ⟨by kernel_rfl, by kernel_rfl, rfl⟩
theorem T27 : TI Tryd.prog 27 1 24 (.slice none 0 0) false := ⟨by kernel_rfl, by kernel_rfl, rfl⟩
theorem T29 : TI Tryd.prog 29 2 32 (.agg #[(.bool false), (.slice none 0 0)]) true := ⟨by kernel_rfl, by kernel_rfl, rfl⟩
theorem T31 : TI Tryd.prog 31 4 64 (.agg #[(.bool false), (.slice none 0 0), (.bool false), (.slice none 0 0)]) true := ⟨by kernel_rfl, by kernel_rfl, rfl⟩
theorem T34 : TI Tryd.prog 34 3 24 (.agg #[(.int .i64 0), (.int .i64 0), (.int .i64 0)]) true := ⟨by kernel_rfl, by kernel_rfl, rfl⟩
theorem T38 : TI Tryd.prog 38 4 64 (.agg #[(.bool false), (.slice none 0 0), (.bool false), (.slice none 0 0)]) true := ⟨by kernel_rfl, by kernel_rfl, rfl⟩
theorem T41 : TI Tryd.prog 41 12 192 (.agg #[(.bool false), (.slice none 0 0), (.bool false), (.slice none 0 0), (.bool false), (.slice none 0 0), (.bool false), (.slice none 0 0), (.bool false), (.slice none 0 0), (.bool false), (.slice none 0 0)]) true := ⟨by kernel_rfl, by kernel_rfl, rfl⟩
theorem T121 : TI Tryd.prog 121 4 64 (.agg #[(.bool false), (.slice none 0 0), (.bool false), (.slice none 0 0)]) true := ⟨by kernel_rfl, by kernel_rfl, rfl⟩
theorem T131 : TI Tryd.prog 131 1 4 (.int .u32 0) false := ⟨by kernel_rfl, by kernel_rfl, rfl⟩
theorem T166 : TI Tryd.prog 166 2 16 (.agg (zrow 2 [.int .i64 0]).toArray) true := ⟨by kernel_rfl, by kernel_rfl, by kernel_rfl⟩
theorem FO23_0 : FO Tryd.prog 23 0 0 := by unfold FO; kernel_rfl
theorem FO23_1 : FO Tryd.prog 23 1 1 := by unfold FO; kernel_rfl
theorem FO23_2 : FO Tryd.prog 23 2 2 := by unfold FO; kernel_rfl
theorem FO29_0 : FO Tryd.prog 29 0 0 := by unfold FO; kernel_rfl
theorem FO29_1 : FO Tryd.prog 29 1 1 := by unfold FO; kernel_rfl
theorem FO31_0 : FO Tryd.prog 31 0 0 := by unfold FO; kernel_rfl
theorem FO31_1 : FO Tryd.prog 31 1 2 := by unfold FO; kernel_rfl
theorem FO34_0 : FO Tryd.prog 34 0 0 := by unfold FO; kernel_rfl
theorem FO34_1 : FO Tryd.prog 34 1 1 := by unfold FO; kernel_rfl
theorem FO34_2 : FO Tryd.prog 34 2 2 := by unfold FO; kernel_rfl
theorem FO38_0 : FO Tryd.prog 38 0 0 := by unfold FO; kernel_rfl
theorem FO38_1 : FO Tryd.prog 38 1 2 := by unfold FO; kernel_rfl
theorem FO41_0 : FO Tryd.prog 41 0 0 := by unfold FO; kernel_rfl
theorem FO41_1 : FO Tryd.prog 41 1 4 := by unfold FO; kernel_rfl
theorem FO41_2 : FO Tryd.prog 41 2 8 := by unfold FO; kernel_rfl
theorem FO121_0 : FO Tryd.prog 121 0 0 := by unfold FO; kernel_rfl
theorem FO121_1 : FO Tryd.prog 121 1 2 := by unfold FO; kernel_rfl
theorem PL23 : Places Tryd.prog 23 [(0, 1), (1, 1), (2, 1)] := by unfold Places; kernel_rfl
theorem PL29 : Places Tryd.prog 29 [(0, 1), (1, 1)] := by unfold Places; kernel_rfl
theorem PL31 : Places Tryd.prog 31 [(0, 2), (2, 2)] := by unfold Places; kernel_rfl
theorem PL34 : Places Tryd.prog 34 [(0, 1), (1, 1), (2, 1)] := by unfold Places; kernel_rfl
theorem PL38 : Places Tryd.prog 38 [(0, 2), (2, 2)] := by unfold Places; kernel_rfl
theorem PL41 : Places Tryd.prog 41 [(0, 4), (4, 4), (8, 4)] := by unfold Places; kernel_rfl
theorem PL121 : Places Tryd.prog 121 [(0, 2), (2, 2)] := by unfold Places; kernel_rfl
theorem U3 : (Tryd.prog.underlying 3).isSome = true := by kernel_rfl
theorem U5 : (Tryd.prog.underlying 5).isSome = true := by kernel_rfl
theorem U129 : (Tryd.prog.underlying 129).isSome = true := by kernel_rfl
theorem U131 : (Tryd.prog.underlying 131).isSome = true := by kernel_rfl
theorem EQ34 (x0 : Int) (x1 : Int) (x2 : Int) (y0 : Int) (y1 : Int) (y2 : Int) : EQ Tryd.prog 34 [.int .i64 x0, .int .i64 x1, .int .i64 x2] [.int .i64 y0, .int .i64 y1, .int .i64 y2] ((x0 == y0) && ((x1 == y1) && ((x2 == y2) && true))) := ⟨by kernel_rfl, by kernel_rfl, by kernel_rfl, (EqL.int (off := 0) T3 Tryd.underlying3 rfl rfl (EqL.int (off := 1) T3 Tryd.underlying3 rfl rfl (EqL.int (off := 2) T3 Tryd.underlying3 rfl rfl EqL.nil))) _ (by kernel_rfl)⟩
theorem C5 : CF Tryd.prog 5 := ⟨_, Tryd.func5, rfl, by kernel_rfl⟩
theorem C6 : CF Tryd.prog 6 := ⟨_, Tryd.func6, rfl, by kernel_rfl⟩
theorem C7 : CF Tryd.prog 7 := ⟨_, Tryd.func7, rfl, by kernel_rfl⟩
theorem C8 : CF Tryd.prog 8 := ⟨_, Tryd.func8, rfl, by kernel_rfl⟩
theorem C9 : CF Tryd.prog 9 := ⟨_, Tryd.func9, rfl, by kernel_rfl⟩
theorem C10 : CF Tryd.prog 10 := ⟨_, Tryd.func10, rfl, by kernel_rfl⟩
theorem C11 : CF Tryd.prog 11 := ⟨_, Tryd.func11, rfl, by kernel_rfl⟩
theorem C12 : CF Tryd.prog 12 := ⟨_, Tryd.func12, rfl, by kernel_rfl⟩
theorem C13 : CF Tryd.prog 13 := ⟨_, Tryd.func13, rfl, by kernel_rfl⟩
theorem C14 : CF Tryd.prog 14 := ⟨_, Tryd.func14, rfl, by kernel_rfl⟩
theorem C15 : CF Tryd.prog 15 := ⟨_, Tryd.func15, rfl, by kernel_rfl⟩
theorem C16 : CF Tryd.prog 16 := ⟨_, Tryd.func16, rfl, by kernel_rfl⟩
theorem C26 : CF Tryd.prog 26 := ⟨_, Tryd.func26, rfl, by kernel_rfl⟩
theorem C27 : CF Tryd.prog 27 := ⟨_, Tryd.func27, rfl, by kernel_rfl⟩
theorem C28 : CF Tryd.prog 28 := ⟨_, Tryd.func28, rfl, by kernel_rfl⟩
theorem C29 : CF Tryd.prog 29 := ⟨_, Tryd.func29, rfl, by kernel_rfl⟩
theorem C30 : CF Tryd.prog 30 := ⟨_, Tryd.func30, rfl, by kernel_rfl⟩
theorem C31 : CF Tryd.prog 31 := ⟨_, Tryd.func31, rfl, by kernel_rfl⟩
theorem C32 : CF Tryd.prog 32 := ⟨_, Tryd.func32, rfl, by kernel_rfl⟩
theorem C33 : CF Tryd.prog 33 := ⟨_, Tryd.func33, rfl, by kernel_rfl⟩
theorem C34 : CF Tryd.prog 34 := ⟨_, Tryd.func34, rfl, by kernel_rfl⟩
theorem C35 : CF Tryd.prog 35 := ⟨_, Tryd.func35, rfl, by kernel_rfl⟩
theorem C36 : CF Tryd.prog 36 := ⟨_, Tryd.func36, rfl, by kernel_rfl⟩
theorem C37 : CF Tryd.prog 37 := ⟨_, Tryd.func37, rfl, by kernel_rfl⟩
theorem C38 : CF Tryd.prog 38 := ⟨_, Tryd.func38, rfl, by kernel_rfl⟩
theorem C39 : CF Tryd.prog 39 := ⟨_, Tryd.func39, rfl, by kernel_rfl⟩
theorem C40 : CF Tryd.prog 40 := ⟨_, Tryd.func40, rfl, by kernel_rfl⟩
theorem C41 : CF Tryd.prog 41 := ⟨_, Tryd.func41, rfl, by kernel_rfl⟩
theorem C42 : CF Tryd.prog 42 := ⟨_, Tryd.func42, rfl, by kernel_rfl⟩
theorem C53 : CF Tryd.prog 53 := ⟨_, Tryd.func53, rfl, by kernel_rfl⟩
theorem C54 : CF Tryd.prog 54 := ⟨_, Tryd.func54, rfl, by kernel_rfl⟩
theorem C55 : CF Tryd.prog 55 := ⟨_, Tryd.func55, rfl, by kernel_rfl⟩
theorem C56 : CF Tryd.prog 56 := ⟨_, Tryd.func56, rfl, by kernel_rfl⟩
theorem C57 : CF Tryd.prog 57 := ⟨_, Tryd.func57, rfl, by kernel_rfl⟩
theorem C58 : CF Tryd.prog 58 := ⟨_, Tryd.func58, rfl, by kernel_rfl⟩
theorem C59 : CF Tryd.prog 59 := ⟨_, Tryd.func59, rfl, by kernel_rfl⟩
theorem C60 : CF Tryd.prog 60 := ⟨_, Tryd.func60, rfl, by kernel_rfl⟩
theorem C61 : CF Tryd.prog 61 := ⟨_, Tryd.func61, rfl, by kernel_rfl⟩
theorem C62 : CF Tryd.prog 62 := ⟨_, Tryd.func62, rfl, by kernel_rfl⟩
theorem C63 : CF Tryd.prog 63 := ⟨_, Tryd.func63, rfl, by kernel_rfl⟩
theorem C64 : CF Tryd.prog 64 := ⟨_, Tryd.func64, rfl, by kernel_rfl⟩
theorem C65 : CF Tryd.prog 65 := ⟨_, Tryd.func65, rfl, by kernel_rfl⟩
theorem C66 : CF Tryd.prog 66 := ⟨_, Tryd.func66, rfl, by kernel_rfl⟩
theorem C67 : CF Tryd.prog 67 := ⟨_, Tryd.func67, rfl, by kernel_rfl⟩
theorem C68 : CF Tryd.prog 68 := ⟨_, Tryd.func68, rfl, by kernel_rfl⟩
theorem C69 : CF Tryd.prog 69 := ⟨_, Tryd.func69, rfl, by kernel_rfl⟩
theorem C70 : CF Tryd.prog 70 := ⟨_, Tryd.func70, rfl, by kernel_rfl⟩
theorem C71 : CF Tryd.prog 71 := ⟨_, Tryd.func71, rfl, by kernel_rfl⟩
theorem C72 : CF Tryd.prog 72 := ⟨_, Tryd.func72, rfl, by kernel_rfl⟩
theorem C86 : CF Tryd.prog 86 := ⟨_, Tryd.func86, rfl, by kernel_rfl⟩
theorem C87 : CF Tryd.prog 87 := ⟨_, Tryd.func87, rfl, by kernel_rfl⟩
theorem C88 : CF Tryd.prog 88 := ⟨_, Tryd.func88, rfl, by kernel_rfl⟩
theorem C89 : CF Tryd.prog 89 := ⟨_, Tryd.func89, rfl, by kernel_rfl⟩
theorem C90 : CF Tryd.prog 90 := ⟨_, Tryd.func90, rfl, by kernel_rfl⟩
theorem C91 : CF Tryd.prog 91 := ⟨_, Tryd.func91, rfl, by kernel_rfl⟩
theorem C92 : CF Tryd.prog 92 := ⟨_, Tryd.func92, rfl, by kernel_rfl⟩
theorem C93 : CF Tryd.prog 93 := ⟨_, Tryd.func93, rfl, by kernel_rfl⟩
theorem C94 : CF Tryd.prog 94 := ⟨_, Tryd.func94, rfl, by kernel_rfl⟩
theorem C95 : CF Tryd.prog 95 := ⟨_, Tryd.func95, rfl, by kernel_rfl⟩
theorem C96 : CF Tryd.prog 96 := ⟨_, Tryd.func96, rfl, by kernel_rfl⟩
theorem C97 : CF Tryd.prog 97 := ⟨_, Tryd.func97, rfl, by kernel_rfl⟩
theorem C104 : CF Tryd.prog 104 := ⟨_, Tryd.func104, rfl, by kernel_rfl⟩
theorem C110 : CF Tryd.prog 110 := ⟨_, Tryd.func110, rfl, by kernel_rfl⟩
theorem C111 : CF Tryd.prog 111 := ⟨_, Tryd.func111, rfl, by kernel_rfl⟩
theorem C125 : CF Tryd.prog 125 := ⟨_, Tryd.func125, rfl, by kernel_rfl⟩
theorem R3 : Rd Tryd.prog 3 (dI .i64) (inK .i64) := Rd.int Tryd.underlying3
theorem R23 : Rd Tryd.prog 23 dPose okPose :=
  (Rd.view (f := fun x : Pose => (x.X, (x.Y, x.H))) (fun a => Pose.mk a.1 a.2.1 a.2.2) (fun _ => rfl) (Rd.struct Tryd.underlying23 (by kernel_rfl) (RdF.cons rfl (by kernel_rfl) R3 (RdF.cons rfl (by kernel_rfl) R3 (RdF.one rfl (by kernel_rfl) R3))))).mono fun _ h => h
end Go.Proofs.YtcdboppghnchpaaDoor

namespace Go.Proofs.YtcdboppghnchpaaDoor
open Go Go.Shelf
def sh_lays156_ren : Go.Shelf.Ren := ⟨fun | 156 => 92 | 165 => 108 | 166 => 81 | 169 => 48 | 240 => 102 | 241 => 124 | 276 => 115 | 277 => 136 | n => n, fun | 31 => 157 | 9 => 9 | 3 => 3 | 4 => 4 | 0 => 0 | 20 => 20 | 72 => 103 | 76 => 150 | 70 => 100 | 37 => 101 | 75 => 147 | 127 => 153 | 164 => 178 | 5 => 5 | 80 => 105 | n => n, fun | n => n⟩
theorem sh_lays156 : Go.Proofs.Lays.n156 Tryd.prog sh_lays156_ren := {
  mixed := by kernel_rfl
  f156 := Tryd.func92.trans (congrArg some (by kernel_rfl))
  f165 := Tryd.func108.trans (congrArg some (by kernel_rfl))
  f166 := Tryd.func81.trans (congrArg some (by kernel_rfl))
  f169 := Tryd.func48.trans (congrArg some (by kernel_rfl))
  f240 := Tryd.func102.trans (congrArg some (by kernel_rfl))
  f241 := Tryd.func124.trans (congrArg some (by kernel_rfl))
  f276 := Tryd.func115.trans (congrArg some (by kernel_rfl))
  f277 := Tryd.func136.trans (congrArg some (by kernel_rfl))
  t0 := Tryd.underlying0
  a0 := Tryd.isAgg0
  z0 := Tryd.sizeOf0
  v0 := Tryd.zeroValue0
  t3 := Tryd.underlying3
  a3 := Tryd.isAgg3
  z3 := Tryd.sizeOf3
  v3 := Tryd.zeroValue3
  t4 := Tryd.underlying4
  a4 := Tryd.isAgg4
  z4 := Tryd.sizeOf4
  v4 := Tryd.zeroValue4
  t9 := Tryd.underlying9
  a9 := Tryd.isAgg9
  z9 := Tryd.sizeOf9
  v9 := Tryd.zeroValue9
  t20 := Tryd.underlying20
  a20 := Tryd.isAgg20
  z20 := Tryd.sizeOf20
  v20 := Tryd.zeroValue20
  t31 := Tryd.underlying157
  a31 := Tryd.isAgg157
  z31 := Tryd.sizeOf157
  v31 := Tryd.zeroValue157
  t37 := Tryd.underlying101
  a37 := Tryd.isAgg101
  z37 := Tryd.sizeOf101
  v37 := Tryd.zeroValue101
  t70 := Tryd.underlying100
  a70 := Tryd.isAgg100
  z70 := Tryd.sizeOf100
  v70 := Tryd.zeroValue100
  t72 := Tryd.underlying103
  a72 := Tryd.isAgg103
  z72 := Tryd.sizeOf103
  v72 := Tryd.zeroValue103
  t75 := Tryd.underlying147
  a75 := Tryd.isAgg147
  z75 := Tryd.sizeOf147
  v75 := Tryd.zeroValue147
  t76 := Tryd.underlying150
  a76 := Tryd.isAgg150
  z76 := Tryd.sizeOf150
  v76 := Tryd.zeroValue150
  t127 := Tryd.underlying153
  a127 := Tryd.isAgg153
  z127 := Tryd.sizeOf153
  v127 := Tryd.zeroValue153
  t164 := Tryd.underlying178
  a164 := Tryd.isAgg178
  z164 := Tryd.sizeOf178
  v164 := Tryd.zeroValue178 }
theorem sh_Builder_Extra_156 : Builder.Extra Tryd.prog sh_lays156_ren := {
  sizeBuilder := by kernel_rfl
  liesBuilder := by kernel_rfl
  t5 := Tryd.underlying5
  a5 := Tryd.isAgg5
  z5 := Tryd.sizeOf5
  v5 := Tryd.zeroValue5
  infoByte := by kernel_rfl
  cellsByte := by kernel_rfl
  sizeByte := by kernel_rfl
  neB5 := by decide }
open Go.RowKit in
theorem sh_strings_Join_none (a : Option Addr) (c : Nat) (sep : ByteArray) (w : World) :
    Calls Tryd.prog 92 #[.slice a 0 c, .string sep] w fun e w' => e = .returned (.string ⟨#[]⟩) ∧ w' = w := Any.strings_Join_none sh_lays156 sh_Builder_Extra_156 a c sep w
open Go.RowKit in
theorem sh_strings_Join (bk o c : Nat) (xs : List ByteArray) (sep : ByteArray) (w : World) (hcells : ∀ (j : Nat) x, xs[j]? = some x → w.cell? ⟨bk, o + j, none⟩ = some (.string x)) (hbk : bk < w.heap.size) (hN : xs.length ≤ 140737488355328) (hcap : xs.length ≤ c) (hlen : (Lib.join (xs.map (·.data.toList)) sep.data.toList).length ≤ 140737488355328) :
    Calls Tryd.prog 92 #[.slice (some ⟨bk, o, none⟩) xs.length c, .string sep] w fun e w' => e = .returned (.string ⟨(Lib.join (xs.map (·.data.toList)) sep.data.toList).toArray⟩) ∧ Below w.heap.size w w' := Any.strings_Join sh_lays156 sh_Builder_Extra_156 bk o c xs sep w hcells hbk hN hcap hlen
def sh_lays283_ren : Go.Shelf.Ren := ⟨fun | 283 => 117 | n => n, fun | 3 => 3 | 9 => 9 | 4 => 4 | n => n, fun | n => n⟩
theorem sh_lays283 : Go.Proofs.Lays.n283 Tryd.prog sh_lays283_ren := {
  mixed := by kernel_rfl
  f283 := Tryd.func117.trans (congrArg some (by kernel_rfl))
  t3 := Tryd.underlying3
  a3 := Tryd.isAgg3
  z3 := Tryd.sizeOf3
  v3 := Tryd.zeroValue3
  t4 := Tryd.underlying4
  a4 := Tryd.isAgg4
  z4 := Tryd.sizeOf4
  v4 := Tryd.zeroValue4
  t9 := Tryd.underlying9
  a9 := Tryd.isAgg9
  z9 := Tryd.sizeOf9
  v9 := Tryd.zeroValue9 }
open Go.Lib in
theorem sh_internal_strconv_small (i : Nat) (h : i < 100) (w : World) :
    Calls Tryd.prog 117 #[.int .i64 i] w fun e w' => e = .returned (.string ⟨(Lib.decDigits i).toArray⟩) ∧ w' = w := Any.internal_strconv_small sh_lays283 i h w
def sh_laysM284_ren : Go.Shelf.Ren := ⟨fun | 284 => 118 | 129 => 132 | 317 => 131 | 318 => 133 | n => n, fun | 53 => 129 | 3 => 3 | 212 => 196 | 0 => 0 | 4 => 4 | 46 => 132 | 5 => 5 | 9 => 9 | n => n, fun | 17 => 2 | n => n⟩
theorem sh_laysM284 : Go.Proofs.LaysM.n284 Tryd.prog sh_laysM284_ren := {
  mixed := by kernel_rfl
  f129 := Tryd.func132.trans (congrArg some (by kernel_rfl))
  f284 := Tryd.func118.trans (congrArg some (by kernel_rfl))
  f317 := Tryd.func131.trans (congrArg some (by kernel_rfl))
  f318 := Tryd.func133.trans (congrArg some (by kernel_rfl))
  t0 := Tryd.underlying0
  a0 := Tryd.isAgg0
  z0 := Tryd.sizeOf0
  v0 := Tryd.zeroValue0
  t3 := Tryd.underlying3
  a3 := Tryd.isAgg3
  z3 := Tryd.sizeOf3
  v3 := Tryd.zeroValue3
  t4 := Tryd.underlying4
  a4 := Tryd.isAgg4
  z4 := Tryd.sizeOf4
  v4 := Tryd.zeroValue4
  t5 := Tryd.underlying5
  a5 := Tryd.isAgg5
  z5 := Tryd.sizeOf5
  v5 := Tryd.zeroValue5
  t9 := Tryd.underlying9
  a9 := Tryd.isAgg9
  z9 := Tryd.sizeOf9
  v9 := Tryd.zeroValue9
  t46 := Tryd.underlying132
  a46 := Tryd.isAgg132
  z46 := Tryd.sizeOf132
  v46 := Tryd.zeroValue132
  t53 := Tryd.underlying129
  a53 := Tryd.isAgg129
  z53 := Tryd.sizeOf129
  v53 := Tryd.zeroValue129
  t212 := Tryd.underlying196
  a212 := Tryd.isAgg196
  z212 := Tryd.sizeOf196
  v212 := Tryd.zeroValue196
  g17 := by kernel_rfl
  i0 := by kernel_rfl
  i3 := by kernel_rfl
  i4 := by kernel_rfl
  i5 := by kernel_rfl
  i9 := by kernel_rfl
  i46 := by kernel_rfl
  i53 := by kernel_rfl
  i212 := by kernel_rfl
  m17 := by kernel_rfl }
open Go.Lib in
theorem sh_internal_strconv_numDigits (u : Nat) (h1 : 1 ≤ u) (h2 : u < 18446744073709551616) (w : World) (htab : Lib.TabIs Tryd.prog w "internal/strconv.uint64pow10" .u64 Lib.pow10Tab) :
    Calls Tryd.prog 118 #[.int .u64 u] w fun e w' => e = .returned (.int .i64 (Lib.nDigits u)) ∧ w' = w := Any.internal_strconv_numDigits sh_laysM284 u h1 h2 w htab
def sh_lays285_ren : Go.Shelf.Ren := ⟨fun | 285 => 119 | n => n, fun | 37 => 101 | 53 => 129 | 3 => 3 | 4 => 4 | 51 => 131 | 9 => 9 | 5 => 5 | 0 => 0 | n => n, fun | n => n⟩
theorem sh_lays285 : Go.Proofs.Lays.n285 Tryd.prog sh_lays285_ren := {
  mixed := by kernel_rfl
  f285 := Tryd.func119.trans (congrArg some (by kernel_rfl))
  t0 := Tryd.underlying0
  a0 := Tryd.isAgg0
  z0 := Tryd.sizeOf0
  v0 := Tryd.zeroValue0
  t3 := Tryd.underlying3
  a3 := Tryd.isAgg3
  z3 := Tryd.sizeOf3
  v3 := Tryd.zeroValue3
  t4 := Tryd.underlying4
  a4 := Tryd.isAgg4
  z4 := Tryd.sizeOf4
  v4 := Tryd.zeroValue4
  t5 := Tryd.underlying5
  a5 := Tryd.isAgg5
  z5 := Tryd.sizeOf5
  v5 := Tryd.zeroValue5
  t9 := Tryd.underlying9
  a9 := Tryd.isAgg9
  z9 := Tryd.sizeOf9
  v9 := Tryd.zeroValue9
  t37 := Tryd.underlying101
  a37 := Tryd.isAgg101
  z37 := Tryd.sizeOf101
  v37 := Tryd.zeroValue101
  t51 := Tryd.underlying131
  a51 := Tryd.isAgg131
  z51 := Tryd.sizeOf131
  v51 := Tryd.zeroValue131
  t53 := Tryd.underlying129
  a53 := Tryd.isAgg129
  z53 := Tryd.sizeOf129
  v53 := Tryd.zeroValue129 }
open Go.RowKit Go.Sort Go.Lib in
theorem sh_internal_strconv_formatBase10 (blk off cap : Nat) (u : Nat) (d : Array UInt8) (w : World) (hH : Holds (fun (b : UInt8) => Value.int .u8 (b.toNat : Int)) w blk off d) (hu : u < 10 ^ d.size) (hu64 : u < 18446744073709551616) (hsz : d.size < 4611686018427387904) :
    Calls Tryd.prog 119 #[.slice (some ⟨blk, off, none⟩) d.size cap, .int .u64 u] w fun e w' =>
      e = .returned (.tuple #[]) ∧ ∃ (n v' : Nat) (dk : Array UInt8), w' = (putRow (fun (b : UInt8) => Value.int .u8 (b.toNat : Int)) w blk off dk).drewN n ∧ FmtInv d.size u 0 v' dk := Any.internal_strconv_formatBase10 sh_lays285 blk off cap u d w hH hu hu64 hsz
def sh_lays105_ren : Go.Shelf.Ren := ⟨fun | 105 => 90 | 212 => 106 | 99 => 107 | 165 => 108 | 166 => 81 | 170 => 109 | 169 => 48 | 263 => 121 | 264 => 122 | 206 => 123 | 240 => 102 | 241 => 124 | 276 => 115 | 277 => 136 | n => n, fun | 9 => 9 | 3 => 3 | 4 => 4 | 20 => 20 | 0 => 0 | 46 => 132 | 109 => 170 | 5 => 5 | 72 => 103 | 76 => 150 | 51 => 131 | 146 => 167 | 53 => 129 | 148 => 187 | 70 => 100 | 37 => 101 | 75 => 147 | 127 => 153 | 164 => 178 | 80 => 105 | n => n, fun | n => n⟩
theorem sh_lays105 : Go.Proofs.Lays.n105 Tryd.prog sh_lays105_ren := {
  mixed := by kernel_rfl
  f99 := Tryd.func107.trans (congrArg some (by kernel_rfl))
  f105 := Tryd.func90.trans (congrArg some (by kernel_rfl))
  f165 := Tryd.func108.trans (congrArg some (by kernel_rfl))
  f166 := Tryd.func81.trans (congrArg some (by kernel_rfl))
  f169 := Tryd.func48.trans (congrArg some (by kernel_rfl))
  f170 := Tryd.func109.trans (congrArg some (by kernel_rfl))
  f206 := Tryd.func123.trans (congrArg some (by kernel_rfl))
  f212 := Tryd.func106.trans (congrArg some (by kernel_rfl))
  f240 := Tryd.func102.trans (congrArg some (by kernel_rfl))
  f241 := Tryd.func124.trans (congrArg some (by kernel_rfl))
  f263 := Tryd.func121.trans (congrArg some (by kernel_rfl))
  f264 := Tryd.func122.trans (congrArg some (by kernel_rfl))
  f276 := Tryd.func115.trans (congrArg some (by kernel_rfl))
  f277 := Tryd.func136.trans (congrArg some (by kernel_rfl))
  t0 := Tryd.underlying0
  a0 := Tryd.isAgg0
  z0 := Tryd.sizeOf0
  v0 := Tryd.zeroValue0
  t3 := Tryd.underlying3
  a3 := Tryd.isAgg3
  z3 := Tryd.sizeOf3
  v3 := Tryd.zeroValue3
  t4 := Tryd.underlying4
  a4 := Tryd.isAgg4
  z4 := Tryd.sizeOf4
  v4 := Tryd.zeroValue4
  t5 := Tryd.underlying5
  a5 := Tryd.isAgg5
  z5 := Tryd.sizeOf5
  v5 := Tryd.zeroValue5
  t9 := Tryd.underlying9
  a9 := Tryd.isAgg9
  z9 := Tryd.sizeOf9
  v9 := Tryd.zeroValue9
  t20 := Tryd.underlying20
  a20 := Tryd.isAgg20
  z20 := Tryd.sizeOf20
  v20 := Tryd.zeroValue20
  t37 := Tryd.underlying101
  a37 := Tryd.isAgg101
  z37 := Tryd.sizeOf101
  v37 := Tryd.zeroValue101
  t46 := Tryd.underlying132
  a46 := Tryd.isAgg132
  z46 := Tryd.sizeOf132
  v46 := Tryd.zeroValue132
  t51 := Tryd.underlying131
  a51 := Tryd.isAgg131
  z51 := Tryd.sizeOf131
  v51 := Tryd.zeroValue131
  t53 := Tryd.underlying129
  a53 := Tryd.isAgg129
  z53 := Tryd.sizeOf129
  v53 := Tryd.zeroValue129
  t70 := Tryd.underlying100
  a70 := Tryd.isAgg100
  z70 := Tryd.sizeOf100
  v70 := Tryd.zeroValue100
  t72 := Tryd.underlying103
  a72 := Tryd.isAgg103
  z72 := Tryd.sizeOf103
  v72 := Tryd.zeroValue103
  t75 := Tryd.underlying147
  a75 := Tryd.isAgg147
  z75 := Tryd.sizeOf147
  v75 := Tryd.zeroValue147
  t76 := Tryd.underlying150
  a76 := Tryd.isAgg150
  z76 := Tryd.sizeOf150
  v76 := Tryd.zeroValue150
  t109 := Tryd.underlying170
  a109 := Tryd.isAgg170
  z109 := Tryd.sizeOf170
  v109 := Tryd.zeroValue170
  t127 := Tryd.underlying153
  a127 := Tryd.isAgg153
  z127 := Tryd.sizeOf153
  v127 := Tryd.zeroValue153
  t146 := Tryd.underlying167
  a146 := Tryd.isAgg167
  z146 := Tryd.sizeOf167
  v146 := Tryd.zeroValue167
  t148 := Tryd.underlying187
  a148 := Tryd.isAgg187
  z148 := Tryd.sizeOf187
  v148 := Tryd.zeroValue187
  t164 := Tryd.underlying178
  a164 := Tryd.isAgg178
  z164 := Tryd.sizeOf178
  v164 := Tryd.zeroValue178 }
theorem sh_Builder_Extra_105 : Builder.Extra Tryd.prog sh_lays105_ren := {
  sizeBuilder := by kernel_rfl
  liesBuilder := by kernel_rfl
  t5 := Tryd.underlying5
  a5 := Tryd.isAgg5
  z5 := Tryd.sizeOf5
  v5 := Tryd.zeroValue5
  infoByte := by kernel_rfl
  cellsByte := by kernel_rfl
  sizeByte := by kernel_rfl
  neB5 := by decide }
open Go.RowKit Go.Lib in
theorem sh_strings_Repeat (s : ByteArray) (c : Nat) (w : World) (hc : c ≤ 9223372036854775807) (hlen : s.size * c ≤ 140737488355328) :
    Calls Tryd.prog 90 #[.string s, .int .i64 c] w fun e w' => e = .returned (.string ⟨(Lib.repeatL s.data.toList c).toArray⟩) ∧ Below w.heap.size w w' := Any.strings_Repeat sh_lays105 sh_Builder_Extra_105 s c w hc hlen
end Go.Proofs.YtcdboppghnchpaaDoor
