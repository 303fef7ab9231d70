/-
  Facts on the types and functions of the program.
-/
import Derived.Test.YtepadjfmcbjkmaaGreatDoorDataA
import Derived.Test.YtepadjfmcbjkmaaGreatDoorProg
import Derived.Shelf.Strings.OnBuilder
import Derived.Shelf.Small.Strs
import Derived.Shelf.Strconv.Itoa1
import Derived.Shelf.Strconv.Itoa2
import Derived.Shelf.Pu.ParseUintPublic10
import Derived.Shelf.Strings.Repeat
namespace Go.Proofs.YtepadjfmcbjkmaaGreatDoor
open Go Go.Proofs.YtepadjfmcbjkmaaGreatDoor.Gw Go.RowKit
set_option linter.unusedVariables false
def dInt_2 : Desc Int_2 := dV (fun x => (x.Neg, x.Mag)) (dP dB (dSl (dI .u32)))
theorem dInt_2_o {w : World} {I : Nat → Prop} {cs : List Value} {x : Int_2} (h : dInt_2.rep w I cs x) : ∃ v1, cs = [.bool x.Neg, v1] ∧ RepS (dI .u32) w I v1 x.Mag := by
  obtain ⟨c0, d0, rfl, h0, k0⟩ := h
  obtain rfl : c0 = [.bool x.Neg] := h0
  obtain ⟨v1, rfl, r1⟩ := k0
  exact ⟨v1, rfl, r1⟩
theorem dInt_2_m {w : World} {I : Nat → Prop} {x : Int_2} {v1 : Value} (r1 : RepS (dI .u32) w I v1 x.Mag) : dInt_2.rep w I [.bool x.Neg, v1] x := by
  exact ⟨[.bool x.Neg], _, rfl, rfl, dSl_iff.2 r1⟩
def dRational : Desc Rational := dV (fun x => (x.Num, x.Den)) (dP dInt_2 dInt_2)
theorem dRational_o {w : World} {I : Nat → Prop} {cs : List Value} {x : Rational} (h : dRational.rep w I cs x) : ∃ v1 v3, cs = [.bool x.Num.Neg, v1, .bool x.Den.Neg, v3] ∧ RepS (dI .u32) w I v1 x.Num.Mag ∧ RepS (dI .u32) w I v3 x.Den.Mag := by
  obtain ⟨c0, d0, rfl, h0, k0⟩ := h
  obtain ⟨v1, rfl, r1⟩ := dInt_2_o h0
  obtain ⟨v3, rfl, r3⟩ := dInt_2_o k0
  exact ⟨v1, v3, rfl, r1, r3⟩
theorem dRational_m {w : World} {I : Nat → Prop} {x : Rational} {v1 : Value} (r1 : RepS (dI .u32) w I v1 x.Num.Mag) {v3 : Value} (r3 : RepS (dI .u32) w I v3 x.Den.Mag) : dRational.rep w I [.bool x.Num.Neg, v1, .bool x.Den.Neg, v3] x := by
  exact ⟨[.bool x.Num.Neg, v1], _, rfl, dInt_2_m r1, dInt_2_m r3⟩
theorem MX : Tryz.prog.follows .mixedOrders = true := by kernel_rfl
theorem T4 : TI Tryz.prog 4 1 1 (.bool false) false := ⟨by kernel_rfl, by kernel_rfl, rfl⟩
theorem T5 : TI Tryz.prog 5 1 1 (.int .u8 0) false := ⟨by kernel_rfl, by kernel_rfl, rfl⟩
theorem T9 : TI Tryz.prog 9 1 16 (.string ByteArray.empty) false := ⟨by kernel_rfl, by kernel_rfl, rfl⟩
theorem T22 : TI Tryz.prog 22 1 24 (.slice none 0 0) false := ⟨by kernel_rfl, by kernel_rfl, rfl⟩
theorem T24 : TI Tryz.prog 24 2 32 (.agg #[(.bool false), (.slice none 0 0)]) true := ⟨by kernel_rfl, by kernel_rfl, rfl⟩
theorem T26 : TI Tryz.prog 26 4 64 (.agg #[(.bool false), (.slice none 0 0), (.bool false), (.slice none 0 0)]) true := ⟨by kernel_rfl, by kernel_rfl, rfl⟩
theorem T46 : TI Tryz.prog 46 1 4 (.int .u32 0) false := ⟨by kernel_rfl, by kernel_rfl, rfl⟩
theorem T104 : TI Tryz.prog 104 256 256 (.agg (zrow 256 [.bool false]).toArray) true := ⟨by kernel_rfl, by kernel_rfl, by kernel_rfl⟩
theorem FO24_0 : FO Tryz.prog 24 0 0 := by unfold FO; kernel_rfl
theorem FO24_1 : FO Tryz.prog 24 1 1 := by unfold FO; kernel_rfl
theorem FO26_0 : FO Tryz.prog 26 0 0 := by unfold FO; kernel_rfl
theorem FO26_1 : FO Tryz.prog 26 1 2 := by unfold FO; kernel_rfl
theorem PL24 : Places Tryz.prog 24 [(0, 1), (1, 1)] := by unfold Places; kernel_rfl
theorem PL26 : Places Tryz.prog 26 [(0, 2), (2, 2)] := by unfold Places; kernel_rfl
theorem U2 : (Tryz.prog.underlying 2).isSome = true := by kernel_rfl
theorem U3 : (Tryz.prog.underlying 3).isSome = true := by kernel_rfl
theorem U5 : (Tryz.prog.underlying 5).isSome = true := by kernel_rfl
theorem U46 : (Tryz.prog.underlying 46).isSome = true := by kernel_rfl
theorem U75 : (Tryz.prog.underlying 75).isSome = true := by kernel_rfl
theorem C8 : CF Tryz.prog 8 := ⟨_, Tryz.func8, rfl, by kernel_rfl⟩
theorem C9 : CF Tryz.prog 9 := ⟨_, Tryz.func9, rfl, by kernel_rfl⟩
theorem C14 : CF Tryz.prog 14 := ⟨_, Tryz.func14, rfl, by kernel_rfl⟩
theorem C15 : CF Tryz.prog 15 := ⟨_, Tryz.func15, rfl, by kernel_rfl⟩
theorem C17 : CF Tryz.prog 17 := ⟨_, Tryz.func17, rfl, by kernel_rfl⟩
theorem C28 : CF Tryz.prog 28 := ⟨_, Tryz.func28, rfl, by kernel_rfl⟩
theorem C29 : CF Tryz.prog 29 := ⟨_, Tryz.func29, rfl, by kernel_rfl⟩
theorem C31 : CF Tryz.prog 31 := ⟨_, Tryz.func31, rfl, by kernel_rfl⟩
theorem C33 : CF Tryz.prog 33 := ⟨_, Tryz.func33, rfl, by kernel_rfl⟩
theorem C34 : CF Tryz.prog 34 := ⟨_, Tryz.func34, rfl, by kernel_rfl⟩
theorem C35 : CF Tryz.prog 35 := ⟨_, Tryz.func35, rfl, by kernel_rfl⟩
theorem C36 : CF Tryz.prog 36 := ⟨_, Tryz.func36, rfl, by kernel_rfl⟩
theorem C37 : CF Tryz.prog 37 := ⟨_, Tryz.func37, rfl, by kernel_rfl⟩
theorem C38 : CF Tryz.prog 38 := ⟨_, Tryz.func38, rfl, by kernel_rfl⟩
theorem C39 : CF Tryz.prog 39 := ⟨_, Tryz.func39, rfl, by kernel_rfl⟩
theorem C41 : CF Tryz.prog 41 := ⟨_, Tryz.func41, rfl, by kernel_rfl⟩
theorem C43 : CF Tryz.prog 43 := ⟨_, Tryz.func43, rfl, by kernel_rfl⟩
theorem C44 : CF Tryz.prog 44 := ⟨_, Tryz.func44, rfl, by kernel_rfl⟩
theorem C45 : CF Tryz.prog 45 := ⟨_, Tryz.func45, rfl, by kernel_rfl⟩
theorem C46 : CF Tryz.prog 46 := ⟨_, Tryz.func46, rfl, by kernel_rfl⟩
theorem C47 : CF Tryz.prog 47 := ⟨_, Tryz.func47, rfl, by kernel_rfl⟩
theorem C49 : CF Tryz.prog 49 := ⟨_, Tryz.func49, rfl, by kernel_rfl⟩
theorem C50 : CF Tryz.prog 50 := ⟨_, Tryz.func50, rfl, by kernel_rfl⟩
theorem C63 : CF Tryz.prog 63 := ⟨_, Tryz.func63, rfl, by kernel_rfl⟩
theorem C64 : CF Tryz.prog 64 := ⟨_, Tryz.func64, rfl, by kernel_rfl⟩
theorem C65 : CF Tryz.prog 65 := ⟨_, Tryz.func65, rfl, by kernel_rfl⟩
theorem C66 : CF Tryz.prog 66 := ⟨_, Tryz.func66, rfl, by kernel_rfl⟩
theorem C67 : CF Tryz.prog 67 := ⟨_, Tryz.func67, rfl, by kernel_rfl⟩
theorem C69 : CF Tryz.prog 69 := ⟨_, Tryz.func69, rfl, by kernel_rfl⟩
theorem C70 : CF Tryz.prog 70 := ⟨_, Tryz.func70, rfl, by kernel_rfl⟩
theorem C71 : CF Tryz.prog 71 := ⟨_, Tryz.func71, rfl, by kernel_rfl⟩
theorem C72 : CF Tryz.prog 72 := ⟨_, Tryz.func72, rfl, by kernel_rfl⟩
theorem C73 : CF Tryz.prog 73 := ⟨_, Tryz.func73, rfl, by kernel_rfl⟩
theorem C74 : CF Tryz.prog 74 := ⟨_, Tryz.func74, rfl, by kernel_rfl⟩
theorem C75 : CF Tryz.prog 75 := ⟨_, Tryz.func75, rfl, by kernel_rfl⟩
theorem C76 : CF Tryz.prog 76 := ⟨_, Tryz.func76, rfl, by kernel_rfl⟩
theorem C77 : CF Tryz.prog 77 := ⟨_, Tryz.func77, rfl, by kernel_rfl⟩
theorem C78 : CF Tryz.prog 78 := ⟨_, Tryz.func78, rfl, by kernel_rfl⟩
theorem C79 : CF Tryz.prog 79 := ⟨_, Tryz.func79, rfl, by kernel_rfl⟩
theorem C80 : CF Tryz.prog 80 := ⟨_, Tryz.func80, rfl, by kernel_rfl⟩
theorem C81 : CF Tryz.prog 81 := ⟨_, Tryz.func81, rfl, by kernel_rfl⟩
theorem C82 : CF Tryz.prog 82 := ⟨_, Tryz.func82, rfl, by kernel_rfl⟩
theorem C83 : CF Tryz.prog 83 := ⟨_, Tryz.func83, rfl, by kernel_rfl⟩
theorem C84 : CF Tryz.prog 84 := ⟨_, Tryz.func84, rfl, by kernel_rfl⟩
theorem C88 : CF Tryz.prog 88 := ⟨_, Tryz.func88, rfl, by kernel_rfl⟩
theorem C89 : CF Tryz.prog 89 := ⟨_, Tryz.func89, rfl, by kernel_rfl⟩
theorem C90 : CF Tryz.prog 90 := ⟨_, Tryz.func90, rfl, by kernel_rfl⟩
theorem C91 : CF Tryz.prog 91 := ⟨_, Tryz.func91, rfl, by kernel_rfl⟩
theorem C92 : CF Tryz.prog 92 := ⟨_, Tryz.func92, rfl, by kernel_rfl⟩
theorem C93 : CF Tryz.prog 93 := ⟨_, Tryz.func93, rfl, by kernel_rfl⟩
theorem C94 : CF Tryz.prog 94 := ⟨_, Tryz.func94, rfl, by kernel_rfl⟩
theorem C95 : CF Tryz.prog 95 := ⟨_, Tryz.func95, rfl, by kernel_rfl⟩
theorem C96 : CF Tryz.prog 96 := ⟨_, Tryz.func96, rfl, by kernel_rfl⟩
theorem C97 : CF Tryz.prog 97 := ⟨_, Tryz.func97, rfl, by kernel_rfl⟩
theorem C98 : CF Tryz.prog 98 := ⟨_, Tryz.func98, rfl, by kernel_rfl⟩
theorem C99 : CF Tryz.prog 99 := ⟨_, Tryz.func99, rfl, by kernel_rfl⟩
theorem C100 : CF Tryz.prog 100 := ⟨_, Tryz.func100, rfl, by kernel_rfl⟩
theorem C101 : CF Tryz.prog 101 := ⟨_, Tryz.func101, rfl, by kernel_rfl⟩
theorem C102 : CF Tryz.prog 102 := ⟨_, Tryz.func102, rfl, by kernel_rfl⟩
theorem C103 : CF Tryz.prog 103 := ⟨_, Tryz.func103, rfl, by kernel_rfl⟩
theorem C104 : CF Tryz.prog 104 := ⟨_, Tryz.func104, rfl, by kernel_rfl⟩
theorem C105 : CF Tryz.prog 105 := ⟨_, Tryz.func105, rfl, by kernel_rfl⟩
theorem C106 : CF Tryz.prog 106 := ⟨_, Tryz.func106, rfl, by kernel_rfl⟩
theorem C107 : CF Tryz.prog 107 := ⟨_, Tryz.func107, rfl, by kernel_rfl⟩
theorem C108 : CF Tryz.prog 108 := ⟨_, Tryz.func108, rfl, by kernel_rfl⟩
theorem C109 : CF Tryz.prog 109 := ⟨_, Tryz.func109, rfl, by kernel_rfl⟩
theorem C110 : CF Tryz.prog 110 := ⟨_, Tryz.func110, rfl, by kernel_rfl⟩
theorem C111 : CF Tryz.prog 111 := ⟨_, Tryz.func111, rfl, by kernel_rfl⟩
theorem C113 : CF Tryz.prog 113 := ⟨_, Tryz.func113, rfl, by kernel_rfl⟩
theorem C114 : CF Tryz.prog 114 := ⟨_, Tryz.func114, rfl, by kernel_rfl⟩
theorem C117 : CF Tryz.prog 117 := ⟨_, Tryz.func117, rfl, by kernel_rfl⟩
theorem C118 : CF Tryz.prog 118 := ⟨_, Tryz.func118, rfl, by kernel_rfl⟩
theorem C119 : CF Tryz.prog 119 := ⟨_, Tryz.func119, rfl, by kernel_rfl⟩
theorem C124 : CF Tryz.prog 124 := ⟨_, Tryz.func124, rfl, by kernel_rfl⟩
theorem C132 : CF Tryz.prog 132 := ⟨_, Tryz.func132, rfl, by kernel_rfl⟩
theorem C133 : CF Tryz.prog 133 := ⟨_, Tryz.func133, rfl, by kernel_rfl⟩
theorem C134 : CF Tryz.prog 134 := ⟨_, Tryz.func134, rfl, by kernel_rfl⟩
theorem C138 : CF Tryz.prog 138 := ⟨_, Tryz.func138, rfl, by kernel_rfl⟩
theorem C139 : CF Tryz.prog 139 := ⟨_, Tryz.func139, rfl, by kernel_rfl⟩
theorem R4 : Rd Tryz.prog 4 dB (fun _ => True) := Rd.bool Tryz.underlying4
theorem R46 : Rd Tryz.prog 46 (dI .u32) (inK .u32) := Rd.int Tryz.underlying46
theorem R22 : Rd Tryz.prog 22 (dSl (dI .u32)) (fun xs => (xs.length ≤ maxLen ∧ ∀ yxs ∈ xs, inK .u32 yxs)) := Rd.slice Tryz.underlying22 (by kernel_rfl) (by decide) R46
theorem R24 : Rd Tryz.prog 24 dInt_2 okInt_2 :=
  (Rd.view (f := fun x : Int_2 => (x.Neg, x.Mag)) (fun a => Int_2.mk a.1 a.2) (fun _ => rfl) (Rd.struct Tryz.underlying24 (by kernel_rfl) (RdF.cons rfl (by kernel_rfl) R4 (RdF.one rfl (by kernel_rfl) R22)))).mono fun _ h => h
theorem R26 : Rd Tryz.prog 26 dRational okRational :=
  (Rd.view (f := fun x : Rational => (x.Num, x.Den)) (fun a => Rational.mk a.1 a.2) (fun _ => rfl) (Rd.struct Tryz.underlying26 (by kernel_rfl) (RdF.cons rfl (by kernel_rfl) R24 (RdF.one rfl (by kernel_rfl) R24)))).mono fun _ h => h
end Go.Proofs.YtepadjfmcbjkmaaGreatDoor

namespace Go.Proofs.YtepadjfmcbjkmaaGreatDoor
open Go Go.Shelf
def sh_lays156_ren : Go.Shelf.Ren := ⟨fun | 156 => 99 | 165 => 128 | 166 => 129 | 169 => 131 | 240 => 155 | 241 => 156 | 276 => 170 | 277 => 171 | n => n, fun | 31 => 90 | 9 => 9 | 3 => 3 | 4 => 4 | 0 => 0 | 20 => 20 | 72 => 115 | 76 => 117 | 70 => 113 | 37 => 52 | 75 => 87 | 127 => 143 | 164 => 155 | 5 => 5 | 80 => 120 | n => n, fun | n => n⟩
theorem sh_lays156 : Go.Proofs.Lays.n156 Tryz.prog sh_lays156_ren := {
  mixed := by kernel_rfl
  f156 := Tryz.func99.trans (congrArg some (by kernel_rfl))
  f165 := Tryz.func128.trans (congrArg some (by kernel_rfl))
  f166 := Tryz.func129.trans (congrArg some (by kernel_rfl))
  f169 := Tryz.func131.trans (congrArg some (by kernel_rfl))
  f240 := Tryz.func155.trans (congrArg some (by kernel_rfl))
  f241 := Tryz.func156.trans (congrArg some (by kernel_rfl))
  f276 := Tryz.func170.trans (congrArg some (by kernel_rfl))
  f277 := Tryz.func171.trans (congrArg some (by kernel_rfl))
  t0 := Tryz.underlying0
  a0 := Tryz.isAgg0
  z0 := Tryz.sizeOf0
  v0 := Tryz.zeroValue0
  t3 := Tryz.underlying3
  a3 := Tryz.isAgg3
  z3 := Tryz.sizeOf3
  v3 := Tryz.zeroValue3
  t4 := Tryz.underlying4
  a4 := Tryz.isAgg4
  z4 := Tryz.sizeOf4
  v4 := Tryz.zeroValue4
  t9 := Tryz.underlying9
  a9 := Tryz.isAgg9
  z9 := Tryz.sizeOf9
  v9 := Tryz.zeroValue9
  t20 := Tryz.underlying20
  a20 := Tryz.isAgg20
  z20 := Tryz.sizeOf20
  v20 := Tryz.zeroValue20
  t31 := Tryz.underlying90
  a31 := Tryz.isAgg90
  z31 := Tryz.sizeOf90
  v31 := Tryz.zeroValue90
  t37 := Tryz.underlying52
  a37 := Tryz.isAgg52
  z37 := Tryz.sizeOf52
  v37 := Tryz.zeroValue52
  t70 := Tryz.underlying113
  a70 := Tryz.isAgg113
  z70 := Tryz.sizeOf113
  v70 := Tryz.zeroValue113
  t72 := Tryz.underlying115
  a72 := Tryz.isAgg115
  z72 := Tryz.sizeOf115
  v72 := Tryz.zeroValue115
  t75 := Tryz.underlying87
  a75 := Tryz.isAgg87
  z75 := Tryz.sizeOf87
  v75 := Tryz.zeroValue87
  t76 := Tryz.underlying117
  a76 := Tryz.isAgg117
  z76 := Tryz.sizeOf117
  v76 := Tryz.zeroValue117
  t127 := Tryz.underlying143
  a127 := Tryz.isAgg143
  z127 := Tryz.sizeOf143
  v127 := Tryz.zeroValue143
  t164 := Tryz.underlying155
  a164 := Tryz.isAgg155
  z164 := Tryz.sizeOf155
  v164 := Tryz.zeroValue155 }
theorem sh_Builder_Extra_156 : Builder.Extra Tryz.prog sh_lays156_ren := {
  sizeBuilder := by kernel_rfl
  liesBuilder := by kernel_rfl
  t5 := Tryz.underlying5
  a5 := Tryz.isAgg5
  z5 := Tryz.sizeOf5
  v5 := Tryz.zeroValue5
  infoByte := by kernel_rfl
  cellsByte := by kernel_rfl
  sizeByte := by kernel_rfl
  neB5 := by decide }
open Go.RowKit in
theorem sh_strings_Join_none (a : Option Addr) (c : Nat) (sep : ByteArray) (w : World) :
    Calls Tryz.prog 99 #[.slice a 0 c, .string sep] w fun e w' => e = .returned (.string ⟨#[]⟩) ∧ w' = w := Any.strings_Join_none sh_lays156 sh_Builder_Extra_156 a c sep w
open Go.RowKit in
theorem sh_strings_Join (bk o c : Nat) (xs : List ByteArray) (sep : ByteArray) (w : World) (hcells : ∀ (j : Nat) x, xs[j]? = some x → w.cell? ⟨bk, o + j, none⟩ = some (.string x)) (hbk : bk < w.heap.size) (hN : xs.length ≤ 140737488355328) (hcap : xs.length ≤ c) (hlen : (Lib.join (xs.map (·.data.toList)) sep.data.toList).length ≤ 140737488355328) :
    Calls Tryz.prog 99 #[.slice (some ⟨bk, o, none⟩) xs.length c, .string sep] w fun e w' => e = .returned (.string ⟨(Lib.join (xs.map (·.data.toList)) sep.data.toList).toArray⟩) ∧ Below w.heap.size w w' := Any.strings_Join sh_lays156 sh_Builder_Extra_156 bk o c xs sep w hcells hbk hN hcap hlen
def sh_lays137_ren : Go.Shelf.Ren := ⟨fun | 137 => 172 | 217 => 134 | 266 => 157 | n => n, fun | 9 => 9 | 5 => 5 | 3 => 3 | n => n, fun | n => n⟩
theorem sh_lays137 : Go.Proofs.Lays.n137 Tryz.prog sh_lays137_ren := {
  mixed := by kernel_rfl
  f137 := Tryz.func172.trans (congrArg some (by kernel_rfl))
  f217 := Tryz.func134.trans (congrArg some (by kernel_rfl))
  f266 := Tryz.func157.trans (congrArg some (by kernel_rfl))
  t3 := Tryz.underlying3
  a3 := Tryz.isAgg3
  z3 := Tryz.sizeOf3
  v3 := Tryz.zeroValue3
  t5 := Tryz.underlying5
  a5 := Tryz.isAgg5
  z5 := Tryz.sizeOf5
  v5 := Tryz.zeroValue5
  t9 := Tryz.underlying9
  a9 := Tryz.isAgg9
  z9 := Tryz.sizeOf9
  v9 := Tryz.zeroValue9 }
def sh_lays283_ren : Go.Shelf.Ren := ⟨fun | 283 => 149 | n => n, fun | 3 => 3 | 9 => 9 | 4 => 4 | n => n, fun | n => n⟩
theorem sh_lays283 : Go.Proofs.Lays.n283 Tryz.prog sh_lays283_ren := {
  mixed := by kernel_rfl
  f283 := Tryz.func149.trans (congrArg some (by kernel_rfl))
  t3 := Tryz.underlying3
  a3 := Tryz.isAgg3
  z3 := Tryz.sizeOf3
  v3 := Tryz.zeroValue3
  t4 := Tryz.underlying4
  a4 := Tryz.isAgg4
  z4 := Tryz.sizeOf4
  v4 := Tryz.zeroValue4
  t9 := Tryz.underlying9
  a9 := Tryz.isAgg9
  z9 := Tryz.sizeOf9
  v9 := Tryz.zeroValue9 }
open Go.Lib in
theorem sh_internal_strconv_small (i : Nat) (h : i < 100) (w : World) :
    Calls Tryz.prog 149 #[.int .i64 i] w fun e w' => e = .returned (.string ⟨(Lib.decDigits i).toArray⟩) ∧ w' = w := Any.internal_strconv_small sh_lays283 i h w
def sh_laysM284_ren : Go.Shelf.Ren := ⟨fun | 284 => 150 | 129 => 166 | 317 => 165 | 318 => 167 | n => n, fun | 53 => 75 | 3 => 3 | 212 => 151 | 0 => 0 | 4 => 4 | 46 => 76 | 5 => 5 | 9 => 9 | n => n, fun | 17 => 4 | n => n⟩
theorem sh_laysM284 : Go.Proofs.LaysM.n284 Tryz.prog sh_laysM284_ren := {
  mixed := by kernel_rfl
  f129 := Tryz.func166.trans (congrArg some (by kernel_rfl))
  f284 := Tryz.func150.trans (congrArg some (by kernel_rfl))
  f317 := Tryz.func165.trans (congrArg some (by kernel_rfl))
  f318 := Tryz.func167.trans (congrArg some (by kernel_rfl))
  t0 := Tryz.underlying0
  a0 := Tryz.isAgg0
  z0 := Tryz.sizeOf0
  v0 := Tryz.zeroValue0
  t3 := Tryz.underlying3
  a3 := Tryz.isAgg3
  z3 := Tryz.sizeOf3
  v3 := Tryz.zeroValue3
  t4 := Tryz.underlying4
  a4 := Tryz.isAgg4
  z4 := Tryz.sizeOf4
  v4 := Tryz.zeroValue4
  t5 := Tryz.underlying5
  a5 := Tryz.isAgg5
  z5 := Tryz.sizeOf5
  v5 := Tryz.zeroValue5
  t9 := Tryz.underlying9
  a9 := Tryz.isAgg9
  z9 := Tryz.sizeOf9
  v9 := Tryz.zeroValue9
  t46 := Tryz.underlying76
  a46 := Tryz.isAgg76
  z46 := Tryz.sizeOf76
  v46 := Tryz.zeroValue76
  t53 := Tryz.underlying75
  a53 := Tryz.isAgg75
  z53 := Tryz.sizeOf75
  v53 := Tryz.zeroValue75
  t212 := Tryz.underlying151
  a212 := Tryz.isAgg151
  z212 := Tryz.sizeOf151
  v212 := Tryz.zeroValue151
  g17 := by kernel_rfl
  i0 := by kernel_rfl
  i3 := by kernel_rfl
  i4 := by kernel_rfl
  i5 := by kernel_rfl
  i9 := by kernel_rfl
  i46 := by kernel_rfl
  i53 := by kernel_rfl
  i212 := by kernel_rfl
  m17 := by kernel_rfl }
open Go.Lib in
theorem sh_internal_strconv_numDigits (u : Nat) (h1 : 1 ≤ u) (h2 : u < 18446744073709551616) (w : World) (htab : Lib.TabIs Tryz.prog w "internal/strconv.uint64pow10" .u64 Lib.pow10Tab) :
    Calls Tryz.prog 150 #[.int .u64 u] w fun e w' => e = .returned (.int .i64 (Lib.nDigits u)) ∧ w' = w := Any.internal_strconv_numDigits sh_laysM284 u h1 h2 w htab
def sh_lays285_ren : Go.Shelf.Ren := ⟨fun | 285 => 151 | n => n, fun | 37 => 52 | 53 => 75 | 3 => 3 | 4 => 4 | 51 => 46 | 9 => 9 | 5 => 5 | 0 => 0 | n => n, fun | n => n⟩
theorem sh_lays285 : Go.Proofs.Lays.n285 Tryz.prog sh_lays285_ren := {
  mixed := by kernel_rfl
  f285 := Tryz.func151.trans (congrArg some (by kernel_rfl))
  t0 := Tryz.underlying0
  a0 := Tryz.isAgg0
  z0 := Tryz.sizeOf0
  v0 := Tryz.zeroValue0
  t3 := Tryz.underlying3
  a3 := Tryz.isAgg3
  z3 := Tryz.sizeOf3
  v3 := Tryz.zeroValue3
  t4 := Tryz.underlying4
  a4 := Tryz.isAgg4
  z4 := Tryz.sizeOf4
  v4 := Tryz.zeroValue4
  t5 := Tryz.underlying5
  a5 := Tryz.isAgg5
  z5 := Tryz.sizeOf5
  v5 := Tryz.zeroValue5
  t9 := Tryz.underlying9
  a9 := Tryz.isAgg9
  z9 := Tryz.sizeOf9
  v9 := Tryz.zeroValue9
  t37 := Tryz.underlying52
  a37 := Tryz.isAgg52
  z37 := Tryz.sizeOf52
  v37 := Tryz.zeroValue52
  t51 := Tryz.underlying46
  a51 := Tryz.isAgg46
  z51 := Tryz.sizeOf46
  v51 := Tryz.zeroValue46
  t53 := Tryz.underlying75
  a53 := Tryz.isAgg75
  z53 := Tryz.sizeOf75
  v53 := Tryz.zeroValue75 }
open Go.RowKit Go.Sort Go.Lib in
theorem sh_internal_strconv_formatBase10 (blk off cap : Nat) (u : Nat) (d : Array UInt8) (w : World) (hH : Holds (fun (b : UInt8) => Value.int .u8 (b.toNat : Int)) w blk off d) (hu : u < 10 ^ d.size) (hu64 : u < 18446744073709551616) (hsz : d.size < 4611686018427387904) :
    Calls Tryz.prog 151 #[.slice (some ⟨blk, off, none⟩) d.size cap, .int .u64 u] w fun e w' =>
      e = .returned (.tuple #[]) ∧ ∃ (n v' : Nat) (dk : Array UInt8), w' = (putRow (fun (b : UInt8) => Value.int .u8 (b.toNat : Int)) w blk off dk).drewN n ∧ FmtInv d.size u 0 v' dk := Any.internal_strconv_formatBase10 sh_lays285 blk off cap u d w hH hu hu64 hsz
def sh_laysPu14_ren : Go.Shelf.Ren := ⟨fun | 14 => 93 | 16 => 122 | 17 => 123 | 19 => 143 | 20 => 144 | 21 => 145 | 22 => 146 | 23 => 147 | 24 => 148 | 25 => 162 | 27 => 164 | 26 => 163 | 28 => 174 | 29 => 177 | 30 => 149 | 31 => 150 | 32 => 151 | 33 => 152 | 35 => 166 | 34 => 165 | 36 => 167 | 37 => 168 | 38 => 169 | 39 => 175 | 40 => 176 | n => n, fun | 9 => 9 | 3 => 3 | 22 => 75 | 24 => 87 | 25 => 88 | 4 => 4 | 34 => 128 | 5 => 5 | 36 => 76 | 37 => 52 | 0 => 0 | 39 => 131 | 21 => 21 | 44 => 148 | 47 => 143 | 50 => 165 | 48 => 163 | 2 => 2 | 52 => 135 | 55 => 138 | 59 => 151 | 60 => 46 | 20 => 20 | 61 => 152 | 65 => 167 | 66 => 168 | 67 => 120 | n => n, fun | 0 => 2 | 1 => 3 | 2 => 4 | 3 => 7 | 4 => 8 | n => n⟩
theorem sh_laysPu14 : Go.Proofs.LaysPu.n14 Tryz.prog sh_laysPu14_ren := {
  mixed := by kernel_rfl
  f14 := Tryz.func93.trans (congrArg some (by kernel_rfl))
  f16 := Tryz.func122.trans (congrArg some (by kernel_rfl))
  f17 := Tryz.func123.trans (congrArg some (by kernel_rfl))
  f19 := Tryz.func143.trans (congrArg some (by kernel_rfl))
  f20 := Tryz.func144.trans (congrArg some (by kernel_rfl))
  f21 := Tryz.func145.trans (congrArg some (by kernel_rfl))
  f22 := Tryz.func146.trans (congrArg some (by kernel_rfl))
  f23 := Tryz.func147.trans (congrArg some (by kernel_rfl))
  f24 := Tryz.func148.trans (congrArg some (by kernel_rfl))
  f25 := Tryz.func162.trans (congrArg some (by kernel_rfl))
  f26 := Tryz.func163.trans (congrArg some (by kernel_rfl))
  f27 := Tryz.func164.trans (congrArg some (by kernel_rfl))
  f28 := Tryz.func174.trans (congrArg some (by kernel_rfl))
  f29 := Tryz.func177.trans (congrArg some (by kernel_rfl))
  f30 := Tryz.func149.trans (congrArg some (by kernel_rfl))
  f31 := Tryz.func150.trans (congrArg some (by kernel_rfl))
  f32 := Tryz.func151.trans (congrArg some (by kernel_rfl))
  f33 := Tryz.func152.trans (congrArg some (by kernel_rfl))
  f34 := Tryz.func165.trans (congrArg some (by kernel_rfl))
  f35 := Tryz.func166.trans (congrArg some (by kernel_rfl))
  f36 := Tryz.func167.trans (congrArg some (by kernel_rfl))
  f37 := Tryz.func168.trans (congrArg some (by kernel_rfl))
  f38 := Tryz.func169.trans (congrArg some (by kernel_rfl))
  f39 := Tryz.func175.trans (congrArg some (by kernel_rfl))
  f40 := Tryz.func176.trans (congrArg some (by kernel_rfl))
  t0 := Tryz.underlying0
  a0 := Tryz.isAgg0
  z0 := Tryz.sizeOf0
  v0 := Tryz.zeroValue0
  i0 := by kernel_rfl
  t2 := Tryz.underlying2
  a2 := Tryz.isAgg2
  z2 := Tryz.sizeOf2
  v2 := Tryz.zeroValue2
  i2 := by kernel_rfl
  t3 := Tryz.underlying3
  a3 := Tryz.isAgg3
  z3 := Tryz.sizeOf3
  v3 := Tryz.zeroValue3
  i3 := by kernel_rfl
  t4 := Tryz.underlying4
  a4 := Tryz.isAgg4
  z4 := Tryz.sizeOf4
  v4 := Tryz.zeroValue4
  i4 := by kernel_rfl
  t5 := Tryz.underlying5
  a5 := Tryz.isAgg5
  z5 := Tryz.sizeOf5
  v5 := Tryz.zeroValue5
  i5 := by kernel_rfl
  t9 := Tryz.underlying9
  a9 := Tryz.isAgg9
  z9 := Tryz.sizeOf9
  v9 := Tryz.zeroValue9
  i9 := by kernel_rfl
  t20 := Tryz.underlying20
  a20 := Tryz.isAgg20
  z20 := Tryz.sizeOf20
  v20 := Tryz.zeroValue20
  i20 := by kernel_rfl
  t21 := Tryz.underlying21
  a21 := Tryz.isAgg21
  z21 := Tryz.sizeOf21
  v21 := Tryz.zeroValue21
  i21 := by kernel_rfl
  t22 := Tryz.underlying75
  a22 := Tryz.isAgg75
  z22 := Tryz.sizeOf75
  v22 := Tryz.zeroValue75
  i22 := by kernel_rfl
  t24 := Tryz.underlying87
  a24 := Tryz.isAgg87
  z24 := Tryz.sizeOf87
  v24 := Tryz.zeroValue87
  i24 := by kernel_rfl
  t25 := Tryz.underlying88
  a25 := Tryz.isAgg88
  z25 := Tryz.sizeOf88
  v25 := Tryz.zeroValue88
  i25 := by kernel_rfl
  t34 := Tryz.underlying128
  a34 := Tryz.isAgg128
  z34 := Tryz.sizeOf128
  v34 := Tryz.zeroValue128
  i34 := by kernel_rfl
  c34 := by kernel_rfl
  t36 := Tryz.underlying76
  a36 := Tryz.isAgg76
  z36 := Tryz.sizeOf76
  v36 := Tryz.zeroValue76
  i36 := by kernel_rfl
  t37 := Tryz.underlying52
  a37 := Tryz.isAgg52
  z37 := Tryz.sizeOf52
  v37 := Tryz.zeroValue52
  i37 := by kernel_rfl
  t39 := Tryz.underlying131
  a39 := Tryz.isAgg131
  z39 := Tryz.sizeOf131
  v39 := Tryz.zeroValue131
  i39 := by kernel_rfl
  t44 := Tryz.underlying148
  a44 := Tryz.isAgg148
  z44 := Tryz.sizeOf148
  v44 := Tryz.zeroValue148
  i44 := by kernel_rfl
  t47 := Tryz.underlying143
  a47 := Tryz.isAgg143
  z47 := Tryz.sizeOf143
  v47 := Tryz.zeroValue143
  i47 := by kernel_rfl
  t48 := Tryz.underlying163
  a48 := Tryz.isAgg163
  z48 := Tryz.sizeOf163
  v48 := Tryz.zeroValue163
  i48 := by kernel_rfl
  t50 := Tryz.underlying165
  a50 := Tryz.isAgg165
  z50 := Tryz.sizeOf165
  v50 := Tryz.zeroValue165
  i50 := by kernel_rfl
  t52 := Tryz.underlying135
  a52 := Tryz.isAgg135
  z52 := Tryz.sizeOf135
  v52 := Tryz.zeroValue135
  i52 := by kernel_rfl
  t55 := Tryz.underlying138
  a55 := Tryz.isAgg138
  z55 := Tryz.sizeOf138
  v55 := Tryz.zeroValue138
  i55 := by kernel_rfl
  t59 := Tryz.underlying151
  a59 := Tryz.isAgg151
  z59 := Tryz.sizeOf151
  v59 := Tryz.zeroValue151
  i59 := by kernel_rfl
  t60 := Tryz.underlying46
  a60 := Tryz.isAgg46
  z60 := Tryz.sizeOf46
  v60 := Tryz.zeroValue46
  i60 := by kernel_rfl
  t61 := Tryz.underlying152
  a61 := Tryz.isAgg152
  z61 := Tryz.sizeOf152
  t65 := Tryz.underlying167
  a65 := Tryz.isAgg167
  z65 := Tryz.sizeOf167
  v65 := Tryz.zeroValue167
  i65 := by kernel_rfl
  t66 := Tryz.underlying168
  a66 := Tryz.isAgg168
  z66 := Tryz.sizeOf168
  v66 := Tryz.zeroValue168
  i66 := by kernel_rfl
  t67 := Tryz.underlying120
  a67 := Tryz.isAgg120
  z67 := Tryz.sizeOf120
  v67 := Tryz.zeroValue120
  i67 := by kernel_rfl
  g0 := by kernel_rfl
  m0 := by kernel_rfl
  g1 := by kernel_rfl
  m1 := by kernel_rfl
  g2 := by kernel_rfl
  m2 := by kernel_rfl
  g3 := by kernel_rfl
  m3 := by kernel_rfl
  g4 := by kernel_rfl
  m4 := by kernel_rfl }
open Go.RowKit in
theorem sh_strconv_ParseUint_10_at32_ok (s : ByteArray) (hmax : s.size ≤ 9223372036854775806) (u : Nat) (h : Lib.parseUintB 32 s.data.toList = .ok u) (w : World) :
    Calls Tryz.prog 93 #[.string s, .int .i64 10, .int .i64 32] w fun e w' => e = .returned (.tuple #[.int .u64 u, .nilIface]) ∧ (w' = w ∨ w' = Lib.bytesWorld w 5 s) := Any.strconv_ParseUint_10_at32_ok sh_laysPu14 s hmax u h w
def sh_lays105_ren : Go.Shelf.Ren := ⟨fun | 105 => 97 | 212 => 126 | 99 => 127 | 165 => 128 | 166 => 129 | 170 => 130 | 169 => 131 | 263 => 153 | 264 => 154 | 206 => 138 | 240 => 155 | 241 => 156 | 276 => 170 | 277 => 171 | n => n, fun | 9 => 9 | 3 => 3 | 4 => 4 | 20 => 20 | 0 => 0 | 46 => 76 | 109 => 110 | 5 => 5 | 72 => 115 | 76 => 117 | 51 => 46 | 146 => 99 | 53 => 75 | 148 => 141 | 70 => 113 | 37 => 52 | 75 => 87 | 127 => 143 | 164 => 155 | 80 => 120 | n => n, fun | n => n⟩
theorem sh_lays105 : Go.Proofs.Lays.n105 Tryz.prog sh_lays105_ren := {
  mixed := by kernel_rfl
  f99 := Tryz.func127.trans (congrArg some (by kernel_rfl))
  f105 := Tryz.func97.trans (congrArg some (by kernel_rfl))
  f165 := Tryz.func128.trans (congrArg some (by kernel_rfl))
  f166 := Tryz.func129.trans (congrArg some (by kernel_rfl))
  f169 := Tryz.func131.trans (congrArg some (by kernel_rfl))
  f170 := Tryz.func130.trans (congrArg some (by kernel_rfl))
  f206 := Tryz.func138.trans (congrArg some (by kernel_rfl))
  f212 := Tryz.func126.trans (congrArg some (by kernel_rfl))
  f240 := Tryz.func155.trans (congrArg some (by kernel_rfl))
  f241 := Tryz.func156.trans (congrArg some (by kernel_rfl))
  f263 := Tryz.func153.trans (congrArg some (by kernel_rfl))
  f264 := Tryz.func154.trans (congrArg some (by kernel_rfl))
  f276 := Tryz.func170.trans (congrArg some (by kernel_rfl))
  f277 := Tryz.func171.trans (congrArg some (by kernel_rfl))
  t0 := Tryz.underlying0
  a0 := Tryz.isAgg0
  z0 := Tryz.sizeOf0
  v0 := Tryz.zeroValue0
  t3 := Tryz.underlying3
  a3 := Tryz.isAgg3
  z3 := Tryz.sizeOf3
  v3 := Tryz.zeroValue3
  t4 := Tryz.underlying4
  a4 := Tryz.isAgg4
  z4 := Tryz.sizeOf4
  v4 := Tryz.zeroValue4
  t5 := Tryz.underlying5
  a5 := Tryz.isAgg5
  z5 := Tryz.sizeOf5
  v5 := Tryz.zeroValue5
  t9 := Tryz.underlying9
  a9 := Tryz.isAgg9
  z9 := Tryz.sizeOf9
  v9 := Tryz.zeroValue9
  t20 := Tryz.underlying20
  a20 := Tryz.isAgg20
  z20 := Tryz.sizeOf20
  v20 := Tryz.zeroValue20
  t37 := Tryz.underlying52
  a37 := Tryz.isAgg52
  z37 := Tryz.sizeOf52
  v37 := Tryz.zeroValue52
  t46 := Tryz.underlying76
  a46 := Tryz.isAgg76
  z46 := Tryz.sizeOf76
  v46 := Tryz.zeroValue76
  t51 := Tryz.underlying46
  a51 := Tryz.isAgg46
  z51 := Tryz.sizeOf46
  v51 := Tryz.zeroValue46
  t53 := Tryz.underlying75
  a53 := Tryz.isAgg75
  z53 := Tryz.sizeOf75
  v53 := Tryz.zeroValue75
  t70 := Tryz.underlying113
  a70 := Tryz.isAgg113
  z70 := Tryz.sizeOf113
  v70 := Tryz.zeroValue113
  t72 := Tryz.underlying115
  a72 := Tryz.isAgg115
  z72 := Tryz.sizeOf115
  v72 := Tryz.zeroValue115
  t75 := Tryz.underlying87
  a75 := Tryz.isAgg87
  z75 := Tryz.sizeOf87
  v75 := Tryz.zeroValue87
  t76 := Tryz.underlying117
  a76 := Tryz.isAgg117
  z76 := Tryz.sizeOf117
  v76 := Tryz.zeroValue117
  t109 := Tryz.underlying110
  a109 := Tryz.isAgg110
  z109 := Tryz.sizeOf110
  v109 := Tryz.zeroValue110
  t127 := Tryz.underlying143
  a127 := Tryz.isAgg143
  z127 := Tryz.sizeOf143
  v127 := Tryz.zeroValue143
  t146 := Tryz.underlying99
  a146 := Tryz.isAgg99
  z146 := Tryz.sizeOf99
  v146 := Tryz.zeroValue99
  t148 := Tryz.underlying141
  a148 := Tryz.isAgg141
  z148 := Tryz.sizeOf141
  v148 := Tryz.zeroValue141
  t164 := Tryz.underlying155
  a164 := Tryz.isAgg155
  z164 := Tryz.sizeOf155
  v164 := Tryz.zeroValue155 }
theorem sh_Builder_Extra_105 : Builder.Extra Tryz.prog sh_lays105_ren := {
  sizeBuilder := by kernel_rfl
  liesBuilder := by kernel_rfl
  t5 := Tryz.underlying5
  a5 := Tryz.isAgg5
  z5 := Tryz.sizeOf5
  v5 := Tryz.zeroValue5
  infoByte := by kernel_rfl
  cellsByte := by kernel_rfl
  sizeByte := by kernel_rfl
  neB5 := by decide }
open Go.RowKit Go.Lib in
theorem sh_strings_Repeat (s : ByteArray) (c : Nat) (w : World) (hc : c ≤ 9223372036854775807) (hlen : s.size * c ≤ 140737488355328) :
    Calls Tryz.prog 97 #[.string s, .int .i64 c] w fun e w' => e = .returned (.string ⟨(Lib.repeatL s.data.toList c).toArray⟩) ∧ Below w.heap.size w w' := Any.strings_Repeat sh_lays105 sh_Builder_Extra_105 s c w hc hlen
end Go.Proofs.YtepadjfmcbjkmaaGreatDoor
