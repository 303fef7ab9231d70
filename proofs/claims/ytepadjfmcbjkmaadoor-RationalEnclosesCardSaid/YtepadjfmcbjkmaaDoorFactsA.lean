/-
  Facts on the types and functions of the program.
-/
import Derived.Test.YtepadjfmcbjkmaaDoorDataA
import Derived.Test.YtepadjfmcbjkmaaDoorProg
import Derived.Shelf.Strings.OnBuilder
import Derived.Shelf.Strconv.Itoa1
import Derived.Shelf.Strconv.Itoa2
import Derived.Shelf.Strings.Repeat
namespace Go.Proofs.YtepadjfmcbjkmaaDoor
open Go Go.Proofs.YtepadjfmcbjkmaaDoor.Gw Go.RowKit
set_option linter.unusedVariables false
def dInt_2 : Desc Int_2 := dV (fun x => (x.Neg, x.Mag)) (dP dB (dSl (dI .u32)))
theorem dInt_2_o {w : World} {I : Nat → Prop} {cs : List Value} {x : Int_2} (h : dInt_2.rep w I cs x) : ∃ v1, cs = [.bool x.Neg, v1] ∧ RepS (dI .u32) w I v1 x.Mag := by
  obtain ⟨c0, d0, rfl, h0, k0⟩ := h
  obtain rfl : c0 = [.bool x.Neg] := h0
  obtain ⟨v1, rfl, r1⟩ := k0
  exact ⟨v1, rfl, r1⟩
theorem dInt_2_m {w : World} {I : Nat → Prop} {x : Int_2} {v1 : Value} (r1 : RepS (dI .u32) w I v1 x.Mag) : dInt_2.rep w I [.bool x.Neg, v1] x := by
  exact ⟨[.bool x.Neg], _, rfl, rfl, dSl_iff.2 r1⟩
def dRational : Desc Rational := dV (fun x => (x.Num, x.Den)) (dP dInt_2 dInt_2)
theorem dRational_o {w : World} {I : Nat → Prop} {cs : List Value} {x : Rational} (h : dRational.rep w I cs x) : ∃ v1 v3, cs = [.bool x.Num.Neg, v1, .bool x.Den.Neg, v3] ∧ RepS (dI .u32) w I v1 x.Num.Mag ∧ RepS (dI .u32) w I v3 x.Den.Mag := by
  obtain ⟨c0, d0, rfl, h0, k0⟩ := h
  obtain ⟨v1, rfl, r1⟩ := dInt_2_o h0
  obtain ⟨v3, rfl, r3⟩ := dInt_2_o k0
  exact ⟨v1, v3, rfl, r1, r3⟩
theorem dRational_m {w : World} {I : Nat → Prop} {x : Rational} {v1 : Value} (r1 : RepS (dI .u32) w I v1 x.Num.Mag) {v3 : Value} (r3 : RepS (dI .u32) w I v3 x.Den.Mag) : dRational.rep w I [.bool x.Num.Neg, v1, .bool x.Den.Neg, v3] x := by
  exact ⟨[.bool x.Num.Neg, v1], _, rfl, dInt_2_m r1, dInt_2_m r3⟩
def dInterval : Desc Interval := dV (fun x => (x.Lo, x.Hi)) (dP dRational dRational)
theorem dInterval_o {w : World} {I : Nat → Prop} {cs : List Value} {x : Interval} (h : dInterval.rep w I cs x) : ∃ v1 v3 v5 v7, cs = [.bool x.Lo.Num.Neg, v1, .bool x.Lo.Den.Neg, v3, .bool x.Hi.Num.Neg, v5, .bool x.Hi.Den.Neg, v7] ∧ RepS (dI .u32) w I v1 x.Lo.Num.Mag ∧ RepS (dI .u32) w I v3 x.Lo.Den.Mag ∧ RepS (dI .u32) w I v5 x.Hi.Num.Mag ∧ RepS (dI .u32) w I v7 x.Hi.Den.Mag := by
  obtain ⟨c0, d0, rfl, h0, k0⟩ := h
  obtain ⟨v1, v3, rfl, r1, r3⟩ := dRational_o h0
  obtain ⟨v5, v7, rfl, r5, r7⟩ := dRational_o k0
  exact ⟨v1, v3, v5, v7, rfl, r1, r3, r5, r7⟩
theorem dInterval_m {w : World} {I : Nat → Prop} {x : Interval} {v1 : Value} (r1 : RepS (dI .u32) w I v1 x.Lo.Num.Mag) {v3 : Value} (r3 : RepS (dI .u32) w I v3 x.Lo.Den.Mag) {v5 : Value} (r5 : RepS (dI .u32) w I v5 x.Hi.Num.Mag) {v7 : Value} (r7 : RepS (dI .u32) w I v7 x.Hi.Den.Mag) : dInterval.rep w I [.bool x.Lo.Num.Neg, v1, .bool x.Lo.Den.Neg, v3, .bool x.Hi.Num.Neg, v5, .bool x.Hi.Den.Neg, v7] x := by
  exact ⟨[.bool x.Lo.Num.Neg, v1, .bool x.Lo.Den.Neg, v3], _, rfl, dRational_m r1 r3, dRational_m r5 r7⟩
theorem MX : Tryd.prog.follows .mixedOrders = true := by kernel_rfl
theorem T4 : TI Tryd.prog 4 1 1 (.bool false) false := ⟨by kernel_rfl, by kernel_rfl, rfl⟩
theorem T9 : TI Tryd.prog 9 1 16 (.string ByteArray.empty) false := ⟨by kernel_rfl, by kernel_rfl, rfl⟩
theorem T22 : TI Tryd.prog 22 1 24 (.slice none 0 0) false := ⟨by kernel_rfl, by kernel_rfl, rfl⟩
theorem T24 : TI Tryd.prog 24 2 32 (.agg #[(.bool false), (.slice none 0 0)]) true := ⟨by kernel_rfl, by kernel_rfl, rfl⟩
theorem T26 : TI Tryd.prog 26 4 64 (.agg #[(.bool false), (.slice none 0 0), (.bool false), (.slice none 0 0)]) true := ⟨by kernel_rfl, by kernel_rfl, rfl⟩
theorem T42 : TI Tryd.prog 42 1 4 (.int .u32 0) false := ⟨by kernel_rfl, by kernel_rfl, rfl⟩
theorem T46 : TI Tryd.prog 46 8 128 (.agg #[(.bool false), (.slice none 0 0), (.bool false), (.slice none 0 0), (.bool false), (.slice none 0 0), (.bool false), (.slice none 0 0)]) true := ⟨by kernel_rfl, by kernel_rfl, rfl⟩
theorem FO24_0 : FO Tryd.prog 24 0 0 := by unfold FO; kernel_rfl
theorem FO24_1 : FO Tryd.prog 24 1 1 := by unfold FO; kernel_rfl
theorem FO26_0 : FO Tryd.prog 26 0 0 := by unfold FO; kernel_rfl
theorem FO26_1 : FO Tryd.prog 26 1 2 := by unfold FO; kernel_rfl
theorem FO46_0 : FO Tryd.prog 46 0 0 := by unfold FO; kernel_rfl
theorem FO46_1 : FO Tryd.prog 46 1 4 := by unfold FO; kernel_rfl
theorem PL24 : Places Tryd.prog 24 [(0, 1), (1, 1)] := by unfold Places; kernel_rfl
theorem PL26 : Places Tryd.prog 26 [(0, 2), (2, 2)] := by unfold Places; kernel_rfl
theorem PL46 : Places Tryd.prog 46 [(0, 4), (4, 4)] := by unfold Places; kernel_rfl
theorem U2 : (Tryd.prog.underlying 2).isSome = true := by kernel_rfl
theorem U3 : (Tryd.prog.underlying 3).isSome = true := by kernel_rfl
theorem U5 : (Tryd.prog.underlying 5).isSome = true := by kernel_rfl
theorem U42 : (Tryd.prog.underlying 42).isSome = true := by kernel_rfl
theorem U68 : (Tryd.prog.underlying 68).isSome = true := by kernel_rfl
theorem C8 : CF Tryd.prog 8 := ⟨_, Tryd.func8, rfl, by kernel_rfl⟩
theorem C9 : CF Tryd.prog 9 := ⟨_, Tryd.func9, rfl, by kernel_rfl⟩
theorem C10 : CF Tryd.prog 10 := ⟨_, Tryd.func10, rfl, by kernel_rfl⟩
theorem C11 : CF Tryd.prog 11 := ⟨_, Tryd.func11, rfl, by kernel_rfl⟩
theorem C12 : CF Tryd.prog 12 := ⟨_, Tryd.func12, rfl, by kernel_rfl⟩
theorem C13 : CF Tryd.prog 13 := ⟨_, Tryd.func13, rfl, by kernel_rfl⟩
theorem C14 : CF Tryd.prog 14 := ⟨_, Tryd.func14, rfl, by kernel_rfl⟩
theorem C15 : CF Tryd.prog 15 := ⟨_, Tryd.func15, rfl, by kernel_rfl⟩
theorem C16 : CF Tryd.prog 16 := ⟨_, Tryd.func16, rfl, by kernel_rfl⟩
theorem C17 : CF Tryd.prog 17 := ⟨_, Tryd.func17, rfl, by kernel_rfl⟩
theorem C18 : CF Tryd.prog 18 := ⟨_, Tryd.func18, rfl, by kernel_rfl⟩
theorem C19 : CF Tryd.prog 19 := ⟨_, Tryd.func19, rfl, by kernel_rfl⟩
theorem C20 : CF Tryd.prog 20 := ⟨_, Tryd.func20, rfl, by kernel_rfl⟩
theorem C21 : CF Tryd.prog 21 := ⟨_, Tryd.func21, rfl, by kernel_rfl⟩
theorem C22 : CF Tryd.prog 22 := ⟨_, Tryd.func22, rfl, by kernel_rfl⟩
theorem C23 : CF Tryd.prog 23 := ⟨_, Tryd.func23, rfl, by kernel_rfl⟩
theorem C24 : CF Tryd.prog 24 := ⟨_, Tryd.func24, rfl, by kernel_rfl⟩
theorem C25 : CF Tryd.prog 25 := ⟨_, Tryd.func25, rfl, by kernel_rfl⟩
theorem C26 : CF Tryd.prog 26 := ⟨_, Tryd.func26, rfl, by kernel_rfl⟩
theorem C27 : CF Tryd.prog 27 := ⟨_, Tryd.func27, rfl, by kernel_rfl⟩
theorem C28 : CF Tryd.prog 28 := ⟨_, Tryd.func28, rfl, by kernel_rfl⟩
theorem C29 : CF Tryd.prog 29 := ⟨_, Tryd.func29, rfl, by kernel_rfl⟩
theorem C30 : CF Tryd.prog 30 := ⟨_, Tryd.func30, rfl, by kernel_rfl⟩
theorem C31 : CF Tryd.prog 31 := ⟨_, Tryd.func31, rfl, by kernel_rfl⟩
theorem C32 : CF Tryd.prog 32 := ⟨_, Tryd.func32, rfl, by kernel_rfl⟩
theorem C33 : CF Tryd.prog 33 := ⟨_, Tryd.func33, rfl, by kernel_rfl⟩
theorem C34 : CF Tryd.prog 34 := ⟨_, Tryd.func34, rfl, by kernel_rfl⟩
theorem C35 : CF Tryd.prog 35 := ⟨_, Tryd.func35, rfl, by kernel_rfl⟩
theorem C36 : CF Tryd.prog 36 := ⟨_, Tryd.func36, rfl, by kernel_rfl⟩
theorem C37 : CF Tryd.prog 37 := ⟨_, Tryd.func37, rfl, by kernel_rfl⟩
theorem C38 : CF Tryd.prog 38 := ⟨_, Tryd.func38, rfl, by kernel_rfl⟩
theorem C39 : CF Tryd.prog 39 := ⟨_, Tryd.func39, rfl, by kernel_rfl⟩
theorem C40 : CF Tryd.prog 40 := ⟨_, Tryd.func40, rfl, by kernel_rfl⟩
theorem C41 : CF Tryd.prog 41 := ⟨_, Tryd.func41, rfl, by kernel_rfl⟩
theorem C42 : CF Tryd.prog 42 := ⟨_, Tryd.func42, rfl, by kernel_rfl⟩
theorem C43 : CF Tryd.prog 43 := ⟨_, Tryd.func43, rfl, by kernel_rfl⟩
theorem C44 : CF Tryd.prog 44 := ⟨_, Tryd.func44, rfl, by kernel_rfl⟩
theorem C45 : CF Tryd.prog 45 := ⟨_, Tryd.func45, rfl, by kernel_rfl⟩
theorem C46 : CF Tryd.prog 46 := ⟨_, Tryd.func46, rfl, by kernel_rfl⟩
theorem C47 : CF Tryd.prog 47 := ⟨_, Tryd.func47, rfl, by kernel_rfl⟩
theorem C48 : CF Tryd.prog 48 := ⟨_, Tryd.func48, rfl, by kernel_rfl⟩
theorem C49 : CF Tryd.prog 49 := ⟨_, Tryd.func49, rfl, by kernel_rfl⟩
theorem C50 : CF Tryd.prog 50 := ⟨_, Tryd.func50, rfl, by kernel_rfl⟩
theorem C51 : CF Tryd.prog 51 := ⟨_, Tryd.func51, rfl, by kernel_rfl⟩
theorem C52 : CF Tryd.prog 52 := ⟨_, Tryd.func52, rfl, by kernel_rfl⟩
theorem C53 : CF Tryd.prog 53 := ⟨_, Tryd.func53, rfl, by kernel_rfl⟩
theorem C54 : CF Tryd.prog 54 := ⟨_, Tryd.func54, rfl, by kernel_rfl⟩
theorem C55 : CF Tryd.prog 55 := ⟨_, Tryd.func55, rfl, by kernel_rfl⟩
theorem C56 : CF Tryd.prog 56 := ⟨_, Tryd.func56, rfl, by kernel_rfl⟩
theorem C57 : CF Tryd.prog 57 := ⟨_, Tryd.func57, rfl, by kernel_rfl⟩
theorem C58 : CF Tryd.prog 58 := ⟨_, Tryd.func58, rfl, by kernel_rfl⟩
theorem C59 : CF Tryd.prog 59 := ⟨_, Tryd.func59, rfl, by kernel_rfl⟩
theorem C60 : CF Tryd.prog 60 := ⟨_, Tryd.func60, rfl, by kernel_rfl⟩
theorem C61 : CF Tryd.prog 61 := ⟨_, Tryd.func61, rfl, by kernel_rfl⟩
theorem C62 : CF Tryd.prog 62 := ⟨_, Tryd.func62, rfl, by kernel_rfl⟩
theorem C63 : CF Tryd.prog 63 := ⟨_, Tryd.func63, rfl, by kernel_rfl⟩
theorem C64 : CF Tryd.prog 64 := ⟨_, Tryd.func64, rfl, by kernel_rfl⟩
theorem C65 : CF Tryd.prog 65 := ⟨_, Tryd.func65, rfl, by kernel_rfl⟩
theorem C66 : CF Tryd.prog 66 := ⟨_, Tryd.func66, rfl, by kernel_rfl⟩
theorem C67 : CF Tryd.prog 67 := ⟨_, Tryd.func67, rfl, by kernel_rfl⟩
theorem C68 : CF Tryd.prog 68 := ⟨_, Tryd.func68, rfl, by kernel_rfl⟩
theorem C69 : CF Tryd.prog 69 := ⟨_, Tryd.func69, rfl, by kernel_rfl⟩
theorem C70 : CF Tryd.prog 70 := ⟨_, Tryd.func70, rfl, by kernel_rfl⟩
theorem C71 : CF Tryd.prog 71 := ⟨_, Tryd.func71, rfl, by kernel_rfl⟩
theorem C72 : CF Tryd.prog 72 := ⟨_, Tryd.func72, rfl, by kernel_rfl⟩
theorem C73 : CF Tryd.prog 73 := ⟨_, Tryd.func73, rfl, by kernel_rfl⟩
theorem C74 : CF Tryd.prog 74 := ⟨_, Tryd.func74, rfl, by kernel_rfl⟩
theorem C75 : CF Tryd.prog 75 := ⟨_, Tryd.func75, rfl, by kernel_rfl⟩
theorem C76 : CF Tryd.prog 76 := ⟨_, Tryd.func76, rfl, by kernel_rfl⟩
theorem C77 : CF Tryd.prog 77 := ⟨_, Tryd.func77, rfl, by kernel_rfl⟩
theorem C78 : CF Tryd.prog 78 := ⟨_, Tryd.func78, rfl, by kernel_rfl⟩
theorem C79 : CF Tryd.prog 79 := ⟨_, Tryd.func79, rfl, by kernel_rfl⟩
theorem C80 : CF Tryd.prog 80 := ⟨_, Tryd.func80, rfl, by kernel_rfl⟩
theorem C81 : CF Tryd.prog 81 := ⟨_, Tryd.func81, rfl, by kernel_rfl⟩
theorem C82 : CF Tryd.prog 82 := ⟨_, Tryd.func82, rfl, by kernel_rfl⟩
theorem C83 : CF Tryd.prog 83 := ⟨_, Tryd.func83, rfl, by kernel_rfl⟩
theorem C84 : CF Tryd.prog 84 := ⟨_, Tryd.func84, rfl, by kernel_rfl⟩
theorem C92 : CF Tryd.prog 92 := ⟨_, Tryd.func92, rfl, by kernel_rfl⟩
theorem C93 : CF Tryd.prog 93 := ⟨_, Tryd.func93, rfl, by kernel_rfl⟩
theorem C94 : CF Tryd.prog 94 := ⟨_, Tryd.func94, rfl, by kernel_rfl⟩
theorem C100 : CF Tryd.prog 100 := ⟨_, Tryd.func100, rfl, by kernel_rfl⟩
theorem C104 : CF Tryd.prog 104 := ⟨_, Tryd.func104, rfl, by kernel_rfl⟩
theorem R4 : Rd Tryd.prog 4 dB (fun _ => True) := Rd.bool Tryd.underlying4
theorem R42 : Rd Tryd.prog 42 (dI .u32) (inK .u32) := Rd.int Tryd.underlying42
theorem R22 : Rd Tryd.prog 22 (dSl (dI .u32)) (fun xs => (xs.length ≤ maxLen ∧ ∀ yxs ∈ xs, inK .u32 yxs)) := Rd.slice Tryd.underlying22 (by kernel_rfl) (by decide) R42
theorem R24 : Rd Tryd.prog 24 dInt_2 okInt_2 :=
  (Rd.view (f := fun x : Int_2 => (x.Neg, x.Mag)) (fun a => Int_2.mk a.1 a.2) (fun _ => rfl) (Rd.struct Tryd.underlying24 (by kernel_rfl) (RdF.cons rfl (by kernel_rfl) R4 (RdF.one rfl (by kernel_rfl) R22)))).mono fun _ h => h
theorem R26 : Rd Tryd.prog 26 dRational okRational :=
  (Rd.view (f := fun x : Rational => (x.Num, x.Den)) (fun a => Rational.mk a.1 a.2) (fun _ => rfl) (Rd.struct Tryd.underlying26 (by kernel_rfl) (RdF.cons rfl (by kernel_rfl) R24 (RdF.one rfl (by kernel_rfl) R24)))).mono fun _ h => h
theorem R3 : Rd Tryd.prog 3 (dI .i64) (inK .i64) := Rd.int Tryd.underlying3
theorem R46 : Rd Tryd.prog 46 dInterval okInterval :=
  (Rd.view (f := fun x : Interval => (x.Lo, x.Hi)) (fun a => Interval.mk a.1 a.2) (fun _ => rfl) (Rd.struct Tryd.underlying46 (by kernel_rfl) (RdF.cons rfl (by kernel_rfl) R26 (RdF.one rfl (by kernel_rfl) R26)))).mono fun _ h => h
theorem R47 : Rd Tryd.prog 47 (dA 2 dRational) (fun xs => (xs.length = 2 ∧ ∀ yxs ∈ xs, okRational yxs)) := Rd.array Tryd.underlying47 (by kernel_rfl) (by kernel_rfl) R26
end Go.Proofs.YtepadjfmcbjkmaaDoor

namespace Go.Proofs.YtepadjfmcbjkmaaDoor
open Go Go.Shelf
def sh_lays156_ren : Go.Shelf.Ren := ⟨fun | 156 => 76 | 165 => 88 | 166 => 89 | 169 => 91 | 240 => 102 | 241 => 103 | 276 => 110 | 277 => 111 | n => n, fun | 31 => 77 | 9 => 9 | 3 => 3 | 4 => 4 | 0 => 0 | 20 => 20 | 72 => 94 | 76 => 98 | 70 => 91 | 37 => 92 | 75 => 97 | 127 => 111 | 164 => 119 | 5 => 5 | 80 => 101 | n => n, fun | n => n⟩
theorem sh_lays156 : Go.Proofs.Lays.n156 Tryd.prog sh_lays156_ren := {
  mixed := by kernel_rfl
  f156 := Tryd.func76.trans (congrArg some (by kernel_rfl))
  f165 := Tryd.func88.trans (congrArg some (by kernel_rfl))
  f166 := Tryd.func89.trans (congrArg some (by kernel_rfl))
  f169 := Tryd.func91.trans (congrArg some (by kernel_rfl))
  f240 := Tryd.func102.trans (congrArg some (by kernel_rfl))
  f241 := Tryd.func103.trans (congrArg some (by kernel_rfl))
  f276 := Tryd.func110.trans (congrArg some (by kernel_rfl))
  f277 := Tryd.func111.trans (congrArg some (by kernel_rfl))
  t0 := Tryd.underlying0
  a0 := Tryd.isAgg0
  z0 := Tryd.sizeOf0
  v0 := Tryd.zeroValue0
  t3 := Tryd.underlying3
  a3 := Tryd.isAgg3
  z3 := Tryd.sizeOf3
  v3 := Tryd.zeroValue3
  t4 := Tryd.underlying4
  a4 := Tryd.isAgg4
  z4 := Tryd.sizeOf4
  v4 := Tryd.zeroValue4
  t9 := Tryd.underlying9
  a9 := Tryd.isAgg9
  z9 := Tryd.sizeOf9
  v9 := Tryd.zeroValue9
  t20 := Tryd.underlying20
  a20 := Tryd.isAgg20
  z20 := Tryd.sizeOf20
  v20 := Tryd.zeroValue20
  t31 := Tryd.underlying77
  a31 := Tryd.isAgg77
  z31 := Tryd.sizeOf77
  v31 := Tryd.zeroValue77
  t37 := Tryd.underlying92
  a37 := Tryd.isAgg92
  z37 := Tryd.sizeOf92
  v37 := Tryd.zeroValue92
  t70 := Tryd.underlying91
  a70 := Tryd.isAgg91
  z70 := Tryd.sizeOf91
  v70 := Tryd.zeroValue91
  t72 := Tryd.underlying94
  a72 := Tryd.isAgg94
  z72 := Tryd.sizeOf94
  v72 := Tryd.zeroValue94
  t75 := Tryd.underlying97
  a75 := Tryd.isAgg97
  z75 := Tryd.sizeOf97
  v75 := Tryd.zeroValue97
  t76 := Tryd.underlying98
  a76 := Tryd.isAgg98
  z76 := Tryd.sizeOf98
  v76 := Tryd.zeroValue98
  t127 := Tryd.underlying111
  a127 := Tryd.isAgg111
  z127 := Tryd.sizeOf111
  v127 := Tryd.zeroValue111
  t164 := Tryd.underlying119
  a164 := Tryd.isAgg119
  z164 := Tryd.sizeOf119
  v164 := Tryd.zeroValue119 }
theorem sh_Builder_Extra_156 : Builder.Extra Tryd.prog sh_lays156_ren := {
  sizeBuilder := by kernel_rfl
  liesBuilder := by kernel_rfl
  t5 := Tryd.underlying5
  a5 := Tryd.isAgg5
  z5 := Tryd.sizeOf5
  v5 := Tryd.zeroValue5
  infoByte := by kernel_rfl
  cellsByte := by kernel_rfl
  sizeByte := by kernel_rfl
  neB5 := by decide }
open Go.RowKit in
theorem sh_strings_Join_none (a : Option Addr) (c : Nat) (sep : ByteArray) (w : World) :
    Calls Tryd.prog 76 #[.slice a 0 c, .string sep] w fun e w' => e = .returned (.string ⟨#[]⟩) ∧ w' = w := Any.strings_Join_none sh_lays156 sh_Builder_Extra_156 a c sep w
open Go.RowKit in
theorem sh_strings_Join (bk o c : Nat) (xs : List ByteArray) (sep : ByteArray) (w : World) (hcells : ∀ (j : Nat) x, xs[j]? = some x → w.cell? ⟨bk, o + j, none⟩ = some (.string x)) (hbk : bk < w.heap.size) (hN : xs.length ≤ 140737488355328) (hcap : xs.length ≤ c) (hlen : (Lib.join (xs.map (·.data.toList)) sep.data.toList).length ≤ 140737488355328) :
    Calls Tryd.prog 76 #[.slice (some ⟨bk, o, none⟩) xs.length c, .string sep] w fun e w' => e = .returned (.string ⟨(Lib.join (xs.map (·.data.toList)) sep.data.toList).toArray⟩) ∧ Below w.heap.size w w' := Any.strings_Join sh_lays156 sh_Builder_Extra_156 bk o c xs sep w hcells hbk hN hcap hlen
def sh_lays283_ren : Go.Shelf.Ren := ⟨fun | 283 => 95 | n => n, fun | 3 => 3 | 9 => 9 | 4 => 4 | n => n, fun | n => n⟩
theorem sh_lays283 : Go.Proofs.Lays.n283 Tryd.prog sh_lays283_ren := {
  mixed := by kernel_rfl
  f283 := Tryd.func95.trans (congrArg some (by kernel_rfl))
  t3 := Tryd.underlying3
  a3 := Tryd.isAgg3
  z3 := Tryd.sizeOf3
  v3 := Tryd.zeroValue3
  t4 := Tryd.underlying4
  a4 := Tryd.isAgg4
  z4 := Tryd.sizeOf4
  v4 := Tryd.zeroValue4
  t9 := Tryd.underlying9
  a9 := Tryd.isAgg9
  z9 := Tryd.sizeOf9
  v9 := Tryd.zeroValue9 }
open Go.Lib in
theorem sh_internal_strconv_small (i : Nat) (h : i < 100) (w : World) :
    Calls Tryd.prog 95 #[.int .i64 i] w fun e w' => e = .returned (.string ⟨(Lib.decDigits i).toArray⟩) ∧ w' = w := Any.internal_strconv_small sh_lays283 i h w
def sh_laysM284_ren : Go.Shelf.Ren := ⟨fun | 284 => 96 | 129 => 106 | 317 => 105 | 318 => 107 | n => n, fun | 53 => 68 | 3 => 3 | 212 => 115 | 0 => 0 | 4 => 4 | 46 => 70 | 5 => 5 | 9 => 9 | n => n, fun | 17 => 1 | n => n⟩
theorem sh_laysM284 : Go.Proofs.LaysM.n284 Tryd.prog sh_laysM284_ren := {
  mixed := by kernel_rfl
  f129 := Tryd.func106.trans (congrArg some (by kernel_rfl))
  f284 := Tryd.func96.trans (congrArg some (by kernel_rfl))
  f317 := Tryd.func105.trans (congrArg some (by kernel_rfl))
  f318 := Tryd.func107.trans (congrArg some (by kernel_rfl))
  t0 := Tryd.underlying0
  a0 := Tryd.isAgg0
  z0 := Tryd.sizeOf0
  v0 := Tryd.zeroValue0
  t3 := Tryd.underlying3
  a3 := Tryd.isAgg3
  z3 := Tryd.sizeOf3
  v3 := Tryd.zeroValue3
  t4 := Tryd.underlying4
  a4 := Tryd.isAgg4
  z4 := Tryd.sizeOf4
  v4 := Tryd.zeroValue4
  t5 := Tryd.underlying5
  a5 := Tryd.isAgg5
  z5 := Tryd.sizeOf5
  v5 := Tryd.zeroValue5
  t9 := Tryd.underlying9
  a9 := Tryd.isAgg9
  z9 := Tryd.sizeOf9
  v9 := Tryd.zeroValue9
  t46 := Tryd.underlying70
  a46 := Tryd.isAgg70
  z46 := Tryd.sizeOf70
  v46 := Tryd.zeroValue70
  t53 := Tryd.underlying68
  a53 := Tryd.isAgg68
  z53 := Tryd.sizeOf68
  v53 := Tryd.zeroValue68
  t212 := Tryd.underlying115
  a212 := Tryd.isAgg115
  z212 := Tryd.sizeOf115
  v212 := Tryd.zeroValue115
  g17 := by kernel_rfl
  i0 := by kernel_rfl
  i3 := by kernel_rfl
  i4 := by kernel_rfl
  i5 := by kernel_rfl
  i9 := by kernel_rfl
  i46 := by kernel_rfl
  i53 := by kernel_rfl
  i212 := by kernel_rfl
  m17 := by kernel_rfl }
open Go.Lib in
theorem sh_internal_strconv_numDigits (u : Nat) (h1 : 1 ≤ u) (h2 : u < 18446744073709551616) (w : World) (htab : Lib.TabIs Tryd.prog w "internal/strconv.uint64pow10" .u64 Lib.pow10Tab) :
    Calls Tryd.prog 96 #[.int .u64 u] w fun e w' => e = .returned (.int .i64 (Lib.nDigits u)) ∧ w' = w := Any.internal_strconv_numDigits sh_laysM284 u h1 h2 w htab
def sh_lays285_ren : Go.Shelf.Ren := ⟨fun | 285 => 97 | n => n, fun | 37 => 92 | 53 => 68 | 3 => 3 | 4 => 4 | 51 => 42 | 9 => 9 | 5 => 5 | 0 => 0 | n => n, fun | n => n⟩
theorem sh_lays285 : Go.Proofs.Lays.n285 Tryd.prog sh_lays285_ren := {
  mixed := by kernel_rfl
  f285 := Tryd.func97.trans (congrArg some (by kernel_rfl))
  t0 := Tryd.underlying0
  a0 := Tryd.isAgg0
  z0 := Tryd.sizeOf0
  v0 := Tryd.zeroValue0
  t3 := Tryd.underlying3
  a3 := Tryd.isAgg3
  z3 := Tryd.sizeOf3
  v3 := Tryd.zeroValue3
  t4 := Tryd.underlying4
  a4 := Tryd.isAgg4
  z4 := Tryd.sizeOf4
  v4 := Tryd.zeroValue4
  t5 := Tryd.underlying5
  a5 := Tryd.isAgg5
  z5 := Tryd.sizeOf5
  v5 := Tryd.zeroValue5
  t9 := Tryd.underlying9
  a9 := Tryd.isAgg9
  z9 := Tryd.sizeOf9
  v9 := Tryd.zeroValue9
  t37 := Tryd.underlying92
  a37 := Tryd.isAgg92
  z37 := Tryd.sizeOf92
  v37 := Tryd.zeroValue92
  t51 := Tryd.underlying42
  a51 := Tryd.isAgg42
  z51 := Tryd.sizeOf42
  v51 := Tryd.zeroValue42
  t53 := Tryd.underlying68
  a53 := Tryd.isAgg68
  z53 := Tryd.sizeOf68
  v53 := Tryd.zeroValue68 }
open Go.RowKit Go.Sort Go.Lib in
theorem sh_internal_strconv_formatBase10 (blk off cap : Nat) (u : Nat) (d : Array UInt8) (w : World) (hH : Holds (fun (b : UInt8) => Value.int .u8 (b.toNat : Int)) w blk off d) (hu : u < 10 ^ d.size) (hu64 : u < 18446744073709551616) (hsz : d.size < 4611686018427387904) :
    Calls Tryd.prog 97 #[.slice (some ⟨blk, off, none⟩) d.size cap, .int .u64 u] w fun e w' =>
      e = .returned (.tuple #[]) ∧ ∃ (n v' : Nat) (dk : Array UInt8), w' = (putRow (fun (b : UInt8) => Value.int .u8 (b.toNat : Int)) w blk off dk).drewN n ∧ FmtInv d.size u 0 v' dk := Any.internal_strconv_formatBase10 sh_lays285 blk off cap u d w hH hu hu64 hsz
def sh_lays105_ren : Go.Shelf.Ren := ⟨fun | 105 => 74 | 212 => 86 | 99 => 87 | 165 => 88 | 166 => 89 | 170 => 90 | 169 => 91 | 263 => 99 | 264 => 100 | 206 => 101 | 240 => 102 | 241 => 103 | 276 => 110 | 277 => 111 | n => n, fun | 9 => 9 | 3 => 3 | 4 => 4 | 20 => 20 | 0 => 0 | 46 => 70 | 109 => 88 | 5 => 5 | 72 => 94 | 76 => 98 | 51 => 42 | 146 => 86 | 53 => 68 | 148 => 109 | 70 => 91 | 37 => 92 | 75 => 97 | 127 => 111 | 164 => 119 | 80 => 101 | n => n, fun | n => n⟩
theorem sh_lays105 : Go.Proofs.Lays.n105 Tryd.prog sh_lays105_ren := {
  mixed := by kernel_rfl
  f99 := Tryd.func87.trans (congrArg some (by kernel_rfl))
  f105 := Tryd.func74.trans (congrArg some (by kernel_rfl))
  f165 := Tryd.func88.trans (congrArg some (by kernel_rfl))
  f166 := Tryd.func89.trans (congrArg some (by kernel_rfl))
  f169 := Tryd.func91.trans (congrArg some (by kernel_rfl))
  f170 := Tryd.func90.trans (congrArg some (by kernel_rfl))
  f206 := Tryd.func101.trans (congrArg some (by kernel_rfl))
  f212 := Tryd.func86.trans (congrArg some (by kernel_rfl))
  f240 := Tryd.func102.trans (congrArg some (by kernel_rfl))
  f241 := Tryd.func103.trans (congrArg some (by kernel_rfl))
  f263 := Tryd.func99.trans (congrArg some (by kernel_rfl))
  f264 := Tryd.func100.trans (congrArg some (by kernel_rfl))
  f276 := Tryd.func110.trans (congrArg some (by kernel_rfl))
  f277 := Tryd.func111.trans (congrArg some (by kernel_rfl))
  t0 := Tryd.underlying0
  a0 := Tryd.isAgg0
  z0 := Tryd.sizeOf0
  v0 := Tryd.zeroValue0
  t3 := Tryd.underlying3
  a3 := Tryd.isAgg3
  z3 := Tryd.sizeOf3
  v3 := Tryd.zeroValue3
  t4 := Tryd.underlying4
  a4 := Tryd.isAgg4
  z4 := Tryd.sizeOf4
  v4 := Tryd.zeroValue4
  t5 := Tryd.underlying5
  a5 := Tryd.isAgg5
  z5 := Tryd.sizeOf5
  v5 := Tryd.zeroValue5
  t9 := Tryd.underlying9
  a9 := Tryd.isAgg9
  z9 := Tryd.sizeOf9
  v9 := Tryd.zeroValue9
  t20 := Tryd.underlying20
  a20 := Tryd.isAgg20
  z20 := Tryd.sizeOf20
  v20 := Tryd.zeroValue20
  t37 := Tryd.underlying92
  a37 := Tryd.isAgg92
  z37 := Tryd.sizeOf92
  v37 := Tryd.zeroValue92
  t46 := Tryd.underlying70
  a46 := Tryd.isAgg70
  z46 := Tryd.sizeOf70
  v46 := Tryd.zeroValue70
  t51 := Tryd.underlying42
  a51 := Tryd.isAgg42
  z51 := Tryd.sizeOf42
  v51 := Tryd.zeroValue42
  t53 := Tryd.underlying68
  a53 := Tryd.isAgg68
  z53 := Tryd.sizeOf68
  v53 := Tryd.zeroValue68
  t70 := Tryd.underlying91
  a70 := Tryd.isAgg91
  z70 := Tryd.sizeOf91
  v70 := Tryd.zeroValue91
  t72 := Tryd.underlying94
  a72 := Tryd.isAgg94
  z72 := Tryd.sizeOf94
  v72 := Tryd.zeroValue94
  t75 := Tryd.underlying97
  a75 := Tryd.isAgg97
  z75 := Tryd.sizeOf97
  v75 := Tryd.zeroValue97
  t76 := Tryd.underlying98
  a76 := Tryd.isAgg98
  z76 := Tryd.sizeOf98
  v76 := Tryd.zeroValue98
  t109 := Tryd.underlying88
  a109 := Tryd.isAgg88
  z109 := Tryd.sizeOf88
  v109 := Tryd.zeroValue88
  t127 := Tryd.underlying111
  a127 := Tryd.isAgg111
  z127 := Tryd.sizeOf111
  v127 := Tryd.zeroValue111
  t146 := Tryd.underlying86
  a146 := Tryd.isAgg86
  z146 := Tryd.sizeOf86
  v146 := Tryd.zeroValue86
  t148 := Tryd.underlying109
  a148 := Tryd.isAgg109
  z148 := Tryd.sizeOf109
  v148 := Tryd.zeroValue109
  t164 := Tryd.underlying119
  a164 := Tryd.isAgg119
  z164 := Tryd.sizeOf119
  v164 := Tryd.zeroValue119 }
theorem sh_Builder_Extra_105 : Builder.Extra Tryd.prog sh_lays105_ren := {
  sizeBuilder := by kernel_rfl
  liesBuilder := by kernel_rfl
  t5 := Tryd.underlying5
  a5 := Tryd.isAgg5
  z5 := Tryd.sizeOf5
  v5 := Tryd.zeroValue5
  infoByte := by kernel_rfl
  cellsByte := by kernel_rfl
  sizeByte := by kernel_rfl
  neB5 := by decide }
open Go.RowKit Go.Lib in
theorem sh_strings_Repeat (s : ByteArray) (c : Nat) (w : World) (hc : c ≤ 9223372036854775807) (hlen : s.size * c ≤ 140737488355328) :
    Calls Tryd.prog 74 #[.string s, .int .i64 c] w fun e w' => e = .returned (.string ⟨(Lib.repeatL s.data.toList c).toArray⟩) ∧ Below w.heap.size w w' := Any.strings_Repeat sh_lays105 sh_Builder_Extra_105 s c w hc hlen
end Go.Proofs.YtepadjfmcbjkmaaDoor
