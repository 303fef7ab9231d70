/-
  Facts on the types and functions of the program.
-/
import Derived.Test.YthhghkcopfnbiaaGreatDoorDataA
import Derived.Test.YthhghkcopfnbiaaGreatDoorProg
import Derived.Shelf.Strings.OnBuilder
import Derived.Shelf.Strconv.Itoa1
import Derived.Shelf.Strconv.Itoa2
import Derived.Shelf.Strings.Repeat
namespace Go.Proofs.YthhghkcopfnbiaaGreatDoor
open Go Go.Proofs.YthhghkcopfnbiaaGreatDoor.Gw Go.RowKit
set_option linter.unusedVariables false
def dInt_2 : Desc Int_2 := dV (fun x => (x.Neg, x.Mag)) (dP dB (dSl (dI .u32)))
theorem dInt_2_o {w : World} {I : Nat → Prop} {cs : List Value} {x : Int_2} (h : dInt_2.rep w I cs x) : ∃ v1, cs = [.bool x.Neg, v1] ∧ RepS (dI .u32) w I v1 x.Mag := by
  obtain ⟨c0, d0, rfl, h0, k0⟩ := h
  obtain rfl : c0 = [.bool x.Neg] := h0
  obtain ⟨v1, rfl, r1⟩ := k0
  exact ⟨v1, rfl, r1⟩
theorem dInt_2_m {w : World} {I : Nat → Prop} {x : Int_2} {v1 : Value} (r1 : RepS (dI .u32) w I v1 x.Mag) : dInt_2.rep w I [.bool x.Neg, v1] x := by
  exact ⟨[.bool x.Neg], _, rfl, rfl, dSl_iff.2 r1⟩
theorem MX : Tryz.prog.follows .mixedOrders = true := by kernel_rfl
theorem T4 : TI Tryz.prog 4 1 1 (.bool false) false := ⟨by kernel_rfl, by kernel_rfl, rfl⟩
theorem T5 : TI Tryz.prog 5 1 1 (.int .u8 0) false := ⟨by kernel_rfl, by kernel_rfl, rfl⟩
theorem T9 : TI Tryz.prog 9 1 16 (.string ByteArray.empty) false := ⟨by kernel_rfl, by kernel_rfl, rfl⟩
theorem T22 : TI Tryz.prog 22 1 24 (.slice none 0 0) false := ⟨by kernel_rfl, by kernel_rfl, rfl⟩
theorem T24 : TI Tryz.prog 24 2 32 (.agg #[(.bool false), (.slice none 0 0)]) true := ⟨by kernel_rfl, by kernel_rfl, rfl⟩
theorem T45 : TI Tryz.prog 45 1 4 (.int .u32 0) false := ⟨by kernel_rfl, by kernel_rfl, rfl⟩
theorem FO24_0 : FO Tryz.prog 24 0 0 := by unfold FO; kernel_rfl
theorem FO24_1 : FO Tryz.prog 24 1 1 := by unfold FO; kernel_rfl
theorem PL24 : Places Tryz.prog 24 [(0, 1), (1, 1)] := by unfold Places; kernel_rfl
theorem U2 : (Tryz.prog.underlying 2).isSome = true := by kernel_rfl
theorem U3 : (Tryz.prog.underlying 3).isSome = true := by kernel_rfl
theorem U5 : (Tryz.prog.underlying 5).isSome = true := by kernel_rfl
theorem U45 : (Tryz.prog.underlying 45).isSome = true := by kernel_rfl
theorem U49 : (Tryz.prog.underlying 49).isSome = true := by kernel_rfl
theorem C13 : CF Tryz.prog 13 := ⟨_, Tryz.func13, rfl, by kernel_rfl⟩
theorem C14 : CF Tryz.prog 14 := ⟨_, Tryz.func14, rfl, by kernel_rfl⟩
theorem C15 : CF Tryz.prog 15 := ⟨_, Tryz.func15, rfl, by kernel_rfl⟩
theorem C16 : CF Tryz.prog 16 := ⟨_, Tryz.func16, rfl, by kernel_rfl⟩
theorem C17 : CF Tryz.prog 17 := ⟨_, Tryz.func17, rfl, by kernel_rfl⟩
theorem C18 : CF Tryz.prog 18 := ⟨_, Tryz.func18, rfl, by kernel_rfl⟩
theorem C19 : CF Tryz.prog 19 := ⟨_, Tryz.func19, rfl, by kernel_rfl⟩
theorem C20 : CF Tryz.prog 20 := ⟨_, Tryz.func20, rfl, by kernel_rfl⟩
theorem C21 : CF Tryz.prog 21 := ⟨_, Tryz.func21, rfl, by kernel_rfl⟩
theorem C22 : CF Tryz.prog 22 := ⟨_, Tryz.func22, rfl, by kernel_rfl⟩
theorem C23 : CF Tryz.prog 23 := ⟨_, Tryz.func23, rfl, by kernel_rfl⟩
theorem C24 : CF Tryz.prog 24 := ⟨_, Tryz.func24, rfl, by kernel_rfl⟩
theorem C25 : CF Tryz.prog 25 := ⟨_, Tryz.func25, rfl, by kernel_rfl⟩
theorem C26 : CF Tryz.prog 26 := ⟨_, Tryz.func26, rfl, by kernel_rfl⟩
theorem C27 : CF Tryz.prog 27 := ⟨_, Tryz.func27, rfl, by kernel_rfl⟩
theorem C28 : CF Tryz.prog 28 := ⟨_, Tryz.func28, rfl, by kernel_rfl⟩
theorem C29 : CF Tryz.prog 29 := ⟨_, Tryz.func29, rfl, by kernel_rfl⟩
theorem C30 : CF Tryz.prog 30 := ⟨_, Tryz.func30, rfl, by kernel_rfl⟩
theorem C31 : CF Tryz.prog 31 := ⟨_, Tryz.func31, rfl, by kernel_rfl⟩
theorem C32 : CF Tryz.prog 32 := ⟨_, Tryz.func32, rfl, by kernel_rfl⟩
theorem C33 : CF Tryz.prog 33 := ⟨_, Tryz.func33, rfl, by kernel_rfl⟩
theorem C34 : CF Tryz.prog 34 := ⟨_, Tryz.func34, rfl, by kernel_rfl⟩
theorem C35 : CF Tryz.prog 35 := ⟨_, Tryz.func35, rfl, by kernel_rfl⟩
theorem C36 : CF Tryz.prog 36 := ⟨_, Tryz.func36, rfl, by kernel_rfl⟩
theorem C37 : CF Tryz.prog 37 := ⟨_, Tryz.func37, rfl, by kernel_rfl⟩
theorem C38 : CF Tryz.prog 38 := ⟨_, Tryz.func38, rfl, by kernel_rfl⟩
theorem C39 : CF Tryz.prog 39 := ⟨_, Tryz.func39, rfl, by kernel_rfl⟩
theorem C40 : CF Tryz.prog 40 := ⟨_, Tryz.func40, rfl, by kernel_rfl⟩
theorem C41 : CF Tryz.prog 41 := ⟨_, Tryz.func41, rfl, by kernel_rfl⟩
theorem C42 : CF Tryz.prog 42 := ⟨_, Tryz.func42, rfl, by kernel_rfl⟩
theorem C43 : CF Tryz.prog 43 := ⟨_, Tryz.func43, rfl, by kernel_rfl⟩
theorem C44 : CF Tryz.prog 44 := ⟨_, Tryz.func44, rfl, by kernel_rfl⟩
theorem C45 : CF Tryz.prog 45 := ⟨_, Tryz.func45, rfl, by kernel_rfl⟩
theorem C46 : CF Tryz.prog 46 := ⟨_, Tryz.func46, rfl, by kernel_rfl⟩
theorem C47 : CF Tryz.prog 47 := ⟨_, Tryz.func47, rfl, by kernel_rfl⟩
theorem C48 : CF Tryz.prog 48 := ⟨_, Tryz.func48, rfl, by kernel_rfl⟩
theorem C49 : CF Tryz.prog 49 := ⟨_, Tryz.func49, rfl, by kernel_rfl⟩
theorem C50 : CF Tryz.prog 50 := ⟨_, Tryz.func50, rfl, by kernel_rfl⟩
theorem C51 : CF Tryz.prog 51 := ⟨_, Tryz.func51, rfl, by kernel_rfl⟩
theorem C52 : CF Tryz.prog 52 := ⟨_, Tryz.func52, rfl, by kernel_rfl⟩
theorem C53 : CF Tryz.prog 53 := ⟨_, Tryz.func53, rfl, by kernel_rfl⟩
theorem C54 : CF Tryz.prog 54 := ⟨_, Tryz.func54, rfl, by kernel_rfl⟩
theorem C55 : CF Tryz.prog 55 := ⟨_, Tryz.func55, rfl, by kernel_rfl⟩
theorem C56 : CF Tryz.prog 56 := ⟨_, Tryz.func56, rfl, by kernel_rfl⟩
theorem C57 : CF Tryz.prog 57 := ⟨_, Tryz.func57, rfl, by kernel_rfl⟩
theorem C58 : CF Tryz.prog 58 := ⟨_, Tryz.func58, rfl, by kernel_rfl⟩
theorem C59 : CF Tryz.prog 59 := ⟨_, Tryz.func59, rfl, by kernel_rfl⟩
theorem C60 : CF Tryz.prog 60 := ⟨_, Tryz.func60, rfl, by kernel_rfl⟩
theorem C61 : CF Tryz.prog 61 := ⟨_, Tryz.func61, rfl, by kernel_rfl⟩
theorem C62 : CF Tryz.prog 62 := ⟨_, Tryz.func62, rfl, by kernel_rfl⟩
theorem C65 : CF Tryz.prog 65 := ⟨_, Tryz.func65, rfl, by kernel_rfl⟩
theorem C66 : CF Tryz.prog 66 := ⟨_, Tryz.func66, rfl, by kernel_rfl⟩
theorem C67 : CF Tryz.prog 67 := ⟨_, Tryz.func67, rfl, by kernel_rfl⟩
theorem C68 : CF Tryz.prog 68 := ⟨_, Tryz.func68, rfl, by kernel_rfl⟩
theorem C69 : CF Tryz.prog 69 := ⟨_, Tryz.func69, rfl, by kernel_rfl⟩
theorem C70 : CF Tryz.prog 70 := ⟨_, Tryz.func70, rfl, by kernel_rfl⟩
theorem C71 : CF Tryz.prog 71 := ⟨_, Tryz.func71, rfl, by kernel_rfl⟩
theorem C72 : CF Tryz.prog 72 := ⟨_, Tryz.func72, rfl, by kernel_rfl⟩
theorem C73 : CF Tryz.prog 73 := ⟨_, Tryz.func73, rfl, by kernel_rfl⟩
theorem C81 : CF Tryz.prog 81 := ⟨_, Tryz.func81, rfl, by kernel_rfl⟩
theorem C96 : CF Tryz.prog 96 := ⟨_, Tryz.func96, rfl, by kernel_rfl⟩
theorem C97 : CF Tryz.prog 97 := ⟨_, Tryz.func97, rfl, by kernel_rfl⟩
theorem R4 : Rd Tryz.prog 4 dB (fun _ => True) := Rd.bool Tryz.underlying4
theorem R45 : Rd Tryz.prog 45 (dI .u32) (inK .u32) := Rd.int Tryz.underlying45
theorem R22 : Rd Tryz.prog 22 (dSl (dI .u32)) (fun xs => (xs.length ≤ maxLen ∧ ∀ yxs ∈ xs, inK .u32 yxs)) := Rd.slice Tryz.underlying22 (by kernel_rfl) (by decide) R45
theorem R24 : Rd Tryz.prog 24 dInt_2 okInt_2 :=
  (Rd.view (f := fun x : Int_2 => (x.Neg, x.Mag)) (fun a => Int_2.mk a.1 a.2) (fun _ => rfl) (Rd.struct Tryz.underlying24 (by kernel_rfl) (RdF.cons rfl (by kernel_rfl) R4 (RdF.one rfl (by kernel_rfl) R22)))).mono fun _ h => h
theorem R9 : Rd Tryz.prog 9 dS (fun s => s.size ≤ maxLen) := Rd.string Tryz.underlying9
theorem R3 : Rd Tryz.prog 3 (dI .i64) (inK .i64) := Rd.int Tryz.underlying3
theorem R5 : Rd Tryz.prog 5 (dI .u8) (inK .u8) := Rd.int Tryz.underlying5
end Go.Proofs.YthhghkcopfnbiaaGreatDoor

namespace Go.Proofs.YthhghkcopfnbiaaGreatDoor
open Go Go.Shelf
def sh_lays156_ren : Go.Shelf.Ren := ⟨fun | 156 => 61 | 165 => 77 | 166 => 78 | 169 => 80 | 240 => 98 | 241 => 99 | 276 => 115 | 277 => 116 | n => n, fun | 31 => 56 | 9 => 9 | 3 => 3 | 4 => 4 | 0 => 0 | 20 => 20 | 72 => 80 | 76 => 82 | 70 => 78 | 37 => 70 | 75 => 67 | 127 => 103 | 164 => 119 | 5 => 5 | 80 => 85 | n => n, fun | n => n⟩
theorem sh_lays156 : Go.Proofs.Lays.n156 Tryz.prog sh_lays156_ren := {
  mixed := by kernel_rfl
  f156 := Tryz.func61.trans (congrArg some (by kernel_rfl))
  f165 := Tryz.func77.trans (congrArg some (by kernel_rfl))
  f166 := Tryz.func78.trans (congrArg some (by kernel_rfl))
  f169 := Tryz.func80.trans (congrArg some (by kernel_rfl))
  f240 := Tryz.func98.trans (congrArg some (by kernel_rfl))
  f241 := Tryz.func99.trans (congrArg some (by kernel_rfl))
  f276 := Tryz.func115.trans (congrArg some (by kernel_rfl))
  f277 := Tryz.func116.trans (congrArg some (by kernel_rfl))
  t0 := Tryz.underlying0
  a0 := Tryz.isAgg0
  z0 := Tryz.sizeOf0
  v0 := Tryz.zeroValue0
  t3 := Tryz.underlying3
  a3 := Tryz.isAgg3
  z3 := Tryz.sizeOf3
  v3 := Tryz.zeroValue3
  t4 := Tryz.underlying4
  a4 := Tryz.isAgg4
  z4 := Tryz.sizeOf4
  v4 := Tryz.zeroValue4
  t9 := Tryz.underlying9
  a9 := Tryz.isAgg9
  z9 := Tryz.sizeOf9
  v9 := Tryz.zeroValue9
  t20 := Tryz.underlying20
  a20 := Tryz.isAgg20
  z20 := Tryz.sizeOf20
  v20 := Tryz.zeroValue20
  t31 := Tryz.underlying56
  a31 := Tryz.isAgg56
  z31 := Tryz.sizeOf56
  v31 := Tryz.zeroValue56
  t37 := Tryz.underlying70
  a37 := Tryz.isAgg70
  z37 := Tryz.sizeOf70
  v37 := Tryz.zeroValue70
  t70 := Tryz.underlying78
  a70 := Tryz.isAgg78
  z70 := Tryz.sizeOf78
  v70 := Tryz.zeroValue78
  t72 := Tryz.underlying80
  a72 := Tryz.isAgg80
  z72 := Tryz.sizeOf80
  v72 := Tryz.zeroValue80
  t75 := Tryz.underlying67
  a75 := Tryz.isAgg67
  z75 := Tryz.sizeOf67
  v75 := Tryz.zeroValue67
  t76 := Tryz.underlying82
  a76 := Tryz.isAgg82
  z76 := Tryz.sizeOf82
  v76 := Tryz.zeroValue82
  t127 := Tryz.underlying103
  a127 := Tryz.isAgg103
  z127 := Tryz.sizeOf103
  v127 := Tryz.zeroValue103
  t164 := Tryz.underlying119
  a164 := Tryz.isAgg119
  z164 := Tryz.sizeOf119
  v164 := Tryz.zeroValue119 }
theorem sh_Builder_Extra_156 : Builder.Extra Tryz.prog sh_lays156_ren := {
  sizeBuilder := by kernel_rfl
  liesBuilder := by kernel_rfl
  t5 := Tryz.underlying5
  a5 := Tryz.isAgg5
  z5 := Tryz.sizeOf5
  v5 := Tryz.zeroValue5
  infoByte := by kernel_rfl
  cellsByte := by kernel_rfl
  sizeByte := by kernel_rfl
  neB5 := by decide }
open Go.RowKit in
theorem sh_strings_Join_none (a : Option Addr) (c : Nat) (sep : ByteArray) (w : World) :
    Calls Tryz.prog 61 #[.slice a 0 c, .string sep] w fun e w' => e = .returned (.string ⟨#[]⟩) ∧ w' = w := Any.strings_Join_none sh_lays156 sh_Builder_Extra_156 a c sep w
open Go.RowKit in
theorem sh_strings_Join (bk o c : Nat) (xs : List ByteArray) (sep : ByteArray) (w : World) (hcells : ∀ (j : Nat) x, xs[j]? = some x → w.cell? ⟨bk, o + j, none⟩ = some (.string x)) (hbk : bk < w.heap.size) (hN : xs.length ≤ 140737488355328) (hcap : xs.length ≤ c) (hlen : (Lib.join (xs.map (·.data.toList)) sep.data.toList).length ≤ 140737488355328) :
    Calls Tryz.prog 61 #[.slice (some ⟨bk, o, none⟩) xs.length c, .string sep] w fun e w' => e = .returned (.string ⟨(Lib.join (xs.map (·.data.toList)) sep.data.toList).toArray⟩) ∧ Below w.heap.size w w' := Any.strings_Join sh_lays156 sh_Builder_Extra_156 bk o c xs sep w hcells hbk hN hcap hlen
def sh_lays283_ren : Go.Shelf.Ren := ⟨fun | 283 => 91 | n => n, fun | 3 => 3 | 9 => 9 | 4 => 4 | n => n, fun | n => n⟩
theorem sh_lays283 : Go.Proofs.Lays.n283 Tryz.prog sh_lays283_ren := {
  mixed := by kernel_rfl
  f283 := Tryz.func91.trans (congrArg some (by kernel_rfl))
  t3 := Tryz.underlying3
  a3 := Tryz.isAgg3
  z3 := Tryz.sizeOf3
  v3 := Tryz.zeroValue3
  t4 := Tryz.underlying4
  a4 := Tryz.isAgg4
  z4 := Tryz.sizeOf4
  v4 := Tryz.zeroValue4
  t9 := Tryz.underlying9
  a9 := Tryz.isAgg9
  z9 := Tryz.sizeOf9
  v9 := Tryz.zeroValue9 }
open Go.Lib in
theorem sh_internal_strconv_small (i : Nat) (h : i < 100) (w : World) :
    Calls Tryz.prog 91 #[.int .i64 i] w fun e w' => e = .returned (.string ⟨(Lib.decDigits i).toArray⟩) ∧ w' = w := Any.internal_strconv_small sh_lays283 i h w
def sh_laysM284_ren : Go.Shelf.Ren := ⟨fun | 284 => 92 | 129 => 111 | 317 => 110 | 318 => 112 | n => n, fun | 53 => 49 | 3 => 3 | 212 => 115 | 0 => 0 | 4 => 4 | 46 => 43 | 5 => 5 | 9 => 9 | n => n, fun | 17 => 1 | n => n⟩
theorem sh_laysM284 : Go.Proofs.LaysM.n284 Tryz.prog sh_laysM284_ren := {
  mixed := by kernel_rfl
  f129 := Tryz.func111.trans (congrArg some (by kernel_rfl))
  f284 := Tryz.func92.trans (congrArg some (by kernel_rfl))
  f317 := Tryz.func110.trans (congrArg some (by kernel_rfl))
  f318 := Tryz.func112.trans (congrArg some (by kernel_rfl))
  t0 := Tryz.underlying0
  a0 := Tryz.isAgg0
  z0 := Tryz.sizeOf0
  v0 := Tryz.zeroValue0
  t3 := Tryz.underlying3
  a3 := Tryz.isAgg3
  z3 := Tryz.sizeOf3
  v3 := Tryz.zeroValue3
  t4 := Tryz.underlying4
  a4 := Tryz.isAgg4
  z4 := Tryz.sizeOf4
  v4 := Tryz.zeroValue4
  t5 := Tryz.underlying5
  a5 := Tryz.isAgg5
  z5 := Tryz.sizeOf5
  v5 := Tryz.zeroValue5
  t9 := Tryz.underlying9
  a9 := Tryz.isAgg9
  z9 := Tryz.sizeOf9
  v9 := Tryz.zeroValue9
  t46 := Tryz.underlying43
  a46 := Tryz.isAgg43
  z46 := Tryz.sizeOf43
  v46 := Tryz.zeroValue43
  t53 := Tryz.underlying49
  a53 := Tryz.isAgg49
  z53 := Tryz.sizeOf49
  v53 := Tryz.zeroValue49
  t212 := Tryz.underlying115
  a212 := Tryz.isAgg115
  z212 := Tryz.sizeOf115
  v212 := Tryz.zeroValue115
  g17 := by kernel_rfl
  i0 := by kernel_rfl
  i3 := by kernel_rfl
  i4 := by kernel_rfl
  i5 := by kernel_rfl
  i9 := by kernel_rfl
  i46 := by kernel_rfl
  i53 := by kernel_rfl
  i212 := by kernel_rfl
  m17 := by kernel_rfl }
open Go.Lib in
theorem sh_internal_strconv_numDigits (u : Nat) (h1 : 1 ≤ u) (h2 : u < 18446744073709551616) (w : World) (htab : Lib.TabIs Tryz.prog w "internal/strconv.uint64pow10" .u64 Lib.pow10Tab) :
    Calls Tryz.prog 92 #[.int .u64 u] w fun e w' => e = .returned (.int .i64 (Lib.nDigits u)) ∧ w' = w := Any.internal_strconv_numDigits sh_laysM284 u h1 h2 w htab
def sh_lays285_ren : Go.Shelf.Ren := ⟨fun | 285 => 93 | n => n, fun | 37 => 70 | 53 => 49 | 3 => 3 | 4 => 4 | 51 => 45 | 9 => 9 | 5 => 5 | 0 => 0 | n => n, fun | n => n⟩
theorem sh_lays285 : Go.Proofs.Lays.n285 Tryz.prog sh_lays285_ren := {
  mixed := by kernel_rfl
  f285 := Tryz.func93.trans (congrArg some (by kernel_rfl))
  t0 := Tryz.underlying0
  a0 := Tryz.isAgg0
  z0 := Tryz.sizeOf0
  v0 := Tryz.zeroValue0
  t3 := Tryz.underlying3
  a3 := Tryz.isAgg3
  z3 := Tryz.sizeOf3
  v3 := Tryz.zeroValue3
  t4 := Tryz.underlying4
  a4 := Tryz.isAgg4
  z4 := Tryz.sizeOf4
  v4 := Tryz.zeroValue4
  t5 := Tryz.underlying5
  a5 := Tryz.isAgg5
  z5 := Tryz.sizeOf5
  v5 := Tryz.zeroValue5
  t9 := Tryz.underlying9
  a9 := Tryz.isAgg9
  z9 := Tryz.sizeOf9
  v9 := Tryz.zeroValue9
  t37 := Tryz.underlying70
  a37 := Tryz.isAgg70
  z37 := Tryz.sizeOf70
  v37 := Tryz.zeroValue70
  t51 := Tryz.underlying45
  a51 := Tryz.isAgg45
  z51 := Tryz.sizeOf45
  v51 := Tryz.zeroValue45
  t53 := Tryz.underlying49
  a53 := Tryz.isAgg49
  z53 := Tryz.sizeOf49
  v53 := Tryz.zeroValue49 }
open Go.RowKit Go.Sort Go.Lib in
theorem sh_internal_strconv_formatBase10 (blk off cap : Nat) (u : Nat) (d : Array UInt8) (w : World) (hH : Holds (fun (b : UInt8) => Value.int .u8 (b.toNat : Int)) w blk off d) (hu : u < 10 ^ d.size) (hu64 : u < 18446744073709551616) (hsz : d.size < 4611686018427387904) :
    Calls Tryz.prog 93 #[.slice (some ⟨blk, off, none⟩) d.size cap, .int .u64 u] w fun e w' =>
      e = .returned (.tuple #[]) ∧ ∃ (n v' : Nat) (dk : Array UInt8), w' = (putRow (fun (b : UInt8) => Value.int .u8 (b.toNat : Int)) w blk off dk).drewN n ∧ FmtInv d.size u 0 v' dk := Any.internal_strconv_formatBase10 sh_lays285 blk off cap u d w hH hu hu64 hsz
def sh_lays105_ren : Go.Shelf.Ren := ⟨fun | 105 => 59 | 212 => 75 | 99 => 76 | 165 => 77 | 166 => 78 | 170 => 79 | 169 => 80 | 263 => 95 | 264 => 96 | 206 => 97 | 240 => 98 | 241 => 99 | 276 => 115 | 277 => 116 | n => n, fun | 9 => 9 | 3 => 3 | 4 => 4 | 20 => 20 | 0 => 0 | 46 => 43 | 109 => 75 | 5 => 5 | 72 => 80 | 76 => 82 | 51 => 45 | 146 => 73 | 53 => 49 | 148 => 101 | 70 => 78 | 37 => 70 | 75 => 67 | 127 => 103 | 164 => 119 | 80 => 85 | n => n, fun | n => n⟩
theorem sh_lays105 : Go.Proofs.Lays.n105 Tryz.prog sh_lays105_ren := {
  mixed := by kernel_rfl
  f99 := Tryz.func76.trans (congrArg some (by kernel_rfl))
  f105 := Tryz.func59.trans (congrArg some (by kernel_rfl))
  f165 := Tryz.func77.trans (congrArg some (by kernel_rfl))
  f166 := Tryz.func78.trans (congrArg some (by kernel_rfl))
  f169 := Tryz.func80.trans (congrArg some (by kernel_rfl))
  f170 := Tryz.func79.trans (congrArg some (by kernel_rfl))
  f206 := Tryz.func97.trans (congrArg some (by kernel_rfl))
  f212 := Tryz.func75.trans (congrArg some (by kernel_rfl))
  f240 := Tryz.func98.trans (congrArg some (by kernel_rfl))
  f241 := Tryz.func99.trans (congrArg some (by kernel_rfl))
  f263 := Tryz.func95.trans (congrArg some (by kernel_rfl))
  f264 := Tryz.func96.trans (congrArg some (by kernel_rfl))
  f276 := Tryz.func115.trans (congrArg some (by kernel_rfl))
  f277 := Tryz.func116.trans (congrArg some (by kernel_rfl))
  t0 := Tryz.underlying0
  a0 := Tryz.isAgg0
  z0 := Tryz.sizeOf0
  v0 := Tryz.zeroValue0
  t3 := Tryz.underlying3
  a3 := Tryz.isAgg3
  z3 := Tryz.sizeOf3
  v3 := Tryz.zeroValue3
  t4 := Tryz.underlying4
  a4 := Tryz.isAgg4
  z4 := Tryz.sizeOf4
  v4 := Tryz.zeroValue4
  t5 := Tryz.underlying5
  a5 := Tryz.isAgg5
  z5 := Tryz.sizeOf5
  v5 := Tryz.zeroValue5
  t9 := Tryz.underlying9
  a9 := Tryz.isAgg9
  z9 := Tryz.sizeOf9
  v9 := Tryz.zeroValue9
  t20 := Tryz.underlying20
  a20 := Tryz.isAgg20
  z20 := Tryz.sizeOf20
  v20 := Tryz.zeroValue20
  t37 := Tryz.underlying70
  a37 := Tryz.isAgg70
  z37 := Tryz.sizeOf70
  v37 := Tryz.zeroValue70
  t46 := Tryz.underlying43
  a46 := Tryz.isAgg43
  z46 := Tryz.sizeOf43
  v46 := Tryz.zeroValue43
  t51 := Tryz.underlying45
  a51 := Tryz.isAgg45
  z51 := Tryz.sizeOf45
  v51 := Tryz.zeroValue45
  t53 := Tryz.underlying49
  a53 := Tryz.isAgg49
  z53 := Tryz.sizeOf49
  v53 := Tryz.zeroValue49
  t70 := Tryz.underlying78
  a70 := Tryz.isAgg78
  z70 := Tryz.sizeOf78
  v70 := Tryz.zeroValue78
  t72 := Tryz.underlying80
  a72 := Tryz.isAgg80
  z72 := Tryz.sizeOf80
  v72 := Tryz.zeroValue80
  t75 := Tryz.underlying67
  a75 := Tryz.isAgg67
  z75 := Tryz.sizeOf67
  v75 := Tryz.zeroValue67
  t76 := Tryz.underlying82
  a76 := Tryz.isAgg82
  z76 := Tryz.sizeOf82
  v76 := Tryz.zeroValue82
  t109 := Tryz.underlying75
  a109 := Tryz.isAgg75
  z109 := Tryz.sizeOf75
  v109 := Tryz.zeroValue75
  t127 := Tryz.underlying103
  a127 := Tryz.isAgg103
  z127 := Tryz.sizeOf103
  v127 := Tryz.zeroValue103
  t146 := Tryz.underlying73
  a146 := Tryz.isAgg73
  z146 := Tryz.sizeOf73
  v146 := Tryz.zeroValue73
  t148 := Tryz.underlying101
  a148 := Tryz.isAgg101
  z148 := Tryz.sizeOf101
  v148 := Tryz.zeroValue101
  t164 := Tryz.underlying119
  a164 := Tryz.isAgg119
  z164 := Tryz.sizeOf119
  v164 := Tryz.zeroValue119 }
theorem sh_Builder_Extra_105 : Builder.Extra Tryz.prog sh_lays105_ren := {
  sizeBuilder := by kernel_rfl
  liesBuilder := by kernel_rfl
  t5 := Tryz.underlying5
  a5 := Tryz.isAgg5
  z5 := Tryz.sizeOf5
  v5 := Tryz.zeroValue5
  infoByte := by kernel_rfl
  cellsByte := by kernel_rfl
  sizeByte := by kernel_rfl
  neB5 := by decide }
open Go.RowKit Go.Lib in
theorem sh_strings_Repeat (s : ByteArray) (c : Nat) (w : World) (hc : c ≤ 9223372036854775807) (hlen : s.size * c ≤ 140737488355328) :
    Calls Tryz.prog 59 #[.string s, .int .i64 c] w fun e w' => e = .returned (.string ⟨(Lib.repeatL s.data.toList c).toArray⟩) ∧ Below w.heap.size w w' := Any.strings_Repeat sh_lays105 sh_Builder_Extra_105 s c w hc hlen
end Go.Proofs.YthhghkcopfnbiaaGreatDoor
