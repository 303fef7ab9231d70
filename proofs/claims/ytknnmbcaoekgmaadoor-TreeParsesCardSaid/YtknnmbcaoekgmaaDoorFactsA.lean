/-
  Facts on the types and functions of the program.
-/
import Derived.Test.YtknnmbcaoekgmaaDoorDataA
import Derived.Test.YtknnmbcaoekgmaaDoorProg
import Derived.Shelf.Strings.Builder1
import Derived.Shelf.Small.Strs
import Derived.Shelf.Strconv.Atoi
import Derived.Shelf.Strconv.Itoa3
namespace Go.Proofs.YtknnmbcaoekgmaaDoor
open Go Go.Proofs.YtknnmbcaoekgmaaDoor.Gw Go.RowKit
set_option linter.unusedVariables false
def dNodeN : Nat → Desc Node
  | 0 => dNo 4
  | n + 1 => dV (fun x => (x.Kind, (x.Name, (x.Count, x.Kids)))) (dP (dI .i64) (dP (dI .i64) (dP (dI .i64) (dSl (dNodeN n)))))
theorem dNodeN_size : ∀ n, (dNodeN n).size = 4
  | 0 => rfl
  | n + 1 => rfl
theorem dNodeN_up : ∀ n w I cs x, (dNodeN n).rep w I cs x → (dNodeN (n + 1)).rep w I cs x
  | 0, w, I, cs, x, h => h.elim
  | n + 1, w, I, cs, x, h => dP_mapR (fun _ => dP_mapR (fun _ => dP_mapR (fun _ => dSl_map ((dNodeN_size _).trans (dNodeN_size _).symm) (fun cs x h => dNodeN_up n w I cs x h)))) h
def dNode : Desc Node := dUn 4 dNodeN dNodeN_size
def dNodeF : Desc Node := dV (fun x => (x.Kind, (x.Name, (x.Count, x.Kids)))) (dP (dI .i64) (dP (dI .i64) (dP (dI .i64) (dSl dNode))))
theorem dNode_un {w : World} {I : Nat → Prop} {cs : List Value} {x : Node} : dNode.rep w I cs x → dNodeF.rep w I cs x
  | ⟨0, h⟩ => h.elim
  | ⟨n + 1, h⟩ => dP_mapR (fun _ => dP_mapR (fun _ => dP_mapR (fun _ => dSl_un))) h
theorem dNode_fo {w : World} {I : Nat → Prop} {cs : List Value} {x : Node} (h : dNodeF.rep w I cs x) : dNode.rep w I cs x :=
  let ⟨n, h⟩ := (dP_exR (fun _ => dP_exR (fun _ => dP_exR (fun _ => dSl_ex dNodeN_up))) h : ∃ n, (dP _ _ : Desc _).rep w I cs _); ⟨n + 1, h⟩
theorem dNodeF_o {w : World} {I : Nat → Prop} {cs : List Value} {x : Node} (h : dNodeF.rep w I cs x) : ∃ v3, cs = [.int .i64 x.Kind, .int .i64 x.Name, .int .i64 x.Count, v3] ∧ RepS dNode w I v3 x.Kids := by
  obtain ⟨c0, d0, rfl, h0, k0⟩ := h
  obtain ⟨c1, d1, rfl, h1, k1⟩ := k0
  obtain ⟨c2, d2, rfl, h2, k2⟩ := k1
  obtain rfl : c0 = [.int .i64 x.Kind] := h0
  obtain rfl : c1 = [.int .i64 x.Name] := h1
  obtain rfl : c2 = [.int .i64 x.Count] := h2
  obtain ⟨v3, rfl, r3⟩ := k2
  exact ⟨v3, rfl, r3⟩
theorem dNodeF_m {w : World} {I : Nat → Prop} {x : Node} {v3 : Value} (r3 : RepS dNode w I v3 x.Kids) : dNodeF.rep w I [.int .i64 x.Kind, .int .i64 x.Name, .int .i64 x.Count, v3] x := by
  exact ⟨[.int .i64 x.Kind], _, rfl, rfl, ⟨[.int .i64 x.Name], _, rfl, rfl, ⟨[.int .i64 x.Count], _, rfl, rfl, dSl_iff.2 r3⟩⟩⟩
theorem dNode_o {w : World} {I : Nat → Prop} {cs : List Value} {x : Node} (h : dNode.rep w I cs x) : ∃ v3, cs = [.int .i64 x.Kind, .int .i64 x.Name, .int .i64 x.Count, v3] ∧ RepS dNode w I v3 x.Kids := dNodeF_o (dNode_un h)
theorem dNode_m {w : World} {I : Nat → Prop} {x : Node} {v3 : Value} (r3 : RepS dNode w I v3 x.Kids) : dNode.rep w I [.int .i64 x.Kind, .int .i64 x.Name, .int .i64 x.Count, v3] x := dNode_fo (dNodeF_m r3)
def dNode_2 : Desc Node_2 := dV (fun x => (x.kind, (x.name, (x.count, x.kids)))) (dP (dI .i64) (dP (dI .i64) (dP (dI .i64) (dSl (dI .i64)))))
theorem dNode_2_o {w : World} {I : Nat → Prop} {cs : List Value} {x : Node_2} (h : dNode_2.rep w I cs x) : ∃ v3, cs = [.int .i64 x.kind, .int .i64 x.name, .int .i64 x.count, v3] ∧ RepS (dI .i64) w I v3 x.kids := by
  obtain ⟨c0, d0, rfl, h0, k0⟩ := h
  obtain ⟨c1, d1, rfl, h1, k1⟩ := k0
  obtain ⟨c2, d2, rfl, h2, k2⟩ := k1
  obtain rfl : c0 = [.int .i64 x.kind] := h0
  obtain rfl : c1 = [.int .i64 x.name] := h1
  obtain rfl : c2 = [.int .i64 x.count] := h2
  obtain ⟨v3, rfl, r3⟩ := k2
  exact ⟨v3, rfl, r3⟩
theorem dNode_2_m {w : World} {I : Nat → Prop} {x : Node_2} {v3 : Value} (r3 : RepS (dI .i64) w I v3 x.kids) : dNode_2.rep w I [.int .i64 x.kind, .int .i64 x.name, .int .i64 x.count, v3] x := by
  exact ⟨[.int .i64 x.kind], _, rfl, rfl, ⟨[.int .i64 x.name], _, rfl, rfl, ⟨[.int .i64 x.count], _, rfl, rfl, dSl_iff.2 r3⟩⟩⟩
theorem MX : Tryd.prog.follows .mixedOrders = true := by kernel_rfl
theorem T3 : TI Tryd.prog 3 1 8 (.int .i64 0) false := ⟨by kernel_rfl, by kernel_rfl, rfl⟩
theorem T4 : TI Tryd.prog 4 1 1 (.bool false) false := ⟨by kernel_rfl, by kernel_rfl, rfl⟩
theorem T5 : TI Tryd.prog 5 1 1 (.int .u8 0) false := ⟨by kernel_rfl, by kernel_rfl, rfl⟩
theorem T9 : TI Tryd.prog 9 1 16 (.string ByteArray.empty) false := ⟨by kernel_rfl, by kernel_rfl, rfl⟩
theorem T22 : TI Tryd.prog 22 1 24 (.slice none 0 0) false := ⟨by kernel_rfl, by kernel_rfl, rfl⟩
theorem T24 : TI Tryd.prog 24 4 48 (.agg #[(.int .i64 0), (.int .i64 0), (.int .i64 0), (.slice none 0 0)]) true := ⟨by kernel_rfl, by kernel_rfl, rfl⟩
theorem T37 : TI Tryd.prog 37 1 24 (.slice none 0 0) false := ⟨by kernel_rfl, by kernel_rfl, rfl⟩
theorem T44 : TI Tryd.prog 44 1 24 (.slice none 0 0) false := ⟨by kernel_rfl, by kernel_rfl, rfl⟩
theorem T51 : TI Tryd.prog 51 2 24 (.agg #[(.string ByteArray.empty), (.int .i64 0)]) true := ⟨by kernel_rfl, by kernel_rfl, rfl⟩
theorem T57 : TI Tryd.prog 57 1 24 (.slice none 0 0) false := ⟨by kernel_rfl, by kernel_rfl, rfl⟩
theorem T58 : TI Tryd.prog 58 1 24 (.slice none 0 0) false := ⟨by kernel_rfl, by kernel_rfl, rfl⟩
theorem T60 : TI Tryd.prog 60 3 72 (.agg #[(.slice none 0 0), (.slice none 0 0), (.slice none 0 0)]) true := ⟨by kernel_rfl, by kernel_rfl, rfl⟩
theorem T63 : TI Tryd.prog 63 4 96 (.agg #[(.slice none 0 0), (.slice none 0 0), (.slice none 0 0), (.slice none 0 0)]) true := ⟨by kernel_rfl, by kernel_rfl, rfl⟩
theorem T68 : TI Tryd.prog 68 4 48 (.agg #[(.int .i64 0), (.int .i64 0), (.int .i64 0), (.slice none 0 0)]) true := ⟨by kernel_rfl, by kernel_rfl, rfl⟩
theorem FO24_0 : FO Tryd.prog 24 0 0 := by unfold FO; kernel_rfl
theorem FO24_1 : FO Tryd.prog 24 1 1 := by unfold FO; kernel_rfl
theorem FO24_2 : FO Tryd.prog 24 2 2 := by unfold FO; kernel_rfl
theorem FO24_3 : FO Tryd.prog 24 3 3 := by unfold FO; kernel_rfl
theorem FO46_1 : FO Tryd.prog 46 1 1 := by unfold FO; kernel_rfl
theorem FO51_0 : FO Tryd.prog 51 0 0 := by unfold FO; kernel_rfl
theorem FO51_1 : FO Tryd.prog 51 1 1 := by unfold FO; kernel_rfl
theorem FO60_0 : FO Tryd.prog 60 0 0 := by unfold FO; kernel_rfl
theorem FO60_1 : FO Tryd.prog 60 1 1 := by unfold FO; kernel_rfl
theorem FO60_2 : FO Tryd.prog 60 2 2 := by unfold FO; kernel_rfl
theorem FO63_0 : FO Tryd.prog 63 0 0 := by unfold FO; kernel_rfl
theorem FO63_1 : FO Tryd.prog 63 1 1 := by unfold FO; kernel_rfl
theorem FO63_2 : FO Tryd.prog 63 2 2 := by unfold FO; kernel_rfl
theorem FO63_3 : FO Tryd.prog 63 3 3 := by unfold FO; kernel_rfl
theorem FO68_0 : FO Tryd.prog 68 0 0 := by unfold FO; kernel_rfl
theorem FO68_1 : FO Tryd.prog 68 1 1 := by unfold FO; kernel_rfl
theorem FO68_2 : FO Tryd.prog 68 2 2 := by unfold FO; kernel_rfl
theorem FO68_3 : FO Tryd.prog 68 3 3 := by unfold FO; kernel_rfl
theorem PL24 : Places Tryd.prog 24 [(0, 1), (1, 1), (2, 1), (3, 1)] := by unfold Places; kernel_rfl
theorem PL51 : Places Tryd.prog 51 [(0, 1), (1, 1)] := by unfold Places; kernel_rfl
theorem PL60 : Places Tryd.prog 60 [(0, 1), (1, 1), (2, 1)] := by unfold Places; kernel_rfl
theorem PL63 : Places Tryd.prog 63 [(0, 1), (1, 1), (2, 1), (3, 1)] := by unfold Places; kernel_rfl
theorem U3 : (Tryd.prog.underlying 3).isSome = true := by kernel_rfl
theorem U5 : (Tryd.prog.underlying 5).isSome = true := by kernel_rfl
abbrev qR (w : World) (I : Nat → Prop) (g : Nat) (E : List Ent) (x : Runner) : Prop := ∃ (v7507 : Value) (v7509 : Value) (e7510 : Ent) (v7512 : Value) (e7513 : Ent), E = some (g, [v7507, v7509, v7512], 60) :: (e7510 :: (e7513 :: [])) ∧ RepS dNode_2 w I v7507 x.nodes ∧ OwnS (dI .i64) 3 w I v7509 e7510 x.counters ∧ OwnS dB 4 w I v7512 e7513 x.active
abbrev qZ (w : World) (I : Nat → Prop) (g : Nat) (E : List Ent) (x : Runner) : Prop := E = some (g, [(.slice none 0 0), (.slice none 0 0), (.slice none 0 0)], 60) :: [] ∧ x = (Runner.mk [] [] [])
abbrev qN (N : Nat) (w : World) (I : Nat → Prop) (g : Nat) (E : List Ent) (x : Runner) : Prop := ∃ (v7515 : Value), E = some (g, [v7515, (.slice none 0 0), (.slice none 0 0)], 60) :: [] ∧ RepF dNode_2 N w I v7515 x.nodes
abbrev qK (w : World) (I : Nat → Prop) (g : Nat) (E : List Ent) (x : Tick) : Prop := ∃ (v7518 : Value) (v7520 : Value) (v7522 : Value) (e7523 : Ent) (v7525 : Value) (e7526 : Ent), E = some (g, [v7518, v7520, v7522, v7525], 63) :: (e7523 :: (e7526 :: [])) ∧ RepS (dI .i64) w I v7518 x.actions ∧ RepS dB w I v7520 x.tests ∧ OwnS (dI .i64) 3 w I v7522 e7523 x.status ∧ OwnS (dI .i64) 3 w I v7525 e7526 x.ticked
abbrev qF (N : Nat) (w : World) (I : Nat → Prop) (g : Nat) (E : List Ent) (x : Runner) : Prop := ∃ (v7528 : Value) (v7531 : Value) (e7532 : Ent) (v7534 : Value) (e7535 : Ent), E = some (g, [v7528, v7531, v7534], 60) :: (e7532 :: (e7535 :: [])) ∧ RepF dNode_2 N w I v7528 x.nodes ∧ OwnS (dI .i64) 3 w I v7531 e7532 x.counters ∧ OwnS dB 4 w I v7534 e7535 x.active
def qoF (N : Nat) (w : World) (I : Nat → Prop) (v : Value) (E : List Ent) : Option Runner → Prop
  | none => v = .pointer none ∧ E = []
  | some x => ∃ g, v = .pointer (some ⟨g, 0, none⟩) ∧ qF N w I g E x
abbrev qB (w : World) (I : Nat → Prop) (g : Nat) (E : List Ent) (x : Builder) : Prop := ∃ (v7537 : Value) (v7539 : Value) (e7540 : Ent), E = some (g, [v7537, v7539], 46) :: (e7540 :: []) ∧ SelfP g v7537 ∧ OwnS (dI .u8) 5 w I v7539 e7540 x.buf
abbrev qP (w : World) (I : Nat → Prop) (g : Nat) (E : List Ent) (x : Parser) : Prop := E = some (g, [(.string x.s), (.int .i64 x.nodes)], 51) :: []
def tree_Runner_run_S (f : Runner → Int → Tick → Option (Int × Runner × Tick)) : Prop := ∀ (w0 : World) (I0 : Nat → Prop) (x1976 : Runner) (g1977 : Nat) (E1978 : List Ent) (q1979 : qR w0 I0 g1977 E1978 x1976) (x1980 : Int) (x1981 : Tick) (g1982 : Nat) (E1983 : List Ent) (q1984 : qK w0 I0 g1982 E1983 x1981) (hp : Hp ⟨w0, I0, blks (E1978 ++ E1983)⟩ I0 (E1978 ++ E1983) w0) (r : (Int × Runner × Tick)), f x1976 x1980 x1981 = some r →
    Ret Tryd.prog 27 #[(.pointer (some ⟨g1977, 0, none⟩)), (.int .i64 x1980), (.pointer (some ⟨g1982, 0, none⟩))] w0 fun v w1 => ∃ (I1 : Nat → Prop) (u1985 : List Ent) (u1986 : List Ent), v = (.int .i64 r.1) ∧ Hp ⟨w0, I0, blks (E1978 ++ E1983)⟩ I1 (u1985 ++ u1986) w1 ∧ qR w1 I1 g1977 u1985 r.2.1 ∧ qK w1 I1 g1982 u1986 r.2.2

theorem C5 : CF Tryd.prog 5 := ⟨_, Tryd.func5, rfl, by kernel_rfl⟩
theorem C6 : CF Tryd.prog 6 := ⟨_, Tryd.func6, rfl, by kernel_rfl⟩
theorem C7 : CF Tryd.prog 7 := ⟨_, Tryd.func7, rfl, by kernel_rfl⟩
theorem C8 : CF Tryd.prog 8 := ⟨_, Tryd.func8, rfl, by kernel_rfl⟩
theorem C9 : CF Tryd.prog 9 := ⟨_, Tryd.func9, rfl, by kernel_rfl⟩
theorem C10 : CF Tryd.prog 10 := ⟨_, Tryd.func10, rfl, by kernel_rfl⟩
theorem C11 : CF Tryd.prog 11 := ⟨_, Tryd.func11, rfl, by kernel_rfl⟩
theorem C12 : CF Tryd.prog 12 := ⟨_, Tryd.func12, rfl, by kernel_rfl⟩
theorem C13 : CF Tryd.prog 13 := ⟨_, Tryd.func13, rfl, by kernel_rfl⟩
theorem C14 : CF Tryd.prog 14 := ⟨_, Tryd.func14, rfl, by kernel_rfl⟩
theorem C15 : CF Tryd.prog 15 := ⟨_, Tryd.func15, rfl, by kernel_rfl⟩
theorem C16 : CF Tryd.prog 16 := ⟨_, Tryd.func16, rfl, by kernel_rfl⟩
theorem C17 : CF Tryd.prog 17 := ⟨_, Tryd.func17, rfl, by kernel_rfl⟩
theorem C18 : CF Tryd.prog 18 := ⟨_, Tryd.func18, rfl, by kernel_rfl⟩
theorem C19 : CF Tryd.prog 19 := ⟨_, Tryd.func19, rfl, by kernel_rfl⟩
theorem C20 : CF Tryd.prog 20 := ⟨_, Tryd.func20, rfl, by kernel_rfl⟩
theorem C22 : CF Tryd.prog 22 := ⟨_, Tryd.func22, rfl, by kernel_rfl⟩
theorem C23 : CF Tryd.prog 23 := ⟨_, Tryd.func23, rfl, by kernel_rfl⟩
theorem C24 : CF Tryd.prog 24 := ⟨_, Tryd.func24, rfl, by kernel_rfl⟩
theorem C25 : CF Tryd.prog 25 := ⟨_, Tryd.func25, rfl, by kernel_rfl⟩
theorem C26 : CF Tryd.prog 26 := ⟨_, Tryd.func26, rfl, by kernel_rfl⟩
theorem C27 : CF Tryd.prog 27 := ⟨_, Tryd.func27, rfl, by kernel_rfl⟩
theorem C28 : CF Tryd.prog 28 := ⟨_, Tryd.func28, rfl, by kernel_rfl⟩
theorem C29 : CF Tryd.prog 29 := ⟨_, Tryd.func29, rfl, by kernel_rfl⟩
theorem C30 : CF Tryd.prog 30 := ⟨_, Tryd.func30, rfl, by kernel_rfl⟩
theorem C31 : CF Tryd.prog 31 := ⟨_, Tryd.func31, rfl, by kernel_rfl⟩
theorem C32 : CF Tryd.prog 32 := ⟨_, Tryd.func32, rfl, by kernel_rfl⟩
theorem C33 : CF Tryd.prog 33 := ⟨_, Tryd.func33, rfl, by kernel_rfl⟩
theorem C34 : CF Tryd.prog 34 := ⟨_, Tryd.func34, rfl, by kernel_rfl⟩
theorem C35 : CF Tryd.prog 35 := ⟨_, Tryd.func35, rfl, by kernel_rfl⟩
theorem C36 : CF Tryd.prog 36 := ⟨_, Tryd.func36, rfl, by kernel_rfl⟩
theorem C37 : CF Tryd.prog 37 := ⟨_, Tryd.func37, rfl, by kernel_rfl⟩
theorem C38 : CF Tryd.prog 38 := ⟨_, Tryd.func38, rfl, by kernel_rfl⟩
theorem C39 : CF Tryd.prog 39 := ⟨_, Tryd.func39, rfl, by kernel_rfl⟩
theorem C40 : CF Tryd.prog 40 := ⟨_, Tryd.func40, rfl, by kernel_rfl⟩
theorem C41 : CF Tryd.prog 41 := ⟨_, Tryd.func41, rfl, by kernel_rfl⟩
theorem C42 : CF Tryd.prog 42 := ⟨_, Tryd.func42, rfl, by kernel_rfl⟩
theorem C43 : CF Tryd.prog 43 := ⟨_, Tryd.func43, rfl, by kernel_rfl⟩
theorem C44 : CF Tryd.prog 44 := ⟨_, Tryd.func44, rfl, by kernel_rfl⟩
theorem C45 : CF Tryd.prog 45 := ⟨_, Tryd.func45, rfl, by kernel_rfl⟩
theorem C46 : CF Tryd.prog 46 := ⟨_, Tryd.func46, rfl, by kernel_rfl⟩
theorem C47 : CF Tryd.prog 47 := ⟨_, Tryd.func47, rfl, by kernel_rfl⟩
theorem C48 : CF Tryd.prog 48 := ⟨_, Tryd.func48, rfl, by kernel_rfl⟩
theorem C49 : CF Tryd.prog 49 := ⟨_, Tryd.func49, rfl, by kernel_rfl⟩
theorem C52 : CF Tryd.prog 52 := ⟨_, Tryd.func52, rfl, by kernel_rfl⟩
theorem C53 : CF Tryd.prog 53 := ⟨_, Tryd.func53, rfl, by kernel_rfl⟩
theorem R9 : Rd Tryd.prog 9 dS (fun s => s.size ≤ maxLen) := Rd.string Tryd.underlying9
end Go.Proofs.YtknnmbcaoekgmaaDoor

namespace Go.Proofs.YtknnmbcaoekgmaaDoor
open Go Go.Shelf
def sh_lays169_ren : Go.Shelf.Ren := ⟨fun | 169 => 21 | n => n, fun | 70 => 43 | 9 => 9 | 0 => 0 | 72 => 46 | 37 => 44 | 127 => 77 | 3 => 3 | 5 => 5 | n => n, fun | n => n⟩
theorem sh_lays169 : Go.Proofs.Lays.n169 Tryd.prog sh_lays169_ren := {
  mixed := by kernel_rfl
  f169 := Tryd.func21.trans (congrArg some (by kernel_rfl))
  t0 := Tryd.underlying0
  a0 := Tryd.isAgg0
  z0 := Tryd.sizeOf0
  v0 := Tryd.zeroValue0
  t3 := Tryd.underlying3
  a3 := Tryd.isAgg3
  z3 := Tryd.sizeOf3
  v3 := Tryd.zeroValue3
  t9 := Tryd.underlying9
  a9 := Tryd.isAgg9
  z9 := Tryd.sizeOf9
  v9 := Tryd.zeroValue9
  t37 := Tryd.underlying44
  a37 := Tryd.isAgg44
  z37 := Tryd.sizeOf44
  v37 := Tryd.zeroValue44
  t70 := Tryd.underlying43
  a70 := Tryd.isAgg43
  z70 := Tryd.sizeOf43
  v70 := Tryd.zeroValue43
  t72 := Tryd.underlying46
  a72 := Tryd.isAgg46
  z72 := Tryd.sizeOf46
  v72 := Tryd.zeroValue46
  t127 := Tryd.underlying77
  a127 := Tryd.isAgg77
  z127 := Tryd.sizeOf77
  v127 := Tryd.zeroValue77 }
theorem sh_Builder_Extra_169 : Builder.Extra Tryd.prog sh_lays169_ren := {
  sizeBuilder := by kernel_rfl
  liesBuilder := by kernel_rfl
  t5 := Tryd.underlying5
  a5 := Tryd.isAgg5
  z5 := Tryd.sizeOf5
  v5 := Tryd.zeroValue5
  infoByte := by kernel_rfl
  cellsByte := by kernel_rfl
  sizeByte := by kernel_rfl
  neB5 := by decide }
open Go.RowKit in
theorem sh_Builder_String_any (B b : Nat) (l : List UInt8) (w : World) (h : Lib.IsBuilder 46 5 B b (Lib.byteCells l) w) (hBw : B ≤ w.heap.size) :
    Calls Tryd.prog 21 #[.pointer (some ⟨b, 0, none⟩)] w fun e w' => e = .returned (.string ⟨l.toArray⟩) ∧ Below B w w' := Any.Builder_String_any sh_lays169 sh_Builder_Extra_169 B b l w h hBw
def sh_lays137_ren : Go.Shelf.Ren := ⟨fun | 137 => 39 | 217 => 51 | 266 => 56 | n => n, fun | 9 => 9 | 5 => 5 | 3 => 3 | n => n, fun | n => n⟩
theorem sh_lays137 : Go.Proofs.Lays.n137 Tryd.prog sh_lays137_ren := {
  mixed := by kernel_rfl
  f137 := Tryd.func39.trans (congrArg some (by kernel_rfl))
  f217 := Tryd.func51.trans (congrArg some (by kernel_rfl))
  f266 := Tryd.func56.trans (congrArg some (by kernel_rfl))
  t3 := Tryd.underlying3
  a3 := Tryd.isAgg3
  z3 := Tryd.sizeOf3
  v3 := Tryd.zeroValue3
  t5 := Tryd.underlying5
  a5 := Tryd.isAgg5
  z5 := Tryd.sizeOf5
  v5 := Tryd.zeroValue5
  t9 := Tryd.underlying9
  a9 := Tryd.isAgg9
  z9 := Tryd.sizeOf9
  v9 := Tryd.zeroValue9 }
open Go.RowKit in
theorem sh_strings_IndexByte (s : ByteArray) (c : Int) (w : World) :
    Calls Tryd.prog 39 #[.string s, .int .u8 c] w fun e w' => e = .returned (.int .i64 (Lib.indexByte s.data.toList c.toNat.toUInt8)) ∧ w' = w := Any.strings_IndexByte sh_lays137 s c w
def sh_lays172_ren : Go.Shelf.Ren := ⟨fun | 172 => 52 | 244 => 57 | 245 => 58 | 247 => 63 | 279 => 64 | 280 => 65 | 281 => 66 | 282 => 67 | 287 => 73 | 316 => 74 | 171 => 36 | 205 => 75 | 321 => 78 | 322 => 79 | 243 => 50 | 246 => 55 | 283 => 59 | 284 => 60 | 285 => 61 | 286 => 62 | 129 => 69 | 317 => 68 | 318 => 70 | 319 => 71 | 320 => 72 | 337 => 76 | 338 => 77 | n => n, fun | 9 => 9 | 3 => 3 | 75 => 71 | 76 => 74 | 4 => 4 | 5 => 5 | 167 => 98 | 37 => 44 | 0 => 0 | 85 => 99 | 2 => 2 | 168 => 101 | 53 => 93 | 175 => 112 | 46 => 110 | 210 => 116 | 127 => 77 | 145 => 122 | 143 => 120 | 21 => 21 | 171 => 92 | 173 => 96 | 212 => 106 | 51 => 107 | 20 => 20 | 213 => 108 | 232 => 123 | 233 => 124 | 80 => 48 | n => n, fun | 15 => 2 | 16 => 3 | 17 => 1 | 18 => 4 | 19 => 5 | n => n⟩
theorem sh_lays172 : Go.Proofs.Lays.n172 Tryd.prog sh_lays172_ren := {
  mixed := by kernel_rfl
  f129 := Tryd.func69.trans (congrArg some (by kernel_rfl))
  f171 := Tryd.func36.trans (congrArg some (by kernel_rfl))
  f172 := Tryd.func52.trans (congrArg some (by kernel_rfl))
  f205 := Tryd.func75.trans (congrArg some (by kernel_rfl))
  f243 := Tryd.func50.trans (congrArg some (by kernel_rfl))
  f244 := Tryd.func57.trans (congrArg some (by kernel_rfl))
  f245 := Tryd.func58.trans (congrArg some (by kernel_rfl))
  f246 := Tryd.func55.trans (congrArg some (by kernel_rfl))
  f247 := Tryd.func63.trans (congrArg some (by kernel_rfl))
  f279 := Tryd.func64.trans (congrArg some (by kernel_rfl))
  f280 := Tryd.func65.trans (congrArg some (by kernel_rfl))
  f281 := Tryd.func66.trans (congrArg some (by kernel_rfl))
  f282 := Tryd.func67.trans (congrArg some (by kernel_rfl))
  f283 := Tryd.func59.trans (congrArg some (by kernel_rfl))
  f284 := Tryd.func60.trans (congrArg some (by kernel_rfl))
  f285 := Tryd.func61.trans (congrArg some (by kernel_rfl))
  f286 := Tryd.func62.trans (congrArg some (by kernel_rfl))
  f287 := Tryd.func73.trans (congrArg some (by kernel_rfl))
  f316 := Tryd.func74.trans (congrArg some (by kernel_rfl))
  f317 := Tryd.func68.trans (congrArg some (by kernel_rfl))
  f318 := Tryd.func70.trans (congrArg some (by kernel_rfl))
  f319 := Tryd.func71.trans (congrArg some (by kernel_rfl))
  f320 := Tryd.func72.trans (congrArg some (by kernel_rfl))
  f321 := Tryd.func78.trans (congrArg some (by kernel_rfl))
  f322 := Tryd.func79.trans (congrArg some (by kernel_rfl))
  f337 := Tryd.func76.trans (congrArg some (by kernel_rfl))
  f338 := Tryd.func77.trans (congrArg some (by kernel_rfl))
  t0 := Tryd.underlying0
  a0 := Tryd.isAgg0
  z0 := Tryd.sizeOf0
  v0 := Tryd.zeroValue0
  t2 := Tryd.underlying2
  a2 := Tryd.isAgg2
  z2 := Tryd.sizeOf2
  v2 := Tryd.zeroValue2
  t3 := Tryd.underlying3
  a3 := Tryd.isAgg3
  z3 := Tryd.sizeOf3
  v3 := Tryd.zeroValue3
  t4 := Tryd.underlying4
  a4 := Tryd.isAgg4
  z4 := Tryd.sizeOf4
  v4 := Tryd.zeroValue4
  t5 := Tryd.underlying5
  a5 := Tryd.isAgg5
  z5 := Tryd.sizeOf5
  v5 := Tryd.zeroValue5
  t9 := Tryd.underlying9
  a9 := Tryd.isAgg9
  z9 := Tryd.sizeOf9
  v9 := Tryd.zeroValue9
  t20 := Tryd.underlying20
  a20 := Tryd.isAgg20
  z20 := Tryd.sizeOf20
  v20 := Tryd.zeroValue20
  t21 := Tryd.underlying21
  a21 := Tryd.isAgg21
  z21 := Tryd.sizeOf21
  v21 := Tryd.zeroValue21
  t37 := Tryd.underlying44
  a37 := Tryd.isAgg44
  z37 := Tryd.sizeOf44
  v37 := Tryd.zeroValue44
  t46 := Tryd.underlying110
  a46 := Tryd.isAgg110
  z46 := Tryd.sizeOf110
  v46 := Tryd.zeroValue110
  t51 := Tryd.underlying107
  a51 := Tryd.isAgg107
  z51 := Tryd.sizeOf107
  v51 := Tryd.zeroValue107
  t53 := Tryd.underlying93
  a53 := Tryd.isAgg93
  z53 := Tryd.sizeOf93
  v53 := Tryd.zeroValue93
  t75 := Tryd.underlying71
  a75 := Tryd.isAgg71
  z75 := Tryd.sizeOf71
  v75 := Tryd.zeroValue71
  t76 := Tryd.underlying74
  a76 := Tryd.isAgg74
  z76 := Tryd.sizeOf74
  v76 := Tryd.zeroValue74
  t85 := Tryd.underlying99
  a85 := Tryd.isAgg99
  z85 := Tryd.sizeOf99
  v85 := Tryd.zeroValue99
  t127 := Tryd.underlying77
  a127 := Tryd.isAgg77
  z127 := Tryd.sizeOf77
  v127 := Tryd.zeroValue77
  t143 := Tryd.underlying120
  a143 := Tryd.isAgg120
  z143 := Tryd.sizeOf120
  v143 := Tryd.zeroValue120
  t145 := Tryd.underlying122
  a145 := Tryd.isAgg122
  z145 := Tryd.sizeOf122
  v145 := Tryd.zeroValue122
  t167 := Tryd.underlying98
  a167 := Tryd.isAgg98
  z167 := Tryd.sizeOf98
  v167 := Tryd.zeroValue98
  t168 := Tryd.underlying101
  a168 := Tryd.isAgg101
  z168 := Tryd.sizeOf101
  v168 := Tryd.zeroValue101
  t171 := Tryd.underlying92
  a171 := Tryd.isAgg92
  z171 := Tryd.sizeOf92
  v171 := Tryd.zeroValue92
  t173 := Tryd.underlying96
  a173 := Tryd.isAgg96
  z173 := Tryd.sizeOf96
  v173 := Tryd.zeroValue96
  t175 := Tryd.underlying112
  a175 := Tryd.isAgg112
  z175 := Tryd.sizeOf112
  v175 := Tryd.zeroValue112
  t210 := Tryd.underlying116
  a210 := Tryd.isAgg116
  z210 := Tryd.sizeOf116
  v210 := Tryd.zeroValue116
  t212 := Tryd.underlying106
  a212 := Tryd.isAgg106
  z212 := Tryd.sizeOf106
  v212 := Tryd.zeroValue106
  t213 := Tryd.underlying108
  a213 := Tryd.isAgg108
  z213 := Tryd.sizeOf108
  t232 := Tryd.underlying123
  a232 := Tryd.isAgg123
  z232 := Tryd.sizeOf123
  v232 := Tryd.zeroValue123
  t233 := Tryd.underlying124
  a233 := Tryd.isAgg124
  z233 := Tryd.sizeOf124
  v233 := Tryd.zeroValue124
  g15 := by kernel_rfl
  g16 := by kernel_rfl
  g17 := by kernel_rfl
  g18 := by kernel_rfl
  g19 := by kernel_rfl }
open Go.RowKit in
theorem sh_strconv_Atoi (s : ByteArray) (n : Int) (hl : s.size ≤ 18) (h : Lib.atoi s.data.toList = some n) (w : World) :
    Calls Tryd.prog 52 #[.string s] w fun e w' => e = .returned (.tuple #[.int .i64 n, .nilIface]) ∧ ∃ t, w' = Lib.bytesWorld w 5 t := Any.strconv_Atoi sh_lays172 s n hl h w
def sh_laysM171_ren : Go.Shelf.Ren := ⟨fun | 171 => 36 | 243 => 50 | 246 => 55 | 283 => 59 | 284 => 60 | 285 => 61 | 286 => 62 | 129 => 69 | 317 => 68 | 318 => 70 | 319 => 71 | 320 => 72 | 337 => 76 | 338 => 77 | n => n, fun | 3 => 3 | 9 => 9 | 2 => 2 | 4 => 4 | 171 => 92 | 0 => 0 | 53 => 93 | 37 => 44 | 5 => 5 | 173 => 96 | 212 => 106 | 51 => 107 | 20 => 20 | 213 => 108 | 46 => 110 | 232 => 123 | 233 => 124 | n => n, fun | 17 => 1 | 18 => 4 | 19 => 5 | n => n⟩
theorem sh_laysM171 : Go.Proofs.LaysM.n171 Tryd.prog sh_laysM171_ren := {
  mixed := by kernel_rfl
  f129 := Tryd.func69.trans (congrArg some (by kernel_rfl))
  f171 := Tryd.func36.trans (congrArg some (by kernel_rfl))
  f243 := Tryd.func50.trans (congrArg some (by kernel_rfl))
  f246 := Tryd.func55.trans (congrArg some (by kernel_rfl))
  f283 := Tryd.func59.trans (congrArg some (by kernel_rfl))
  f284 := Tryd.func60.trans (congrArg some (by kernel_rfl))
  f285 := Tryd.func61.trans (congrArg some (by kernel_rfl))
  f286 := Tryd.func62.trans (congrArg some (by kernel_rfl))
  f317 := Tryd.func68.trans (congrArg some (by kernel_rfl))
  f318 := Tryd.func70.trans (congrArg some (by kernel_rfl))
  f319 := Tryd.func71.trans (congrArg some (by kernel_rfl))
  f320 := Tryd.func72.trans (congrArg some (by kernel_rfl))
  f337 := Tryd.func76.trans (congrArg some (by kernel_rfl))
  f338 := Tryd.func77.trans (congrArg some (by kernel_rfl))
  t0 := Tryd.underlying0
  a0 := Tryd.isAgg0
  z0 := Tryd.sizeOf0
  v0 := Tryd.zeroValue0
  t2 := Tryd.underlying2
  a2 := Tryd.isAgg2
  z2 := Tryd.sizeOf2
  v2 := Tryd.zeroValue2
  t3 := Tryd.underlying3
  a3 := Tryd.isAgg3
  z3 := Tryd.sizeOf3
  v3 := Tryd.zeroValue3
  t4 := Tryd.underlying4
  a4 := Tryd.isAgg4
  z4 := Tryd.sizeOf4
  v4 := Tryd.zeroValue4
  t5 := Tryd.underlying5
  a5 := Tryd.isAgg5
  z5 := Tryd.sizeOf5
  v5 := Tryd.zeroValue5
  t9 := Tryd.underlying9
  a9 := Tryd.isAgg9
  z9 := Tryd.sizeOf9
  v9 := Tryd.zeroValue9
  t20 := Tryd.underlying20
  a20 := Tryd.isAgg20
  z20 := Tryd.sizeOf20
  v20 := Tryd.zeroValue20
  t37 := Tryd.underlying44
  a37 := Tryd.isAgg44
  z37 := Tryd.sizeOf44
  v37 := Tryd.zeroValue44
  t46 := Tryd.underlying110
  a46 := Tryd.isAgg110
  z46 := Tryd.sizeOf110
  v46 := Tryd.zeroValue110
  t51 := Tryd.underlying107
  a51 := Tryd.isAgg107
  z51 := Tryd.sizeOf107
  v51 := Tryd.zeroValue107
  t53 := Tryd.underlying93
  a53 := Tryd.isAgg93
  z53 := Tryd.sizeOf93
  v53 := Tryd.zeroValue93
  t171 := Tryd.underlying92
  a171 := Tryd.isAgg92
  z171 := Tryd.sizeOf92
  v171 := Tryd.zeroValue92
  t173 := Tryd.underlying96
  a173 := Tryd.isAgg96
  z173 := Tryd.sizeOf96
  v173 := Tryd.zeroValue96
  t212 := Tryd.underlying106
  a212 := Tryd.isAgg106
  z212 := Tryd.sizeOf106
  v212 := Tryd.zeroValue106
  t213 := Tryd.underlying108
  a213 := Tryd.isAgg108
  z213 := Tryd.sizeOf108
  t232 := Tryd.underlying123
  a232 := Tryd.isAgg123
  z232 := Tryd.sizeOf123
  v232 := Tryd.zeroValue123
  t233 := Tryd.underlying124
  a233 := Tryd.isAgg124
  z233 := Tryd.sizeOf124
  v233 := Tryd.zeroValue124
  g17 := by kernel_rfl
  g18 := by kernel_rfl
  g19 := by kernel_rfl
  i0 := by kernel_rfl
  i2 := by kernel_rfl
  i3 := by kernel_rfl
  i4 := by kernel_rfl
  i5 := by kernel_rfl
  i9 := by kernel_rfl
  i20 := by kernel_rfl
  i37 := by kernel_rfl
  i46 := by kernel_rfl
  i51 := by kernel_rfl
  i53 := by kernel_rfl
  i171 := by kernel_rfl
  i173 := by kernel_rfl
  i212 := by kernel_rfl
  i232 := by kernel_rfl
  i233 := by kernel_rfl
  m17 := by kernel_rfl
  m18 := by kernel_rfl
  m19 := by kernel_rfl }
open Go.RowKit Go.Sort Go.Lib in
theorem sh_strconv_Itoa (n : Int) (h0 : -9223372036854775808 ≤ n) (h1 : n ≤ 9223372036854775807) (w : World) (htab : Lib.TabIs Tryd.prog w "internal/strconv.uint64pow10" .u64 Lib.pow10Tab) :
    Calls Tryd.prog 36 #[.int .i64 n] w fun e w' => e = .returned (.string ⟨(Lib.itoa n).toArray⟩) ∧ ∃ k os, w' = grow (w.drewN k) os := Any.strconv_Itoa sh_laysM171 n h0 h1 w htab
end Go.Proofs.YtknnmbcaoekgmaaDoor
