/-
  Facts on the types and functions of the program.
-/
import Derived.Test.YtgmiencjoghnnaaDoorDataA
import Derived.Test.YtgmiencjoghnnaaDoorProg
namespace Go.Proofs.YtgmiencjoghnnaaDoor
open Go Go.Proofs.YtgmiencjoghnnaaDoor.Gw Go.RowKit
set_option linter.unusedVariables false
def dPair : Desc Pair := dV (fun x => (x.A, x.B)) (dP (dI .i64) (dI .i64))
theorem dPair_o {w : World} {I : Nat → Prop} {cs : List Value} {x : Pair} (h : dPair.rep w I cs x) : cs = [.int .i64 x.A, .int .i64 x.B] := by
  obtain ⟨c0, d0, rfl, h0, k0⟩ := h
  obtain rfl : c0 = [.int .i64 x.A] := h0
  obtain rfl : d0 = [.int .i64 x.B] := k0
  rfl
theorem dPair_m {w : World} {I : Nat → Prop} {x : Pair} : dPair.rep w I [.int .i64 x.A, .int .i64 x.B] x := by
  exact ⟨[.int .i64 x.A], _, rfl, rfl, rfl⟩
def dGraph : Desc Graph := dV (fun x => (x.N, x.E)) (dP (dI .i64) (dSl dPair))
theorem dGraph_o {w : World} {I : Nat → Prop} {cs : List Value} {x : Graph} (h : dGraph.rep w I cs x) : ∃ v1, cs = [.int .i64 x.N, v1] ∧ RepS dPair w I v1 x.E := by
  obtain ⟨c0, d0, rfl, h0, k0⟩ := h
  obtain rfl : c0 = [.int .i64 x.N] := h0
  obtain ⟨v1, rfl, r1⟩ := k0
  exact ⟨v1, rfl, r1⟩
theorem dGraph_m {w : World} {I : Nat → Prop} {x : Graph} {v1 : Value} (r1 : RepS dPair w I v1 x.E) : dGraph.rep w I [.int .i64 x.N, v1] x := by
  exact ⟨[.int .i64 x.N], _, rfl, rfl, dSl_iff.2 r1⟩
theorem MX : Tryd.prog.follows .mixedOrders = true := by kernel_rfl
theorem T3 : TI Tryd.prog 3 1 8 (.int .i64 0) false := ⟨by kernel_rfl, by kernel_rfl, rfl⟩
theorem T4 : TI Tryd.prog 4 1 1 (.bool false) false := ⟨by kernel_rfl, by kernel_rfl, rfl⟩
theorem T5 : TI Tryd.prog 5 1 1 (.int .u8 0) false := ⟨by kernel_rfl, by kernel_rfl, rfl⟩
theorem T22 : TI Tryd.prog 22 1 24 (.slice none 0 0) false := ⟨by kernel_rfl, by kernel_rfl, rfl⟩
theorem T24 : TI Tryd.prog 24 2 32 (.agg #[(.int .i64 0), (.slice none 0 0)]) true := ⟨by kernel_rfl, by kernel_rfl, rfl⟩
theorem T47 : TI Tryd.prog 47 2 16 (.agg #[(.int .i64 0), (.int .i64 0)]) true := ⟨by kernel_rfl, by kernel_rfl, rfl⟩
theorem T52 : TI Tryd.prog 52 1 8 (.int .u64 0) false := ⟨by kernel_rfl, by kernel_rfl, rfl⟩
theorem T56 : TI Tryd.prog 56 64 64 (.agg (zrow 64 [.bool false]).toArray) true := ⟨by kernel_rfl, by kernel_rfl, by kernel_rfl⟩
theorem T57 : TI Tryd.prog 57 4096 4096 (.agg (zrow 64 (zrow 64 [.bool false])).toArray) true := ⟨by kernel_rfl, by kernel_rfl, by kernel_rfl⟩
theorem FO24_0 : FO Tryd.prog 24 0 0 := by unfold FO; kernel_rfl
theorem FO24_1 : FO Tryd.prog 24 1 1 := by unfold FO; kernel_rfl
theorem FO47_0 : FO Tryd.prog 47 0 0 := by unfold FO; kernel_rfl
theorem FO47_1 : FO Tryd.prog 47 1 1 := by unfold FO; kernel_rfl
theorem PL47 : Places Tryd.prog 47 [(0, 1), (1, 1)] := by unfold Places; kernel_rfl
theorem U5 : (Tryd.prog.underlying 5).isSome = true := by kernel_rfl
theorem U52 : (Tryd.prog.underlying 52).isSome = true := by kernel_rfl
theorem EQ47 (x0 : Int) (x1 : Int) (y0 : Int) (y1 : Int) : EQ Tryd.prog 47 [.int .i64 x0, .int .i64 x1] [.int .i64 y0, .int .i64 y1] ((x0 == y0) && ((x1 == y1) && true)) := ⟨by kernel_rfl, by kernel_rfl, by kernel_rfl, (EqL.int (off := 0) T3 Tryd.underlying3 rfl rfl (EqL.int (off := 1) T3 Tryd.underlying3 rfl rfl EqL.nil)) _ (by kernel_rfl)⟩
theorem C12 : CF Tryd.prog 12 := ⟨_, Tryd.func12, rfl, by kernel_rfl⟩
theorem C13 : CF Tryd.prog 13 := ⟨_, Tryd.func13, rfl, by kernel_rfl⟩
theorem C14 : CF Tryd.prog 14 := ⟨_, Tryd.func14, rfl, by kernel_rfl⟩
theorem C15 : CF Tryd.prog 15 := ⟨_, Tryd.func15, rfl, by kernel_rfl⟩
theorem C16 : CF Tryd.prog 16 := ⟨_, Tryd.func16, rfl, by kernel_rfl⟩
theorem C17 : CF Tryd.prog 17 := ⟨_, Tryd.func17, rfl, by kernel_rfl⟩
theorem C18 : CF Tryd.prog 18 := ⟨_, Tryd.func18, rfl, by kernel_rfl⟩
theorem C19 : CF Tryd.prog 19 := ⟨_, Tryd.func19, rfl, by kernel_rfl⟩
theorem C20 : CF Tryd.prog 20 := ⟨_, Tryd.func20, rfl, by kernel_rfl⟩
theorem C21 : CF Tryd.prog 21 := ⟨_, Tryd.func21, rfl, by kernel_rfl⟩
theorem C22 : CF Tryd.prog 22 := ⟨_, Tryd.func22, rfl, by kernel_rfl⟩
theorem C23 : CF Tryd.prog 23 := ⟨_, Tryd.func23, rfl, by kernel_rfl⟩
theorem C24 : CF Tryd.prog 24 := ⟨_, Tryd.func24, rfl, by kernel_rfl⟩
theorem C25 : CF Tryd.prog 25 := ⟨_, Tryd.func25, rfl, by kernel_rfl⟩
theorem C26 : CF Tryd.prog 26 := ⟨_, Tryd.func26, rfl, by kernel_rfl⟩
theorem C27 : CF Tryd.prog 27 := ⟨_, Tryd.func27, rfl, by kernel_rfl⟩
theorem C28 : CF Tryd.prog 28 := ⟨_, Tryd.func28, rfl, by kernel_rfl⟩
theorem C29 : CF Tryd.prog 29 := ⟨_, Tryd.func29, rfl, by kernel_rfl⟩
theorem C30 : CF Tryd.prog 30 := ⟨_, Tryd.func30, rfl, by kernel_rfl⟩
theorem C31 : CF Tryd.prog 31 := ⟨_, Tryd.func31, rfl, by kernel_rfl⟩
theorem C32 : CF Tryd.prog 32 := ⟨_, Tryd.func32, rfl, by kernel_rfl⟩
theorem C33 : CF Tryd.prog 33 := ⟨_, Tryd.func33, rfl, by kernel_rfl⟩
theorem C34 : CF Tryd.prog 34 := ⟨_, Tryd.func34, rfl, by kernel_rfl⟩
theorem C35 : CF Tryd.prog 35 := ⟨_, Tryd.func35, rfl, by kernel_rfl⟩
theorem C36 : CF Tryd.prog 36 := ⟨_, Tryd.func36, rfl, by kernel_rfl⟩
theorem C37 : CF Tryd.prog 37 := ⟨_, Tryd.func37, rfl, by kernel_rfl⟩
theorem C38 : CF Tryd.prog 38 := ⟨_, Tryd.func38, rfl, by kernel_rfl⟩
theorem C39 : CF Tryd.prog 39 := ⟨_, Tryd.func39, rfl, by kernel_rfl⟩
theorem C40 : CF Tryd.prog 40 := ⟨_, Tryd.func40, rfl, by kernel_rfl⟩
theorem C41 : CF Tryd.prog 41 := ⟨_, Tryd.func41, rfl, by kernel_rfl⟩
theorem C42 : CF Tryd.prog 42 := ⟨_, Tryd.func42, rfl, by kernel_rfl⟩
theorem C43 : CF Tryd.prog 43 := ⟨_, Tryd.func43, rfl, by kernel_rfl⟩
theorem C44 : CF Tryd.prog 44 := ⟨_, Tryd.func44, rfl, by kernel_rfl⟩
theorem C45 : CF Tryd.prog 45 := ⟨_, Tryd.func45, rfl, by kernel_rfl⟩
theorem C46 : CF Tryd.prog 46 := ⟨_, Tryd.func46, rfl, by kernel_rfl⟩
theorem C47 : CF Tryd.prog 47 := ⟨_, Tryd.func47, rfl, by kernel_rfl⟩
theorem C48 : CF Tryd.prog 48 := ⟨_, Tryd.func48, rfl, by kernel_rfl⟩
theorem C49 : CF Tryd.prog 49 := ⟨_, Tryd.func49, rfl, by kernel_rfl⟩
theorem R3 : Rd Tryd.prog 3 (dI .i64) (inK .i64) := Rd.int Tryd.underlying3
theorem R47 : Rd Tryd.prog 47 dPair okPair :=
  (Rd.view (f := fun x : Pair => (x.A, x.B)) (fun a => Pair.mk a.1 a.2) (fun _ => rfl) (Rd.struct Tryd.underlying47 (by kernel_rfl) (RdF.cons rfl (by kernel_rfl) R3 (RdF.one rfl (by kernel_rfl) R3)))).mono fun _ h => h
theorem R22 : Rd Tryd.prog 22 (dSl dPair) (fun xs => (xs.length ≤ maxLen ∧ ∀ yxs ∈ xs, okPair yxs)) := Rd.slice Tryd.underlying22 (by kernel_rfl) (by decide) R47
theorem R24 : Rd Tryd.prog 24 dGraph okGraph :=
  (Rd.view (f := fun x : Graph => (x.N, x.E)) (fun a => Graph.mk a.1 a.2) (fun _ => rfl) (Rd.struct Tryd.underlying24 (by kernel_rfl) (RdF.cons rfl (by kernel_rfl) R3 (RdF.one rfl (by kernel_rfl) R22)))).mono fun _ h => h
theorem R27 : Rd Tryd.prog 27 (dSl (dI .i64)) (fun xs => (xs.length ≤ maxLen ∧ ∀ yxs ∈ xs, inK .i64 yxs)) := Rd.slice Tryd.underlying27 (by kernel_rfl) (by decide) R3
theorem R36 : Rd Tryd.prog 36 (dA 2 (dI .i64)) (fun xs => (xs.length = 2 ∧ ∀ yxs ∈ xs, inK .i64 yxs)) := Rd.array Tryd.underlying36 (by kernel_rfl) (by kernel_rfl) R3
end Go.Proofs.YtgmiencjoghnnaaDoor
