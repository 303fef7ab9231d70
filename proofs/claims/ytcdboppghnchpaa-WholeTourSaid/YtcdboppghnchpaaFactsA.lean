/-
  Facts on the types and functions of the program.
-/
import Derived.Test.YtcdboppghnchpaaDataA
import Derived.Test.YtcdboppghnchpaaProg
import Derived.Shelf.SlSortCmp.NoneTotal
import Derived.Ground.SlsfProg
namespace Go.Proofs.Ytcdboppghnchpaa
open Go Go.Proofs.Ytcdboppghnchpaa.Gw Go.RowKit
set_option linter.unusedVariables false
def dPlan : Desc Plan := dV (fun x => (x.W, (x.H, x.Cells))) (dP (dI .i64) (dP (dI .i64) (dSl (dI .u8))))
theorem dPlan_o {w : World} {I : Nat → Prop} {cs : List Value} {x : Plan} (h : dPlan.rep w I cs x) : ∃ v2, cs = [.int .i64 x.W, .int .i64 x.H, v2] ∧ RepS (dI .u8) w I v2 x.Cells := by
  obtain ⟨c0, d0, rfl, h0, k0⟩ := h
  obtain ⟨c1, d1, rfl, h1, k1⟩ := k0
  obtain rfl : c0 = [.int .i64 x.W] := h0
  obtain rfl : c1 = [.int .i64 x.H] := h1
  obtain ⟨v2, rfl, r2⟩ := k1
  exact ⟨v2, rfl, r2⟩
def dCell : Desc Cell := dV (fun x => (x.X, x.Y)) (dP (dI .i64) (dI .i64))
theorem dCell_o {w : World} {I : Nat → Prop} {cs : List Value} {x : Cell} (h : dCell.rep w I cs x) : cs = [.int .i64 x.X, .int .i64 x.Y] := by
  obtain ⟨c0, d0, rfl, h0, k0⟩ := h
  obtain rfl : c0 = [.int .i64 x.X] := h0
  obtain rfl : d0 = [.int .i64 x.Y] := k0
  rfl
theorem dCell_m {w : World} {I : Nat → Prop} {x : Cell} : dCell.rep w I [.int .i64 x.X, .int .i64 x.Y] x := by
  exact ⟨[.int .i64 x.X], _, rfl, rfl, rfl⟩
def dVisit : Desc Visit := dV (fun x => (x.c, x.n_)) (dP dCell (dI .i64))
theorem dVisit_o {w : World} {I : Nat → Prop} {cs : List Value} {x : Visit} (h : dVisit.rep w I cs x) : cs = [.int .i64 x.c.X, .int .i64 x.c.Y, .int .i64 x.n_] := by
  obtain ⟨c0, d0, rfl, h0, k0⟩ := h
  obtain rfl := dCell_o h0
  obtain rfl : d0 = [.int .i64 x.n_] := k0
  rfl
theorem dVisit_m {w : World} {I : Nat → Prop} {x : Visit} : dVisit.rep w I [.int .i64 x.c.X, .int .i64 x.c.Y, .int .i64 x.n_] x := by
  exact ⟨[.int .i64 x.c.X, .int .i64 x.c.Y], _, rfl, dCell_m, rfl⟩
def dGoal : Desc Goal := dV (fun x => (x.Cell, (x.Cost, x.Size))) (dP dCell (dP (dI .i64) (dI .i64)))
theorem dGoal_o {w : World} {I : Nat → Prop} {cs : List Value} {x : Goal} (h : dGoal.rep w I cs x) : cs = [.int .i64 x.Cell.X, .int .i64 x.Cell.Y, .int .i64 x.Cost, .int .i64 x.Size] := by
  obtain ⟨c0, d0, rfl, h0, k0⟩ := h
  obtain ⟨c1, d1, rfl, h1, k1⟩ := k0
  obtain rfl := dCell_o h0
  obtain rfl : c1 = [.int .i64 x.Cost] := h1
  obtain rfl : d1 = [.int .i64 x.Size] := k1
  rfl
theorem dGoal_m {w : World} {I : Nat → Prop} {x : Goal} : dGoal.rep w I [.int .i64 x.Cell.X, .int .i64 x.Cell.Y, .int .i64 x.Cost, .int .i64 x.Size] x := by
  exact ⟨[.int .i64 x.Cell.X, .int .i64 x.Cell.Y], _, rfl, dCell_m, ⟨[.int .i64 x.Cost], _, rfl, rfl, rfl⟩⟩
theorem MX : Try.prog.follows .mixedOrders = true := by kernel_rfl
instance : WkD dPlan := by unfold dPlan; infer_instance
instance : WkD dCell := by unfold dCell; infer_instance
instance : WkD dVisit := by unfold dVisit; infer_instance
instance : WkD dGoal := by unfold dGoal; infer_instance
theorem T3 : TI Try.prog 3 1 8 (.int .i64 0) false := ⟨by kernel_rfl, by kernel_rfl, rfl⟩
theorem T4 : TI Try.prog 4 1 1 (.bool false) false := ⟨by kernel_rfl, by kernel_rfl, rfl⟩
theorem T5 : TI Try.prog 5 1 1 (.int .u8 0) false := ⟨by kernel_rfl, by kernel_rfl, rfl⟩
theorem T22 : TI Try.prog 22 1 24 (.slice none 0 0) false := ⟨by kernel_rfl, by kernel_rfl, rfl⟩
theorem T24 : TI Try.prog 24 3 40 (.agg #[(.int .i64 0), (.int .i64 0), (.slice none 0 0)]) true := ⟨by kernel_rfl, by kernel_rfl, rfl⟩
theorem T26 : TI Try.prog 26 2 16 (.agg #[(.int .i64 0), (.int .i64 0)]) true := ⟨by kernel_rfl, by kernel_rfl, rfl⟩
theorem T28 : TI Try.prog 28 1 24 (.slice none 0 0) false := ⟨by kernel_rfl, by kernel_rfl, rfl⟩
theorem T43 : TI Try.prog 43 4 32 (.agg #[(.int .i64 0), (.int .i64 0), (.int .i64 0), (.int .i64 0)]) true := ⟨by kernel_rfl, by kernel_rfl, rfl⟩
theorem T49 : TI Try.prog 49 8 64 (.agg (zrow 4 [.int .i64 0, .int .i64 0]).toArray) true := ⟨by kernel_rfl, by kernel_rfl, by kernel_rfl⟩
theorem T60 : TI Try.prog 60 16 128 (.agg (zrow 8 [.int .i64 0, .int .i64 0]).toArray) true := ⟨by kernel_rfl, by kernel_rfl, by kernel_rfl⟩
theorem T73 : TI Try.prog 73 3 24 (.agg #[(.int .i64 0), (.int .i64 0), (.int .i64 0)]) true := ⟨by kernel_rfl, by kernel_rfl, rfl⟩
theorem T75 : TI Try.prog 75 1 24 (.slice none 0 0) false := ⟨by kernel_rfl, by kernel_rfl, rfl⟩
theorem T96 : TI Try.prog 96 2 16 (.agg (zrow 2 [.int .i64 0]).toArray) true := ⟨by kernel_rfl, by kernel_rfl, by kernel_rfl⟩
theorem FO24_0 : FO Try.prog 24 0 0 := by unfold FO; kernel_rfl
theorem FO24_1 : FO Try.prog 24 1 1 := by unfold FO; kernel_rfl
theorem FO24_2 : FO Try.prog 24 2 2 := by unfold FO; kernel_rfl
theorem FO26_0 : FO Try.prog 26 0 0 := by unfold FO; kernel_rfl
theorem FO26_1 : FO Try.prog 26 1 1 := by unfold FO; kernel_rfl
theorem FO43_0 : FO Try.prog 43 0 0 := by unfold FO; kernel_rfl
theorem FO43_1 : FO Try.prog 43 1 2 := by unfold FO; kernel_rfl
theorem FO73_0 : FO Try.prog 73 0 0 := by unfold FO; kernel_rfl
theorem FO73_1 : FO Try.prog 73 1 2 := by unfold FO; kernel_rfl
theorem PL24 : Places Try.prog 24 [(0, 1), (1, 1), (2, 1)] := by unfold Places; kernel_rfl
theorem PL26 : Places Try.prog 26 [(0, 1), (1, 1)] := by unfold Places; kernel_rfl
theorem PL43 : Places Try.prog 43 [(0, 2), (2, 1), (3, 1)] := by unfold Places; kernel_rfl
theorem PL73 : Places Try.prog 73 [(0, 2), (2, 1)] := by unfold Places; kernel_rfl
theorem EQ26 (x0 : Int) (x1 : Int) (y0 : Int) (y1 : Int) : EQ Try.prog 26 [.int .i64 x0, .int .i64 x1] [.int .i64 y0, .int .i64 y1] ((x0 == y0) && ((x1 == y1) && true)) := ⟨by kernel_rfl, by kernel_rfl, by kernel_rfl, (EqL.int (off := 0) T3 Try.underlying3 rfl rfl (EqL.int (off := 1) T3 Try.underlying3 rfl rfl EqL.nil)) _ (by kernel_rfl)⟩
theorem EQ43 (x0 : Int) (x1 : Int) (x2 : Int) (x3 : Int) (y0 : Int) (y1 : Int) (y2 : Int) (y3 : Int) : EQ Try.prog 43 [.int .i64 x0, .int .i64 x1, .int .i64 x2, .int .i64 x3] [.int .i64 y0, .int .i64 y1, .int .i64 y2, .int .i64 y3] (((x0 == y0) && ((x1 == y1) && true)) && ((x2 == y2) && ((x3 == y3) && true))) := ⟨by kernel_rfl, by kernel_rfl, by kernel_rfl, (EqL.sub (off := 0) T26 rfl rfl (by kernel_rfl) (by kernel_rfl) (by kernel_rfl) (EqLn.int (off := 0) T3 Try.underlying3 rfl rfl (EqLn.int (off := 1) T3 Try.underlying3 rfl rfl EqLn.nil)) (EqL.int (off := 2) T3 Try.underlying3 rfl rfl (EqL.int (off := 3) T3 Try.underlying3 rfl rfl EqL.nil))) _ (by kernel_rfl)⟩
theorem KE48 : KeyT Try.prog 26 kc48 ke48 := KeyT.of2 (ti := 3) (x := fun k => k.X) (y := fun k => k.Y) (fun _ => rfl) (by kernel_rfl) (by kernel_rfl) T3 Try.underlying3 (fun a b => EQ26 a.X a.Y b.X b.Y) (fun a b h => by cases a; cases b; simpa [ke48] using h)
abbrev qH (w : World) (I : Nat → Prop) (g : Nat) (E : List Ent) (x : (List Visit)) : Prop := ∃ (v1000893 : Value) (e1000894 : Ent), E = some (g, [v1000893], 75) :: (e1000894 :: []) ∧ OwnS dVisit 73 w I v1000893 e1000894 x
theorem C4 : CF Try.prog 4 := ⟨_, Try.func4, rfl, by kernel_rfl⟩
theorem C5 : CF Try.prog 5 := ⟨_, Try.func5, rfl, by kernel_rfl⟩
theorem C6 : CF Try.prog 6 := ⟨_, Try.func6, rfl, by kernel_rfl⟩
theorem C7 : CF Try.prog 7 := ⟨_, Try.func7, rfl, by kernel_rfl⟩
theorem C8 : CF Try.prog 8 := ⟨_, Try.func8, rfl, by kernel_rfl⟩
theorem C9 : CF Try.prog 9 := ⟨_, Try.func9, rfl, by kernel_rfl⟩
theorem C10 : CF Try.prog 10 := ⟨_, Try.func10, rfl, by kernel_rfl⟩
theorem C11 : CF Try.prog 11 := ⟨_, Try.func11, rfl, by kernel_rfl⟩
theorem C12 : CF Try.prog 12 := ⟨_, Try.func12, rfl, by kernel_rfl⟩
theorem C13 : CF Try.prog 13 := ⟨_, Try.func13, rfl, by kernel_rfl⟩
theorem C14 : CF Try.prog 14 := ⟨_, Try.func14, rfl, by kernel_rfl⟩
theorem C15 : CF Try.prog 15 := ⟨_, Try.func15, rfl, by kernel_rfl⟩
theorem C16 : CF Try.prog 16 := ⟨_, Try.func16, rfl, by kernel_rfl⟩
theorem C17 : CF Try.prog 17 := ⟨_, Try.func17, rfl, by kernel_rfl⟩
theorem C19 : CF Try.prog 19 := ⟨_, Try.func19, rfl, by kernel_rfl⟩
theorem C20 : CF Try.prog 20 := ⟨_, Try.func20, rfl, by kernel_rfl⟩
theorem C21 : CF Try.prog 21 := ⟨_, Try.func21, rfl, by kernel_rfl⟩
theorem C22 : CF Try.prog 22 := ⟨_, Try.func22, rfl, by kernel_rfl⟩
theorem C23 : CF Try.prog 23 := ⟨_, Try.func23, rfl, by kernel_rfl⟩
theorem C24 : CF Try.prog 24 := ⟨_, Try.func24, rfl, by kernel_rfl⟩
theorem C25 : CF Try.prog 25 := ⟨_, Try.func25, rfl, by kernel_rfl⟩
theorem C26 : CF Try.prog 26 := ⟨_, Try.func26, rfl, by kernel_rfl⟩
theorem C27 : CF Try.prog 27 := ⟨_, Try.func27, rfl, by kernel_rfl⟩
theorem C28 : CF Try.prog 28 := ⟨_, Try.func28, rfl, by kernel_rfl⟩
theorem C29 : CF Try.prog 29 := ⟨_, Try.func29, rfl, by kernel_rfl⟩
theorem C32 : CF Try.prog 32 := ⟨_, Try.func32, rfl, by kernel_rfl⟩
theorem C33 : CF Try.prog 33 := ⟨_, Try.func33, rfl, by kernel_rfl⟩
theorem C34 : CF Try.prog 34 := ⟨_, Try.func34, rfl, by kernel_rfl⟩
theorem C35 : CF Try.prog 35 := ⟨_, Try.func35, rfl, by kernel_rfl⟩
theorem C36 : CF Try.prog 36 := ⟨_, Try.func36, rfl, by kernel_rfl⟩
theorem C63 : CF Try.prog 63 := ⟨_, Try.func63, rfl, by kernel_rfl⟩
theorem R3 : Rd Try.prog 3 (dI .i64) (inK .i64) := Rd.int Try.underlying3
theorem R5 : Rd Try.prog 5 (dI .u8) (inK .u8) := Rd.int Try.underlying5
theorem R22 : Rd Try.prog 22 (dSl (dI .u8)) (fun xs => (xs.length ≤ maxLen ∧ ∀ yxs ∈ xs, inK .u8 yxs)) := Rd.slice Try.underlying22 (by kernel_rfl) (by decide) R5
theorem R24 : Rd Try.prog 24 dPlan okPlan :=
  (Rd.view (f := fun x : Plan => (x.W, (x.H, x.Cells))) (fun a => Plan.mk a.1 a.2.1 a.2.2) (fun _ => rfl) (Rd.struct Try.underlying24 (by kernel_rfl) (RdF.cons rfl (by kernel_rfl) R3 (RdF.cons rfl (by kernel_rfl) R3 (RdF.one rfl (by kernel_rfl) R22))))).mono fun _ h => h
theorem R26 : Rd Try.prog 26 dCell okCell :=
  (Rd.view (f := fun x : Cell => (x.X, x.Y)) (fun a => Cell.mk a.1 a.2) (fun _ => rfl) (Rd.struct Try.underlying26 (by kernel_rfl) (RdF.cons rfl (by kernel_rfl) R3 (RdF.one rfl (by kernel_rfl) R3)))).mono fun _ h => h
end Go.Proofs.Ytcdboppghnchpaa

namespace Go.Proofs.Ytcdboppghnchpaa
open Go Go.Shelf
def sh_sortCell_ren : Go.Shelf.Ren := ⟨fun | 6 => 29 | 15 => 31 | 14 => 37 | 28 => 46 | 29 => 47 | 20 => 49 | 21 => 50 | 22 => 51 | 23 => 52 | 24 => 53 | 25 => 54 | 26 => 55 | 27 => 56 | 46 => 64 | 47 => 58 | 48 => 59 | 49 => 65 | 50 => 66 | 57 => 68 | n => n, fun | 22 => 28 | 24 => 26 | 25 => 57 | 3 => 3 | 39 => 70 | 0 => 0 | 53 => 90 | 55 => 92 | 4 => 4 | 46 => 83 | 45 => 82 | 50 => 87 | 5 => 5 | 9 => 9 | 66 => 102 | 70 => 77 | 76 => 113 | 77 => 114 | n => n, fun | n => n⟩
theorem sh_sortCell : Go.Proofs.SlLaysF0.n6 Try.prog sh_sortCell_ren := {
  mixed := by kernel_rfl
  f6 := ⟨Try.f29.name, by decide, Try.func29.trans (congrArg some (by kernel_rfl))⟩
  f14 := ⟨Try.f37.name, by decide, Try.func37.trans (congrArg some (by kernel_rfl))⟩
  f15 := Try.func31.trans (congrArg some (by kernel_rfl))
  f20 := ⟨Try.f49.name, by decide, Try.func49.trans (congrArg some (by kernel_rfl))⟩
  f21 := ⟨Try.f50.name, by decide, Try.func50.trans (congrArg some (by kernel_rfl))⟩
  f22 := ⟨Try.f51.name, by decide, Try.func51.trans (congrArg some (by kernel_rfl))⟩
  f23 := ⟨Try.f52.name, by decide, Try.func52.trans (congrArg some (by kernel_rfl))⟩
  f24 := ⟨Try.f53.name, by decide, Try.func53.trans (congrArg some (by kernel_rfl))⟩
  f25 := ⟨Try.f54.name, by decide, Try.func54.trans (congrArg some (by kernel_rfl))⟩
  f26 := ⟨Try.f55.name, by decide, Try.func55.trans (congrArg some (by kernel_rfl))⟩
  f27 := ⟨Try.f56.name, by decide, Try.func56.trans (congrArg some (by kernel_rfl))⟩
  f28 := Try.func46.trans (congrArg some (by kernel_rfl))
  f29 := Try.func47.trans (congrArg some (by kernel_rfl))
  f46 := ⟨Try.f64.name, by decide, Try.func64.trans (congrArg some (by kernel_rfl))⟩
  f47 := Try.func58.trans (congrArg some (by kernel_rfl))
  f48 := Try.func59.trans (congrArg some (by kernel_rfl))
  f49 := ⟨Try.f65.name, by decide, Try.func65.trans (congrArg some (by kernel_rfl))⟩
  f50 := ⟨Try.f66.name, by decide, Try.func66.trans (congrArg some (by kernel_rfl))⟩
  f57 := ⟨Try.f68.name, by decide, Try.func68.trans (congrArg some (by kernel_rfl))⟩
  t0 := Try.underlying0
  a0 := Try.isAgg0
  z0 := Try.sizeOf0
  v0 := Try.zeroValue0
  t3 := Try.underlying3
  a3 := Try.isAgg3
  z3 := Try.sizeOf3
  v3 := Try.zeroValue3
  t4 := Try.underlying4
  a4 := Try.isAgg4
  z4 := Try.sizeOf4
  v4 := Try.zeroValue4
  t5 := Try.underlying5
  a5 := Try.isAgg5
  z5 := Try.sizeOf5
  v5 := Try.zeroValue5
  t9 := Try.underlying9
  a9 := Try.isAgg9
  z9 := Try.sizeOf9
  v9 := Try.zeroValue9
  t22 := Try.underlying28
  a22 := Try.isAgg28
  z22 := Try.sizeOf28
  v22 := Try.zeroValue28
  t25 := Try.underlying57
  a25 := Try.isAgg57
  z25 := Try.sizeOf57
  v25 := Try.zeroValue57
  t39 := Try.underlying70
  a39 := Try.isAgg70
  z39 := Try.sizeOf70
  v39 := Try.zeroValue70
  t45 := Try.underlying82
  a45 := Try.isAgg82
  z45 := Try.sizeOf82
  v45 := Try.zeroValue82
  t46 := Try.underlying83
  a46 := Try.isAgg83
  z46 := Try.sizeOf83
  v46 := Try.zeroValue83
  t50 := Try.underlying87
  a50 := Try.isAgg87
  z50 := Try.sizeOf87
  v50 := Try.zeroValue87
  t53 := Try.underlying90
  a53 := Try.isAgg90
  z53 := Try.sizeOf90
  v53 := Try.zeroValue90
  t55 := Try.underlying92
  a55 := Try.isAgg92
  z55 := Try.sizeOf92
  v55 := Try.zeroValue92
  t66 := Try.underlying102
  a66 := Try.isAgg102
  z66 := Try.sizeOf102
  v66 := Try.zeroValue102
  t70 := Try.underlying77
  a70 := Try.isAgg77
  z70 := Try.sizeOf77
  v70 := Try.zeroValue77
  t76 := Try.underlying113
  a76 := Try.isAgg113
  z76 := Try.sizeOf113
  v76 := Try.zeroValue113
  t77 := Try.underlying114
  a77 := Try.isAgg114
  z77 := Try.sizeOf114
  v77 := Try.zeroValue114 }
def sh_sortGoal_ren : Go.Shelf.Ren := ⟨fun | 6 => 17 | 15 => 31 | 14 => 30 | 28 => 46 | 29 => 47 | 20 => 38 | 21 => 39 | 22 => 40 | 23 => 41 | 24 => 42 | 25 => 43 | 26 => 44 | 27 => 45 | 46 => 57 | 47 => 58 | 48 => 59 | 49 => 60 | 50 => 61 | 57 => 67 | n => n, fun | 22 => 32 | 24 => 43 | 25 => 58 | 3 => 3 | 39 => 70 | 0 => 0 | 53 => 90 | 55 => 92 | 4 => 4 | 46 => 83 | 45 => 82 | 50 => 87 | 5 => 5 | 9 => 9 | 66 => 102 | 70 => 77 | 76 => 113 | 77 => 114 | n => n, fun | n => n⟩
theorem sh_sortGoal : Go.Proofs.SlLaysF0.n6 Try.prog sh_sortGoal_ren := {
  mixed := by kernel_rfl
  f6 := ⟨Try.f17.name, by decide, Try.func17.trans (congrArg some (by kernel_rfl))⟩
  f14 := ⟨Try.f30.name, by decide, Try.func30.trans (congrArg some (by kernel_rfl))⟩
  f15 := Try.func31.trans (congrArg some (by kernel_rfl))
  f20 := ⟨Try.f38.name, by decide, Try.func38.trans (congrArg some (by kernel_rfl))⟩
  f21 := ⟨Try.f39.name, by decide, Try.func39.trans (congrArg some (by kernel_rfl))⟩
  f22 := ⟨Try.f40.name, by decide, Try.func40.trans (congrArg some (by kernel_rfl))⟩
  f23 := ⟨Try.f41.name, by decide, Try.func41.trans (congrArg some (by kernel_rfl))⟩
  f24 := ⟨Try.f42.name, by decide, Try.func42.trans (congrArg some (by kernel_rfl))⟩
  f25 := ⟨Try.f43.name, by decide, Try.func43.trans (congrArg some (by kernel_rfl))⟩
  f26 := ⟨Try.f44.name, by decide, Try.func44.trans (congrArg some (by kernel_rfl))⟩
  f27 := ⟨Try.f45.name, by decide, Try.func45.trans (congrArg some (by kernel_rfl))⟩
  f28 := Try.func46.trans (congrArg some (by kernel_rfl))
  f29 := Try.func47.trans (congrArg some (by kernel_rfl))
  f46 := ⟨Try.f57.name, by decide, Try.func57.trans (congrArg some (by kernel_rfl))⟩
  f47 := Try.func58.trans (congrArg some (by kernel_rfl))
  f48 := Try.func59.trans (congrArg some (by kernel_rfl))
  f49 := ⟨Try.f60.name, by decide, Try.func60.trans (congrArg some (by kernel_rfl))⟩
  f50 := ⟨Try.f61.name, by decide, Try.func61.trans (congrArg some (by kernel_rfl))⟩
  f57 := ⟨Try.f67.name, by decide, Try.func67.trans (congrArg some (by kernel_rfl))⟩
  t0 := Try.underlying0
  a0 := Try.isAgg0
  z0 := Try.sizeOf0
  v0 := Try.zeroValue0
  t3 := Try.underlying3
  a3 := Try.isAgg3
  z3 := Try.sizeOf3
  v3 := Try.zeroValue3
  t4 := Try.underlying4
  a4 := Try.isAgg4
  z4 := Try.sizeOf4
  v4 := Try.zeroValue4
  t5 := Try.underlying5
  a5 := Try.isAgg5
  z5 := Try.sizeOf5
  v5 := Try.zeroValue5
  t9 := Try.underlying9
  a9 := Try.isAgg9
  z9 := Try.sizeOf9
  v9 := Try.zeroValue9
  t22 := Try.underlying32
  a22 := Try.isAgg32
  z22 := Try.sizeOf32
  v22 := Try.zeroValue32
  t25 := Try.underlying58
  a25 := Try.isAgg58
  z25 := Try.sizeOf58
  v25 := Try.zeroValue58
  t39 := Try.underlying70
  a39 := Try.isAgg70
  z39 := Try.sizeOf70
  v39 := Try.zeroValue70
  t45 := Try.underlying82
  a45 := Try.isAgg82
  z45 := Try.sizeOf82
  v45 := Try.zeroValue82
  t46 := Try.underlying83
  a46 := Try.isAgg83
  z46 := Try.sizeOf83
  v46 := Try.zeroValue83
  t50 := Try.underlying87
  a50 := Try.isAgg87
  z50 := Try.sizeOf87
  v50 := Try.zeroValue87
  t53 := Try.underlying90
  a53 := Try.isAgg90
  z53 := Try.sizeOf90
  v53 := Try.zeroValue90
  t55 := Try.underlying92
  a55 := Try.isAgg92
  z55 := Try.sizeOf92
  v55 := Try.zeroValue92
  t66 := Try.underlying102
  a66 := Try.isAgg102
  z66 := Try.sizeOf102
  v66 := Try.zeroValue102
  t70 := Try.underlying77
  a70 := Try.isAgg77
  z70 := Try.sizeOf77
  v70 := Try.zeroValue77
  t76 := Try.underlying113
  a76 := Try.isAgg113
  z76 := Try.sizeOf113
  v76 := Try.zeroValue113
  t77 := Try.underlying114
  a77 := Try.isAgg114
  z77 := Try.sizeOf114
  v77 := Try.zeroValue114 }
end Go.Proofs.Ytcdboppghnchpaa
