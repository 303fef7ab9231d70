/-
  Facts on the types and functions of the program.
-/
import Derived.Test.YtkhmdpekfcahkaaDataA
import Derived.Test.YtkhmdpekfcahkaaProg
namespace Go.Proofs.Ytkhmdpekfcahkaa
open Go Go.Proofs.Ytkhmdpekfcahkaa.Gw Go.RowKit
set_option linter.unusedVariables false
def dCell : Desc Cell := dV (fun x => (x.X, x.Y)) (dP (dI .i64) (dI .i64))
theorem dCell_o {w : World} {I : Nat → Prop} {cs : List Value} {x : Cell} (h : dCell.rep w I cs x) : cs = [.int .i64 x.X, .int .i64 x.Y] := by
  obtain ⟨c0, d0, rfl, h0, k0⟩ := h
  obtain rfl : c0 = [.int .i64 x.X] := h0
  obtain rfl : d0 = [.int .i64 x.Y] := k0
  rfl
theorem dCell_m {w : World} {I : Nat → Prop} {x : Cell} : dCell.rep w I [.int .i64 x.X, .int .i64 x.Y] x := by
  exact ⟨[.int .i64 x.X], _, rfl, rfl, rfl⟩
def dTask : Desc Task := dV (fun x => (x.Kind, (x.Cell, (x.Limit, x.Tries)))) (dP (dI .i64) (dP dCell (dP (dI .i64) (dI .i64))))
theorem dTask_o {w : World} {I : Nat → Prop} {cs : List Value} {x : Task} (h : dTask.rep w I cs x) : cs = [.int .i64 x.Kind, .int .i64 x.Cell.X, .int .i64 x.Cell.Y, .int .i64 x.Limit, .int .i64 x.Tries] := by
  obtain ⟨c0, d0, rfl, h0, k0⟩ := h
  obtain ⟨c1, d1, rfl, h1, k1⟩ := k0
  obtain ⟨c2, d2, rfl, h2, k2⟩ := k1
  obtain rfl : c0 = [.int .i64 x.Kind] := h0
  obtain rfl := dCell_o h1
  obtain rfl : c2 = [.int .i64 x.Limit] := h2
  obtain rfl : d2 = [.int .i64 x.Tries] := k2
  rfl
theorem dTask_m {w : World} {I : Nat → Prop} {x : Task} : dTask.rep w I [.int .i64 x.Kind, .int .i64 x.Cell.X, .int .i64 x.Cell.Y, .int .i64 x.Limit, .int .i64 x.Tries] x := by
  exact ⟨[.int .i64 x.Kind], _, rfl, rfl, ⟨[.int .i64 x.Cell.X, .int .i64 x.Cell.Y], _, rfl, dCell_m, ⟨[.int .i64 x.Limit], _, rfl, rfl, rfl⟩⟩⟩
def dNodeN : Nat → Desc Node
  | 0 => dNo 4
  | n + 1 => dV (fun x => (x.Kind, (x.Name, (x.Count, x.Kids)))) (dP (dI .i64) (dP (dI .i64) (dP (dI .i64) (dSl (dNodeN n)))))
theorem dNodeN_size : ∀ n, (dNodeN n).size = 4
  | 0 => rfl
  | n + 1 => rfl
theorem dNodeN_up : ∀ n w I cs x, (dNodeN n).rep w I cs x → (dNodeN (n + 1)).rep w I cs x
  | 0, w, I, cs, x, h => h.elim
  | n + 1, w, I, cs, x, h => dP_mapR (fun _ => dP_mapR (fun _ => dP_mapR (fun _ => dSl_map ((dNodeN_size _).trans (dNodeN_size _).symm) (fun cs x h => dNodeN_up n w I cs x h)))) h
def dNode : Desc Node := dUn 4 dNodeN dNodeN_size
def dNodeF : Desc Node := dV (fun x => (x.Kind, (x.Name, (x.Count, x.Kids)))) (dP (dI .i64) (dP (dI .i64) (dP (dI .i64) (dSl dNode))))
theorem dNode_un {w : World} {I : Nat → Prop} {cs : List Value} {x : Node} : dNode.rep w I cs x → dNodeF.rep w I cs x
  | ⟨0, h⟩ => h.elim
  | ⟨n + 1, h⟩ => dP_mapR (fun _ => dP_mapR (fun _ => dP_mapR (fun _ => dSl_un))) h
theorem dNode_fo {w : World} {I : Nat → Prop} {cs : List Value} {x : Node} (h : dNodeF.rep w I cs x) : dNode.rep w I cs x :=
  let ⟨n, h⟩ := (dP_exR (fun _ => dP_exR (fun _ => dP_exR (fun _ => dSl_ex dNodeN_up))) h : ∃ n, (dP _ _ : Desc _).rep w I cs _); ⟨n + 1, h⟩
theorem dNodeF_o {w : World} {I : Nat → Prop} {cs : List Value} {x : Node} (h : dNodeF.rep w I cs x) : ∃ v3, cs = [.int .i64 x.Kind, .int .i64 x.Name, .int .i64 x.Count, v3] ∧ RepS dNode w I v3 x.Kids := by
  obtain ⟨c0, d0, rfl, h0, k0⟩ := h
  obtain ⟨c1, d1, rfl, h1, k1⟩ := k0
  obtain ⟨c2, d2, rfl, h2, k2⟩ := k1
  obtain rfl : c0 = [.int .i64 x.Kind] := h0
  obtain rfl : c1 = [.int .i64 x.Name] := h1
  obtain rfl : c2 = [.int .i64 x.Count] := h2
  obtain ⟨v3, rfl, r3⟩ := k2
  exact ⟨v3, rfl, r3⟩
theorem dNodeF_m {w : World} {I : Nat → Prop} {x : Node} {v3 : Value} (r3 : RepS dNode w I v3 x.Kids) : dNodeF.rep w I [.int .i64 x.Kind, .int .i64 x.Name, .int .i64 x.Count, v3] x := by
  exact ⟨[.int .i64 x.Kind], _, rfl, rfl, ⟨[.int .i64 x.Name], _, rfl, rfl, ⟨[.int .i64 x.Count], _, rfl, rfl, dSl_iff.2 r3⟩⟩⟩
theorem dNode_o {w : World} {I : Nat → Prop} {cs : List Value} {x : Node} (h : dNode.rep w I cs x) : ∃ v3, cs = [.int .i64 x.Kind, .int .i64 x.Name, .int .i64 x.Count, v3] ∧ RepS dNode w I v3 x.Kids := dNodeF_o (dNode_un h)
theorem dNode_m {w : World} {I : Nat → Prop} {x : Node} {v3 : Value} (r3 : RepS dNode w I v3 x.Kids) : dNode.rep w I [.int .i64 x.Kind, .int .i64 x.Name, .int .i64 x.Count, v3] x := dNode_fo (dNodeF_m r3)
def dNode_2 : Desc Node_2 := dV (fun x => (x.kind, (x.name, (x.count, x.kids)))) (dP (dI .i64) (dP (dI .i64) (dP (dI .i64) (dSl (dI .i64)))))
theorem dNode_2_o {w : World} {I : Nat → Prop} {cs : List Value} {x : Node_2} (h : dNode_2.rep w I cs x) : ∃ v3, cs = [.int .i64 x.kind, .int .i64 x.name, .int .i64 x.count, v3] ∧ RepS (dI .i64) w I v3 x.kids := by
  obtain ⟨c0, d0, rfl, h0, k0⟩ := h
  obtain ⟨c1, d1, rfl, h1, k1⟩ := k0
  obtain ⟨c2, d2, rfl, h2, k2⟩ := k1
  obtain rfl : c0 = [.int .i64 x.kind] := h0
  obtain rfl : c1 = [.int .i64 x.name] := h1
  obtain rfl : c2 = [.int .i64 x.count] := h2
  obtain ⟨v3, rfl, r3⟩ := k2
  exact ⟨v3, rfl, r3⟩
theorem dNode_2_m {w : World} {I : Nat → Prop} {x : Node_2} {v3 : Value} (r3 : RepS (dI .i64) w I v3 x.kids) : dNode_2.rep w I [.int .i64 x.kind, .int .i64 x.name, .int .i64 x.count, v3] x := by
  exact ⟨[.int .i64 x.kind], _, rfl, rfl, ⟨[.int .i64 x.name], _, rfl, rfl, ⟨[.int .i64 x.count], _, rfl, rfl, dSl_iff.2 r3⟩⟩⟩
theorem MX : Try.prog.follows .mixedOrders = true := by kernel_rfl
theorem T3 : TI Try.prog 3 1 8 (.int .i64 0) false := ⟨by kernel_rfl, by kernel_rfl, rfl⟩
theorem T4 : TI Try.prog 4 1 1 (.bool false) false := ⟨by kernel_rfl, by kernel_rfl, rfl⟩
theorem T22 : TI Try.prog 22 1 24 (.slice none 0 0) false := ⟨by kernel_rfl, by kernel_rfl, rfl⟩
theorem T31 : TI Try.prog 31 1 24 (.slice none 0 0) false := ⟨by kernel_rfl, by kernel_rfl, rfl⟩
theorem T35 : TI Try.prog 35 2 16 (.agg #[(.int .i64 0), (.int .i64 0)]) true := ⟨by kernel_rfl, by kernel_rfl, rfl⟩
theorem T37 : TI Try.prog 37 5 40 (.agg #[(.int .i64 0), (.int .i64 0), (.int .i64 0), (.int .i64 0), (.int .i64 0)]) true := ⟨by kernel_rfl, by kernel_rfl, rfl⟩
theorem T39 : TI Try.prog 39 1 24 (.slice none 0 0) false := ⟨by kernel_rfl, by kernel_rfl, rfl⟩
theorem T44 : TI Try.prog 44 6 64 (.agg #[(.slice none 0 0), (.int .i64 0), (.int .i64 0), (.int .i64 0), (.int .i64 0), (.int .i64 0)]) true := ⟨by kernel_rfl, by kernel_rfl, rfl⟩
theorem T50 : TI Try.prog 50 1 24 (.slice none 0 0) false := ⟨by kernel_rfl, by kernel_rfl, rfl⟩
theorem T52 : TI Try.prog 52 4 48 (.agg #[(.int .i64 0), (.int .i64 0), (.int .i64 0), (.slice none 0 0)]) true := ⟨by kernel_rfl, by kernel_rfl, rfl⟩
theorem T55 : TI Try.prog 55 1 8 (.pointer none) false := ⟨by kernel_rfl, by kernel_rfl, rfl⟩
theorem T59 : TI Try.prog 59 4 48 (.agg #[(.pointer none), (.slice none 0 0), (.int .i64 0), (.int .i64 0)]) true := ⟨by kernel_rfl, by kernel_rfl, rfl⟩
theorem T68 : TI Try.prog 68 1 24 (.slice none 0 0) false := ⟨by kernel_rfl, by kernel_rfl, rfl⟩
theorem T70 : TI Try.prog 70 3 72 (.agg #[(.slice none 0 0), (.slice none 0 0), (.slice none 0 0)]) true := ⟨by kernel_rfl, by kernel_rfl, rfl⟩
theorem T74 : TI Try.prog 74 4 96 (.agg #[(.slice none 0 0), (.slice none 0 0), (.slice none 0 0), (.slice none 0 0)]) true := ⟨by kernel_rfl, by kernel_rfl, rfl⟩
theorem T78 : TI Try.prog 78 4 48 (.agg #[(.int .i64 0), (.int .i64 0), (.int .i64 0), (.slice none 0 0)]) true := ⟨by kernel_rfl, by kernel_rfl, rfl⟩
theorem FO35_0 : FO Try.prog 35 0 0 := by unfold FO; kernel_rfl
theorem FO35_1 : FO Try.prog 35 1 1 := by unfold FO; kernel_rfl
theorem FO37_0 : FO Try.prog 37 0 0 := by unfold FO; kernel_rfl
theorem FO37_1 : FO Try.prog 37 1 1 := by unfold FO; kernel_rfl
theorem FO37_2 : FO Try.prog 37 2 3 := by unfold FO; kernel_rfl
theorem FO37_3 : FO Try.prog 37 3 4 := by unfold FO; kernel_rfl
theorem FO44_0 : FO Try.prog 44 0 0 := by unfold FO; kernel_rfl
theorem FO44_1 : FO Try.prog 44 1 1 := by unfold FO; kernel_rfl
theorem FO44_2 : FO Try.prog 44 2 2 := by unfold FO; kernel_rfl
theorem FO44_3 : FO Try.prog 44 3 3 := by unfold FO; kernel_rfl
theorem FO44_4 : FO Try.prog 44 4 4 := by unfold FO; kernel_rfl
theorem FO44_5 : FO Try.prog 44 5 5 := by unfold FO; kernel_rfl
theorem FO52_0 : FO Try.prog 52 0 0 := by unfold FO; kernel_rfl
theorem FO52_1 : FO Try.prog 52 1 1 := by unfold FO; kernel_rfl
theorem FO52_2 : FO Try.prog 52 2 2 := by unfold FO; kernel_rfl
theorem FO52_3 : FO Try.prog 52 3 3 := by unfold FO; kernel_rfl
theorem FO59_0 : FO Try.prog 59 0 0 := by unfold FO; kernel_rfl
theorem FO59_1 : FO Try.prog 59 1 1 := by unfold FO; kernel_rfl
theorem FO59_2 : FO Try.prog 59 2 2 := by unfold FO; kernel_rfl
theorem FO59_3 : FO Try.prog 59 3 3 := by unfold FO; kernel_rfl
theorem FO70_0 : FO Try.prog 70 0 0 := by unfold FO; kernel_rfl
theorem FO70_1 : FO Try.prog 70 1 1 := by unfold FO; kernel_rfl
theorem FO70_2 : FO Try.prog 70 2 2 := by unfold FO; kernel_rfl
theorem FO74_0 : FO Try.prog 74 0 0 := by unfold FO; kernel_rfl
theorem FO74_1 : FO Try.prog 74 1 1 := by unfold FO; kernel_rfl
theorem FO74_2 : FO Try.prog 74 2 2 := by unfold FO; kernel_rfl
theorem FO74_3 : FO Try.prog 74 3 3 := by unfold FO; kernel_rfl
theorem FO78_0 : FO Try.prog 78 0 0 := by unfold FO; kernel_rfl
theorem FO78_1 : FO Try.prog 78 1 1 := by unfold FO; kernel_rfl
theorem FO78_2 : FO Try.prog 78 2 2 := by unfold FO; kernel_rfl
theorem FO78_3 : FO Try.prog 78 3 3 := by unfold FO; kernel_rfl
theorem PL35 : Places Try.prog 35 [(0, 1), (1, 1)] := by unfold Places; kernel_rfl
theorem PL37 : Places Try.prog 37 [(0, 1), (1, 2), (3, 1), (4, 1)] := by unfold Places; kernel_rfl
theorem PL44 : Places Try.prog 44 [(0, 1), (1, 1), (2, 1), (3, 1), (4, 1), (5, 1)] := by unfold Places; kernel_rfl
theorem PL52 : Places Try.prog 52 [(0, 1), (1, 1), (2, 1), (3, 1)] := by unfold Places; kernel_rfl
theorem PL59 : Places Try.prog 59 [(0, 1), (1, 1), (2, 1), (3, 1)] := by unfold Places; kernel_rfl
theorem PL70 : Places Try.prog 70 [(0, 1), (1, 1), (2, 1)] := by unfold Places; kernel_rfl
theorem PL74 : Places Try.prog 74 [(0, 1), (1, 1), (2, 1), (3, 1)] := by unfold Places; kernel_rfl
theorem EQ35 (x0 : Int) (x1 : Int) (y0 : Int) (y1 : Int) : EQ Try.prog 35 [.int .i64 x0, .int .i64 x1] [.int .i64 y0, .int .i64 y1] ((x0 == y0) && ((x1 == y1) && true)) := ⟨by kernel_rfl, by kernel_rfl, by kernel_rfl, (EqL.int (off := 0) T3 Try.underlying3 rfl rfl (EqL.int (off := 1) T3 Try.underlying3 rfl rfl EqL.nil)) _ (by kernel_rfl)⟩
abbrev qR (w : World) (I : Nat → Prop) (g : Nat) (E : List Ent) (x : Runner) : Prop := ∃ (v43746 : Value) (v43748 : Value) (e43749 : Ent) (v43751 : Value) (e43752 : Ent), E = some (g, [v43746, v43748, v43751], 70) :: (e43749 :: (e43752 :: [])) ∧ RepS dNode_2 w I v43746 x.nodes ∧ OwnS (dI .i64) 3 w I v43748 e43749 x.counters ∧ OwnS dB 4 w I v43751 e43752 x.active
def qoR (w : World) (I : Nat → Prop) (v : Value) (E : List Ent) : Option Runner → Prop
  | none => v = .pointer none ∧ E = []
  | some x => ∃ g, v = .pointer (some ⟨g, 0, none⟩) ∧ qR w I g E x
abbrev qZ (w : World) (I : Nat → Prop) (g : Nat) (E : List Ent) (x : Runner) : Prop := E = some (g, [(.slice none 0 0), (.slice none 0 0), (.slice none 0 0)], 70) :: [] ∧ x = (Runner.mk [] [] [])
abbrev qN (N : Nat) (w : World) (I : Nat → Prop) (g : Nat) (E : List Ent) (x : Runner) : Prop := ∃ (v43754 : Value), E = some (g, [v43754, (.slice none 0 0), (.slice none 0 0)], 70) :: [] ∧ RepF dNode_2 N w I v43754 x.nodes
abbrev qK (w : World) (I : Nat → Prop) (g : Nat) (E : List Ent) (x : Tick) : Prop := ∃ (v43757 : Value) (v43759 : Value) (v43761 : Value) (e43762 : Ent) (v43764 : Value) (e43765 : Ent), E = some (g, [v43757, v43759, v43761, v43764], 74) :: (e43762 :: (e43765 :: [])) ∧ RepS (dI .i64) w I v43757 x.actions ∧ RepS dB w I v43759 x.tests ∧ OwnS (dI .i64) 3 w I v43761 e43762 x.status ∧ OwnS (dI .i64) 3 w I v43764 e43765 x.ticked
abbrev qF (N : Nat) (w : World) (I : Nat → Prop) (g : Nat) (E : List Ent) (x : Runner) : Prop := ∃ (v43767 : Value) (v43770 : Value) (e43771 : Ent) (v43773 : Value) (e43774 : Ent), E = some (g, [v43767, v43770, v43773], 70) :: (e43771 :: (e43774 :: [])) ∧ RepF dNode_2 N w I v43767 x.nodes ∧ OwnS (dI .i64) 3 w I v43770 e43771 x.counters ∧ OwnS dB 4 w I v43773 e43774 x.active
def qoF (N : Nat) (w : World) (I : Nat → Prop) (v : Value) (E : List Ent) : Option Runner → Prop
  | none => v = .pointer none ∧ E = []
  | some x => ∃ g, v = .pointer (some ⟨g, 0, none⟩) ∧ qF N w I g E x
abbrev qM (w : World) (I : Nat → Prop) (g : Nat) (E : List Ent) (x : Mission) : Prop := ∃ (g43776 : Nat) (E43777 : List Ent) (v43779 : Value) (e43780 : Ent), E = some (g, [(.pointer (some ⟨g43776, 0, none⟩)), v43779, (.int .i64 x.status), (.int .i64 x.ticks)], 59) :: (E43777 ++ (e43780 :: [])) ∧ qR w I g43776 E43777 x.run ∧ OwnS dB 4 w I v43779 e43780 x.done
def qoM (w : World) (I : Nat → Prop) (v : Value) (E : List Ent) : Option Mission → Prop
  | none => v = .pointer none ∧ E = []
  | some x => ∃ g, v = .pointer (some ⟨g, 0, none⟩) ∧ qM w I g E x
def tree_Runner_run_S (f : Runner → Int → Tick → Option (Int × Runner × Tick)) : Prop := ∀ (w0 : World) (I0 : Nat → Prop) (x2543 : Runner) (g2544 : Nat) (E2545 : List Ent) (q2546 : qR w0 I0 g2544 E2545 x2543) (x2547 : Int) (x2548 : Tick) (g2549 : Nat) (E2550 : List Ent) (q2551 : qK w0 I0 g2549 E2550 x2548) (hp : Hp ⟨w0, I0, blks (E2545 ++ E2550)⟩ I0 (E2545 ++ E2550) w0) (r : (Int × Runner × Tick)), f x2543 x2547 x2548 = some r →
    Ret Try.prog 30 #[(.pointer (some ⟨g2544, 0, none⟩)), (.int .i64 x2547), (.pointer (some ⟨g2549, 0, none⟩))] w0 fun v w1 => ∃ (I1 : Nat → Prop) (u2552 : List Ent) (u2553 : List Ent), v = (.int .i64 r.1) ∧ Hp ⟨w0, I0, blks (E2545 ++ E2550)⟩ I1 (u2552 ++ u2553) w1 ∧ qR w1 I1 g2544 u2552 r.2.1 ∧ qK w1 I1 g2549 u2553 r.2.2

theorem C8 : CF Try.prog 8 := ⟨_, Try.func8, rfl, by kernel_rfl⟩
theorem C9 : CF Try.prog 9 := ⟨_, Try.func9, rfl, by kernel_rfl⟩
theorem C10 : CF Try.prog 10 := ⟨_, Try.func10, rfl, by kernel_rfl⟩
theorem C12 : CF Try.prog 12 := ⟨_, Try.func12, rfl, by kernel_rfl⟩
theorem C13 : CF Try.prog 13 := ⟨_, Try.func13, rfl, by kernel_rfl⟩
theorem C14 : CF Try.prog 14 := ⟨_, Try.func14, rfl, by kernel_rfl⟩
theorem C15 : CF Try.prog 15 := ⟨_, Try.func15, rfl, by kernel_rfl⟩
theorem C16 : CF Try.prog 16 := ⟨_, Try.func16, rfl, by kernel_rfl⟩
theorem C17 : CF Try.prog 17 := ⟨_, Try.func17, rfl, by kernel_rfl⟩
theorem C18 : CF Try.prog 18 := ⟨_, Try.func18, rfl, by kernel_rfl⟩
theorem C19 : CF Try.prog 19 := ⟨_, Try.func19, rfl, by kernel_rfl⟩
theorem C20 : CF Try.prog 20 := ⟨_, Try.func20, rfl, by kernel_rfl⟩
theorem C21 : CF Try.prog 21 := ⟨_, Try.func21, rfl, by kernel_rfl⟩
theorem C22 : CF Try.prog 22 := ⟨_, Try.func22, rfl, by kernel_rfl⟩
theorem C23 : CF Try.prog 23 := ⟨_, Try.func23, rfl, by kernel_rfl⟩
theorem C24 : CF Try.prog 24 := ⟨_, Try.func24, rfl, by kernel_rfl⟩
theorem C25 : CF Try.prog 25 := ⟨_, Try.func25, rfl, by kernel_rfl⟩
theorem C26 : CF Try.prog 26 := ⟨_, Try.func26, rfl, by kernel_rfl⟩
theorem C27 : CF Try.prog 27 := ⟨_, Try.func27, rfl, by kernel_rfl⟩
theorem C28 : CF Try.prog 28 := ⟨_, Try.func28, rfl, by kernel_rfl⟩
theorem C29 : CF Try.prog 29 := ⟨_, Try.func29, rfl, by kernel_rfl⟩
theorem C30 : CF Try.prog 30 := ⟨_, Try.func30, rfl, by kernel_rfl⟩
theorem C31 : CF Try.prog 31 := ⟨_, Try.func31, rfl, by kernel_rfl⟩
theorem C32 : CF Try.prog 32 := ⟨_, Try.func32, rfl, by kernel_rfl⟩
theorem C33 : CF Try.prog 33 := ⟨_, Try.func33, rfl, by kernel_rfl⟩
theorem C34 : CF Try.prog 34 := ⟨_, Try.func34, rfl, by kernel_rfl⟩
theorem C35 : CF Try.prog 35 := ⟨_, Try.func35, rfl, by kernel_rfl⟩
theorem C36 : CF Try.prog 36 := ⟨_, Try.func36, rfl, by kernel_rfl⟩
theorem C37 : CF Try.prog 37 := ⟨_, Try.func37, rfl, by kernel_rfl⟩
theorem C38 : CF Try.prog 38 := ⟨_, Try.func38, rfl, by kernel_rfl⟩
theorem C39 : CF Try.prog 39 := ⟨_, Try.func39, rfl, by kernel_rfl⟩
theorem C40 : CF Try.prog 40 := ⟨_, Try.func40, rfl, by kernel_rfl⟩
theorem C41 : CF Try.prog 41 := ⟨_, Try.func41, rfl, by kernel_rfl⟩
theorem R3 : Rd Try.prog 3 (dI .i64) (inK .i64) := Rd.int Try.underlying3
theorem R35 : Rd Try.prog 35 dCell okCell :=
  (Rd.view (f := fun x : Cell => (x.X, x.Y)) (fun a => Cell.mk a.1 a.2) (fun _ => rfl) (Rd.struct Try.underlying35 (by kernel_rfl) (RdF.cons rfl (by kernel_rfl) R3 (RdF.one rfl (by kernel_rfl) R3)))).mono fun _ h => h
theorem R37 : Rd Try.prog 37 dTask okTask :=
  (Rd.view (f := fun x : Task => (x.Kind, (x.Cell, (x.Limit, x.Tries)))) (fun a => Task.mk a.1 a.2.1 a.2.2.1 a.2.2.2) (fun _ => rfl) (Rd.struct Try.underlying37 (by kernel_rfl) (RdF.cons rfl (by kernel_rfl) R3 (RdF.cons rfl (by kernel_rfl) R35 (RdF.cons rfl (by kernel_rfl) R3 (RdF.one rfl (by kernel_rfl) R3)))))).mono fun _ h => h
theorem R22 : Rd Try.prog 22 (dSl dTask) (fun xs => (xs.length ≤ maxLen ∧ ∀ yxs ∈ xs, okTask yxs)) := Rd.slice Try.underlying22 (by kernel_rfl) (by decide) R37
theorem R31 : Rd Try.prog 31 (dSl (dI .i64)) (fun xs => (xs.length ≤ maxLen ∧ ∀ yxs ∈ xs, inK .i64 yxs)) := Rd.slice Try.underlying31 (by kernel_rfl) (by decide) R3
theorem R23 : Rd Try.prog 23 (dSl (dSl (dI .i64))) (fun xs => (xs.length ≤ maxLen ∧ ∀ yxs ∈ xs, (yxs.length ≤ maxLen ∧ ∀ yyxs ∈ yxs, inK .i64 yyxs))) := Rd.slice Try.underlying23 (by kernel_rfl) (by decide) R31
end Go.Proofs.Ytkhmdpekfcahkaa
