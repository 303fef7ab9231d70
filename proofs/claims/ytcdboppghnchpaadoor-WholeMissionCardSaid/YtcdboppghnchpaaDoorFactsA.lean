/-
  Facts on the types and functions of the program.
-/
import Derived.Test.YtcdboppghnchpaaDoorDataA
import Derived.Test.YtcdboppghnchpaaDoorProg
import Derived.Shelf.Strings.Builder1
import Derived.Shelf.Small.Strs
import Derived.Shelf.Strconv.Atoi
import Derived.Shelf.Strconv.Itoa3
namespace Go.Proofs.YtcdboppghnchpaaDoor
open Go Go.Proofs.YtcdboppghnchpaaDoor.Gw Go.RowKit
set_option linter.unusedVariables false
def dCell : Desc Cell := dV (fun x => (x.X, x.Y)) (dP (dI .i64) (dI .i64))
theorem dCell_o {w : World} {I : Nat → Prop} {cs : List Value} {x : Cell} (h : dCell.rep w I cs x) : cs = [.int .i64 x.X, .int .i64 x.Y] := by
  obtain ⟨c0, d0, rfl, h0, k0⟩ := h
  obtain rfl : c0 = [.int .i64 x.X] := h0
  obtain rfl : d0 = [.int .i64 x.Y] := k0
  rfl
theorem dCell_m {w : World} {I : Nat → Prop} {x : Cell} : dCell.rep w I [.int .i64 x.X, .int .i64 x.Y] x := by
  exact ⟨[.int .i64 x.X], _, rfl, rfl, rfl⟩
def dTask : Desc Task := dV (fun x => (x.Kind, (x.Cell, (x.Limit, x.Tries)))) (dP (dI .i64) (dP dCell (dP (dI .i64) (dI .i64))))
theorem dTask_o {w : World} {I : Nat → Prop} {cs : List Value} {x : Task} (h : dTask.rep w I cs x) : cs = [.int .i64 x.Kind, .int .i64 x.Cell.X, .int .i64 x.Cell.Y, .int .i64 x.Limit, .int .i64 x.Tries] := by
  obtain ⟨c0, d0, rfl, h0, k0⟩ := h
  obtain ⟨c1, d1, rfl, h1, k1⟩ := k0
  obtain ⟨c2, d2, rfl, h2, k2⟩ := k1
  obtain rfl : c0 = [.int .i64 x.Kind] := h0
  obtain rfl := dCell_o h1
  obtain rfl : c2 = [.int .i64 x.Limit] := h2
  obtain rfl : d2 = [.int .i64 x.Tries] := k2
  rfl
theorem dTask_m {w : World} {I : Nat → Prop} {x : Task} : dTask.rep w I [.int .i64 x.Kind, .int .i64 x.Cell.X, .int .i64 x.Cell.Y, .int .i64 x.Limit, .int .i64 x.Tries] x := by
  exact ⟨[.int .i64 x.Kind], _, rfl, rfl, ⟨[.int .i64 x.Cell.X, .int .i64 x.Cell.Y], _, rfl, dCell_m, ⟨[.int .i64 x.Limit], _, rfl, rfl, rfl⟩⟩⟩
def dNodeN : Nat → Desc Node
  | 0 => dNo 4
  | n + 1 => dV (fun x => (x.Kind, (x.Name, (x.Count, x.Kids)))) (dP (dI .i64) (dP (dI .i64) (dP (dI .i64) (dSl (dNodeN n)))))
theorem dNodeN_size : ∀ n, (dNodeN n).size = 4
  | 0 => rfl
  | n + 1 => rfl
theorem dNodeN_up : ∀ n w I cs x, (dNodeN n).rep w I cs x → (dNodeN (n + 1)).rep w I cs x
  | 0, w, I, cs, x, h => h.elim
  | n + 1, w, I, cs, x, h => dP_mapR (fun _ => dP_mapR (fun _ => dP_mapR (fun _ => dSl_map ((dNodeN_size _).trans (dNodeN_size _).symm) (fun cs x h => dNodeN_up n w I cs x h)))) h
def dNode : Desc Node := dUn 4 dNodeN dNodeN_size
def dNodeF : Desc Node := dV (fun x => (x.Kind, (x.Name, (x.Count, x.Kids)))) (dP (dI .i64) (dP (dI .i64) (dP (dI .i64) (dSl dNode))))
theorem dNode_un {w : World} {I : Nat → Prop} {cs : List Value} {x : Node} : dNode.rep w I cs x → dNodeF.rep w I cs x
  | ⟨0, h⟩ => h.elim
  | ⟨n + 1, h⟩ => dP_mapR (fun _ => dP_mapR (fun _ => dP_mapR (fun _ => dSl_un))) h
theorem dNode_fo {w : World} {I : Nat → Prop} {cs : List Value} {x : Node} (h : dNodeF.rep w I cs x) : dNode.rep w I cs x :=
  let ⟨n, h⟩ := (dP_exR (fun _ => dP_exR (fun _ => dP_exR (fun _ => dSl_ex dNodeN_up))) h : ∃ n, (dP _ _ : Desc _).rep w I cs _); ⟨n + 1, h⟩
theorem dNodeF_o {w : World} {I : Nat → Prop} {cs : List Value} {x : Node} (h : dNodeF.rep w I cs x) : ∃ v3, cs = [.int .i64 x.Kind, .int .i64 x.Name, .int .i64 x.Count, v3] ∧ RepS dNode w I v3 x.Kids := by
  obtain ⟨c0, d0, rfl, h0, k0⟩ := h
  obtain ⟨c1, d1, rfl, h1, k1⟩ := k0
  obtain ⟨c2, d2, rfl, h2, k2⟩ := k1
  obtain rfl : c0 = [.int .i64 x.Kind] := h0
  obtain rfl : c1 = [.int .i64 x.Name] := h1
  obtain rfl : c2 = [.int .i64 x.Count] := h2
  obtain ⟨v3, rfl, r3⟩ := k2
  exact ⟨v3, rfl, r3⟩
theorem dNodeF_m {w : World} {I : Nat → Prop} {x : Node} {v3 : Value} (r3 : RepS dNode w I v3 x.Kids) : dNodeF.rep w I [.int .i64 x.Kind, .int .i64 x.Name, .int .i64 x.Count, v3] x := by
  exact ⟨[.int .i64 x.Kind], _, rfl, rfl, ⟨[.int .i64 x.Name], _, rfl, rfl, ⟨[.int .i64 x.Count], _, rfl, rfl, dSl_iff.2 r3⟩⟩⟩
theorem dNode_o {w : World} {I : Nat → Prop} {cs : List Value} {x : Node} (h : dNode.rep w I cs x) : ∃ v3, cs = [.int .i64 x.Kind, .int .i64 x.Name, .int .i64 x.Count, v3] ∧ RepS dNode w I v3 x.Kids := dNodeF_o (dNode_un h)
theorem dNode_m {w : World} {I : Nat → Prop} {x : Node} {v3 : Value} (r3 : RepS dNode w I v3 x.Kids) : dNode.rep w I [.int .i64 x.Kind, .int .i64 x.Name, .int .i64 x.Count, v3] x := dNode_fo (dNodeF_m r3)
def dNode_2 : Desc Node_2 := dV (fun x => (x.kind, (x.name, (x.count, x.kids)))) (dP (dI .i64) (dP (dI .i64) (dP (dI .i64) (dSl (dI .i64)))))
theorem dNode_2_o {w : World} {I : Nat → Prop} {cs : List Value} {x : Node_2} (h : dNode_2.rep w I cs x) : ∃ v3, cs = [.int .i64 x.kind, .int .i64 x.name, .int .i64 x.count, v3] ∧ RepS (dI .i64) w I v3 x.kids := by
  obtain ⟨c0, d0, rfl, h0, k0⟩ := h
  obtain ⟨c1, d1, rfl, h1, k1⟩ := k0
  obtain ⟨c2, d2, rfl, h2, k2⟩ := k1
  obtain rfl : c0 = [.int .i64 x.kind] := h0
  obtain rfl : c1 = [.int .i64 x.name] := h1
  obtain rfl : c2 = [.int .i64 x.count] := h2
  obtain ⟨v3, rfl, r3⟩ := k2
  exact ⟨v3, rfl, r3⟩
theorem dNode_2_m {w : World} {I : Nat → Prop} {x : Node_2} {v3 : Value} (r3 : RepS (dI .i64) w I v3 x.kids) : dNode_2.rep w I [.int .i64 x.kind, .int .i64 x.name, .int .i64 x.count, v3] x := by
  exact ⟨[.int .i64 x.kind], _, rfl, rfl, ⟨[.int .i64 x.name], _, rfl, rfl, ⟨[.int .i64 x.count], _, rfl, rfl, dSl_iff.2 r3⟩⟩⟩
theorem MX : Tryd.prog.follows .mixedOrders = true := by kernel_rfl
theorem T3 : TI Tryd.prog 3 1 8 (.int .i64 0) false := ⟨by kernel_rfl, by kernel_rfl, rfl⟩
theorem T4 : TI Tryd.prog 4 1 1 (.bool false) false := ⟨by kernel_rfl, by kernel_rfl, rfl⟩
theorem T5 : TI Tryd.prog 5 1 1 (.int .u8 0) false := ⟨by kernel_rfl, by kernel_rfl, rfl⟩
theorem T9 : TI Tryd.prog 9 1 16 (.string ByteArray.empty) false := ⟨by kernel_rfl, by kernel_rfl, rfl⟩
theorem T55 : TI Tryd.prog 55 1 24 (.slice none 0 0) false := ⟨by kernel_rfl, by kernel_rfl, rfl⟩
theorem T57 : TI Tryd.prog 57 4 48 (.agg #[(.int .i64 0), (.int .i64 0), (.int .i64 0), (.slice none 0 0)]) true := ⟨by kernel_rfl, by kernel_rfl, rfl⟩
theorem T62 : TI Tryd.prog 62 1 8 (.pointer none) false := ⟨by kernel_rfl, by kernel_rfl, rfl⟩
theorem T65 : TI Tryd.prog 65 1 24 (.slice none 0 0) false := ⟨by kernel_rfl, by kernel_rfl, rfl⟩
theorem T66 : TI Tryd.prog 66 1 24 (.slice none 0 0) false := ⟨by kernel_rfl, by kernel_rfl, rfl⟩
theorem T89 : TI Tryd.prog 89 5 40 (.agg #[(.int .i64 0), (.int .i64 0), (.int .i64 0), (.int .i64 0), (.int .i64 0)]) true := ⟨by kernel_rfl, by kernel_rfl, rfl⟩
theorem T91 : TI Tryd.prog 91 4 48 (.agg #[(.pointer none), (.slice none 0 0), (.int .i64 0), (.int .i64 0)]) true := ⟨by kernel_rfl, by kernel_rfl, rfl⟩
theorem T96 : TI Tryd.prog 96 2 24 (.agg #[(.string ByteArray.empty), (.int .i64 0)]) true := ⟨by kernel_rfl, by kernel_rfl, rfl⟩
theorem T101 : TI Tryd.prog 101 1 24 (.slice none 0 0) false := ⟨by kernel_rfl, by kernel_rfl, rfl⟩
theorem T106 : TI Tryd.prog 106 1 24 (.slice none 0 0) false := ⟨by kernel_rfl, by kernel_rfl, rfl⟩
theorem T108 : TI Tryd.prog 108 3 72 (.agg #[(.slice none 0 0), (.slice none 0 0), (.slice none 0 0)]) true := ⟨by kernel_rfl, by kernel_rfl, rfl⟩
theorem T113 : TI Tryd.prog 113 4 96 (.agg #[(.slice none 0 0), (.slice none 0 0), (.slice none 0 0), (.slice none 0 0)]) true := ⟨by kernel_rfl, by kernel_rfl, rfl⟩
theorem T117 : TI Tryd.prog 117 4 48 (.agg #[(.int .i64 0), (.int .i64 0), (.int .i64 0), (.slice none 0 0)]) true := ⟨by kernel_rfl, by kernel_rfl, rfl⟩
theorem FO57_0 : FO Tryd.prog 57 0 0 := by unfold FO; kernel_rfl
theorem FO57_1 : FO Tryd.prog 57 1 1 := by unfold FO; kernel_rfl
theorem FO57_2 : FO Tryd.prog 57 2 2 := by unfold FO; kernel_rfl
theorem FO57_3 : FO Tryd.prog 57 3 3 := by unfold FO; kernel_rfl
theorem FO87_0 : FO Tryd.prog 87 0 0 := by unfold FO; kernel_rfl
theorem FO87_1 : FO Tryd.prog 87 1 1 := by unfold FO; kernel_rfl
theorem FO89_0 : FO Tryd.prog 89 0 0 := by unfold FO; kernel_rfl
theorem FO89_1 : FO Tryd.prog 89 1 1 := by unfold FO; kernel_rfl
theorem FO89_2 : FO Tryd.prog 89 2 3 := by unfold FO; kernel_rfl
theorem FO89_3 : FO Tryd.prog 89 3 4 := by unfold FO; kernel_rfl
theorem FO91_0 : FO Tryd.prog 91 0 0 := by unfold FO; kernel_rfl
theorem FO91_1 : FO Tryd.prog 91 1 1 := by unfold FO; kernel_rfl
theorem FO91_2 : FO Tryd.prog 91 2 2 := by unfold FO; kernel_rfl
theorem FO91_3 : FO Tryd.prog 91 3 3 := by unfold FO; kernel_rfl
theorem FO96_0 : FO Tryd.prog 96 0 0 := by unfold FO; kernel_rfl
theorem FO96_1 : FO Tryd.prog 96 1 1 := by unfold FO; kernel_rfl
theorem FO103_1 : FO Tryd.prog 103 1 1 := by unfold FO; kernel_rfl
theorem FO108_0 : FO Tryd.prog 108 0 0 := by unfold FO; kernel_rfl
theorem FO108_1 : FO Tryd.prog 108 1 1 := by unfold FO; kernel_rfl
theorem FO108_2 : FO Tryd.prog 108 2 2 := by unfold FO; kernel_rfl
theorem FO113_0 : FO Tryd.prog 113 0 0 := by unfold FO; kernel_rfl
theorem FO113_1 : FO Tryd.prog 113 1 1 := by unfold FO; kernel_rfl
theorem FO113_2 : FO Tryd.prog 113 2 2 := by unfold FO; kernel_rfl
theorem FO113_3 : FO Tryd.prog 113 3 3 := by unfold FO; kernel_rfl
theorem FO117_0 : FO Tryd.prog 117 0 0 := by unfold FO; kernel_rfl
theorem FO117_1 : FO Tryd.prog 117 1 1 := by unfold FO; kernel_rfl
theorem FO117_2 : FO Tryd.prog 117 2 2 := by unfold FO; kernel_rfl
theorem FO117_3 : FO Tryd.prog 117 3 3 := by unfold FO; kernel_rfl
theorem PL57 : Places Tryd.prog 57 [(0, 1), (1, 1), (2, 1), (3, 1)] := by unfold Places; kernel_rfl
theorem PL89 : Places Tryd.prog 89 [(0, 1), (1, 2), (3, 1), (4, 1)] := by unfold Places; kernel_rfl
theorem PL91 : Places Tryd.prog 91 [(0, 1), (1, 1), (2, 1), (3, 1)] := by unfold Places; kernel_rfl
theorem PL96 : Places Tryd.prog 96 [(0, 1), (1, 1)] := by unfold Places; kernel_rfl
theorem PL108 : Places Tryd.prog 108 [(0, 1), (1, 1), (2, 1)] := by unfold Places; kernel_rfl
theorem PL113 : Places Tryd.prog 113 [(0, 1), (1, 1), (2, 1), (3, 1)] := by unfold Places; kernel_rfl
abbrev qQ (w : World) (I : Nat → Prop) (g : Nat) (E : List Ent) (x : Runner) : Prop := ∃ (v31754 : Value) (v31756 : Value) (e31757 : Ent) (v31759 : Value) (e31760 : Ent), E = some (g, [v31754, v31756, v31759], 108) :: (e31757 :: (e31760 :: [])) ∧ RepS dNode_2 w I v31754 x.nodes ∧ OwnS (dI .i64) 3 w I v31756 e31757 x.counters ∧ OwnS dB 4 w I v31759 e31760 x.active
abbrev qR (w : World) (I : Nat → Prop) (g : Nat) (E : List Ent) (x : Runner) (v31762 : Value) : Prop := ∃ (v31764 : Value) (e31765 : Ent) (v31767 : Value) (e31768 : Ent), E = some (g, [v31762, v31764, v31767], 108) :: (e31765 :: (e31768 :: [])) ∧ OwnS (dI .i64) 3 w I v31764 e31765 x.counters ∧ OwnS dB 4 w I v31767 e31768 x.active ∧ RepS dNode_2 w I v31762 x.nodes
abbrev qRz (w : World) (I : Nat → Prop) (g : Nat) (E : List Ent) (x : Runner) (v31762 : Value) : Prop := ∃ (v31764 : Value) (e31765 : Ent) (v31767 : Value) (e31768 : Ent), E = some (g, [v31762, v31764, v31767], 108) :: (e31765 :: (e31768 :: [])) ∧ OwnS (dI .i64) 3 w I v31764 e31765 x.counters ∧ OwnS dB 4 w I v31767 e31768 x.active
abbrev qZ (w : World) (I : Nat → Prop) (g : Nat) (E : List Ent) (x : Runner) : Prop := E = some (g, [(.slice none 0 0), (.slice none 0 0), (.slice none 0 0)], 108) :: [] ∧ x = (Runner.mk [] [] [])
abbrev qN (N : Nat) (w : World) (I : Nat → Prop) (g : Nat) (E : List Ent) (x : Runner) : Prop := ∃ (v31770 : Value), E = some (g, [v31770, (.slice none 0 0), (.slice none 0 0)], 108) :: [] ∧ RepF dNode_2 N w I v31770 x.nodes
abbrev qK (w : World) (I : Nat → Prop) (g : Nat) (E : List Ent) (x : Tick) : Prop := ∃ (v31773 : Value) (v31775 : Value) (v31777 : Value) (e31778 : Ent) (v31780 : Value) (e31781 : Ent), E = some (g, [v31773, v31775, v31777, v31780], 113) :: (e31778 :: (e31781 :: [])) ∧ RepS (dI .i64) w I v31773 x.actions ∧ RepS dB w I v31775 x.tests ∧ OwnS (dI .i64) 3 w I v31777 e31778 x.status ∧ OwnS (dI .i64) 3 w I v31780 e31781 x.ticked
abbrev qF (N : Nat) (w : World) (I : Nat → Prop) (g : Nat) (E : List Ent) (x : Runner) : Prop := ∃ (v31783 : Value) (v31786 : Value) (e31787 : Ent) (v31789 : Value) (e31790 : Ent), E = some (g, [v31783, v31786, v31789], 108) :: (e31787 :: (e31790 :: [])) ∧ RepF dNode_2 N w I v31783 x.nodes ∧ OwnS (dI .i64) 3 w I v31786 e31787 x.counters ∧ OwnS dB 4 w I v31789 e31790 x.active
def qoF (N : Nat) (w : World) (I : Nat → Prop) (v : Value) (E : List Ent) : Option Runner → Prop
  | none => v = .pointer none ∧ E = []
  | some x => ∃ g, v = .pointer (some ⟨g, 0, none⟩) ∧ qF N w I g E x
abbrev qM (w : World) (I : Nat → Prop) (g : Nat) (E : List Ent) (x : Mission) : Prop := ∃ (g31792 : Nat) (E31793 : List Ent) (v31795 : Value) (e31796 : Ent), E = some (g, [(.pointer (some ⟨g31792, 0, none⟩)), v31795, (.int .i64 x.status), (.int .i64 x.ticks)], 91) :: (E31793 ++ (e31796 :: [])) ∧ qQ w I g31792 E31793 x.run ∧ OwnS dB 4 w I v31795 e31796 x.done
def qoM (w : World) (I : Nat → Prop) (v : Value) (E : List Ent) : Option Mission → Prop
  | none => v = .pointer none ∧ E = []
  | some x => ∃ g, v = .pointer (some ⟨g, 0, none⟩) ∧ qM w I g E x
abbrev qB (w : World) (I : Nat → Prop) (g : Nat) (E : List Ent) (x : Builder) : Prop := ∃ (v31798 : Value) (v31800 : Value) (e31801 : Ent), E = some (g, [v31798, v31800], 103) :: (e31801 :: []) ∧ SelfP g v31798 ∧ OwnS (dI .u8) 5 w I v31800 e31801 x.buf
abbrev qP (w : World) (I : Nat → Prop) (g : Nat) (E : List Ent) (x : Parser) : Prop := E = some (g, [(.string x.s), (.int .i64 x.nodes)], 96) :: []
def tree_Runner_run_S (f : Runner → Int → Tick → Option (Int × Runner × Tick)) : Prop := ∀ (w0 : World) (I0 : Nat → Prop) (x2476 : Runner) (g2477 : Nat) (E2478 : List Ent) (v2480 : Value) (q2479 : qR w0 I0 g2477 E2478 x2476 v2480) (x2481 : Int) (x2482 : Tick) (g2483 : Nat) (E2484 : List Ent) (q2485 : qK w0 I0 g2483 E2484 x2482) (hp : Hp ⟨w0, I0, blks (E2478 ++ E2484)⟩ I0 (E2478 ++ E2484) w0) (r : (Int × Runner × Tick)), f x2476 x2481 x2482 = some r →
    Ret Tryd.prog 51 #[(.pointer (some ⟨g2477, 0, none⟩)), (.int .i64 x2481), (.pointer (some ⟨g2483, 0, none⟩))] w0 fun v w1 => ∃ (I1 : Nat → Prop) (u2486 : List Ent) (u2487 : List Ent), v = (.int .i64 r.1) ∧ Hp ⟨w0, I0, blks (E2478 ++ E2484)⟩ I1 (u2486 ++ u2487) w1 ∧ qRz w1 I1 g2477 u2486 r.2.1 v2480 ∧ qK w1 I1 g2483 u2487 r.2.2

theorem C17 : CF Tryd.prog 17 := ⟨_, Tryd.func17, rfl, by kernel_rfl⟩
theorem C18 : CF Tryd.prog 18 := ⟨_, Tryd.func18, rfl, by kernel_rfl⟩
theorem C19 : CF Tryd.prog 19 := ⟨_, Tryd.func19, rfl, by kernel_rfl⟩
theorem C20 : CF Tryd.prog 20 := ⟨_, Tryd.func20, rfl, by kernel_rfl⟩
theorem C21 : CF Tryd.prog 21 := ⟨_, Tryd.func21, rfl, by kernel_rfl⟩
theorem C22 : CF Tryd.prog 22 := ⟨_, Tryd.func22, rfl, by kernel_rfl⟩
theorem C23 : CF Tryd.prog 23 := ⟨_, Tryd.func23, rfl, by kernel_rfl⟩
theorem C24 : CF Tryd.prog 24 := ⟨_, Tryd.func24, rfl, by kernel_rfl⟩
theorem C25 : CF Tryd.prog 25 := ⟨_, Tryd.func25, rfl, by kernel_rfl⟩
theorem C43 : CF Tryd.prog 43 := ⟨_, Tryd.func43, rfl, by kernel_rfl⟩
theorem C44 : CF Tryd.prog 44 := ⟨_, Tryd.func44, rfl, by kernel_rfl⟩
theorem C45 : CF Tryd.prog 45 := ⟨_, Tryd.func45, rfl, by kernel_rfl⟩
theorem C46 : CF Tryd.prog 46 := ⟨_, Tryd.func46, rfl, by kernel_rfl⟩
theorem C47 : CF Tryd.prog 47 := ⟨_, Tryd.func47, rfl, by kernel_rfl⟩
theorem C49 : CF Tryd.prog 49 := ⟨_, Tryd.func49, rfl, by kernel_rfl⟩
theorem C50 : CF Tryd.prog 50 := ⟨_, Tryd.func50, rfl, by kernel_rfl⟩
theorem C51 : CF Tryd.prog 51 := ⟨_, Tryd.func51, rfl, by kernel_rfl⟩
theorem C52 : CF Tryd.prog 52 := ⟨_, Tryd.func52, rfl, by kernel_rfl⟩
theorem C73 : CF Tryd.prog 73 := ⟨_, Tryd.func73, rfl, by kernel_rfl⟩
theorem C74 : CF Tryd.prog 74 := ⟨_, Tryd.func74, rfl, by kernel_rfl⟩
theorem C75 : CF Tryd.prog 75 := ⟨_, Tryd.func75, rfl, by kernel_rfl⟩
theorem C76 : CF Tryd.prog 76 := ⟨_, Tryd.func76, rfl, by kernel_rfl⟩
theorem C77 : CF Tryd.prog 77 := ⟨_, Tryd.func77, rfl, by kernel_rfl⟩
theorem C78 : CF Tryd.prog 78 := ⟨_, Tryd.func78, rfl, by kernel_rfl⟩
theorem C79 : CF Tryd.prog 79 := ⟨_, Tryd.func79, rfl, by kernel_rfl⟩
theorem C80 : CF Tryd.prog 80 := ⟨_, Tryd.func80, rfl, by kernel_rfl⟩
theorem C81 : CF Tryd.prog 81 := ⟨_, Tryd.func81, rfl, by kernel_rfl⟩
theorem C82 : CF Tryd.prog 82 := ⟨_, Tryd.func82, rfl, by kernel_rfl⟩
theorem C83 : CF Tryd.prog 83 := ⟨_, Tryd.func83, rfl, by kernel_rfl⟩
theorem C84 : CF Tryd.prog 84 := ⟨_, Tryd.func84, rfl, by kernel_rfl⟩
theorem C85 : CF Tryd.prog 85 := ⟨_, Tryd.func85, rfl, by kernel_rfl⟩
theorem C99 : CF Tryd.prog 99 := ⟨_, Tryd.func99, rfl, by kernel_rfl⟩
theorem C100 : CF Tryd.prog 100 := ⟨_, Tryd.func100, rfl, by kernel_rfl⟩
theorem C101 : CF Tryd.prog 101 := ⟨_, Tryd.func101, rfl, by kernel_rfl⟩
theorem C102 : CF Tryd.prog 102 := ⟨_, Tryd.func102, rfl, by kernel_rfl⟩
theorem R3 : Rd Tryd.prog 3 (dI .i64) (inK .i64) := Rd.int Tryd.underlying3
theorem R87 : Rd Tryd.prog 87 dCell okCell :=
  (Rd.view (f := fun x : Cell => (x.X, x.Y)) (fun a => Cell.mk a.1 a.2) (fun _ => rfl) (Rd.struct Tryd.underlying87 (by kernel_rfl) (RdF.cons rfl (by kernel_rfl) R3 (RdF.one rfl (by kernel_rfl) R3)))).mono fun _ h => h
theorem R89 : Rd Tryd.prog 89 dTask okTask :=
  (Rd.view (f := fun x : Task => (x.Kind, (x.Cell, (x.Limit, x.Tries)))) (fun a => Task.mk a.1 a.2.1 a.2.2.1 a.2.2.2) (fun _ => rfl) (Rd.struct Tryd.underlying89 (by kernel_rfl) (RdF.cons rfl (by kernel_rfl) R3 (RdF.cons rfl (by kernel_rfl) R87 (RdF.cons rfl (by kernel_rfl) R3 (RdF.one rfl (by kernel_rfl) R3)))))).mono fun _ h => h
theorem R49 : Rd Tryd.prog 49 (dSl dTask) (fun xs => (xs.length ≤ maxLen ∧ ∀ yxs ∈ xs, okTask yxs)) := Rd.slice Tryd.underlying49 (by kernel_rfl) (by decide) R89
theorem R66 : Rd Tryd.prog 66 (dSl (dI .i64)) (fun xs => (xs.length ≤ maxLen ∧ ∀ yxs ∈ xs, inK .i64 yxs)) := Rd.slice Tryd.underlying66 (by kernel_rfl) (by decide) R3
theorem R50 : Rd Tryd.prog 50 (dSl (dSl (dI .i64))) (fun xs => (xs.length ≤ maxLen ∧ ∀ yxs ∈ xs, (yxs.length ≤ maxLen ∧ ∀ yyxs ∈ yxs, inK .i64 yyxs))) := Rd.slice Tryd.underlying50 (by kernel_rfl) (by decide) R66
end Go.Proofs.YtcdboppghnchpaaDoor

namespace Go.Proofs.YtcdboppghnchpaaDoor
open Go Go.Shelf
def sh_lays169_ren : Go.Shelf.Ren := ⟨fun | 169 => 48 | n => n, fun | 70 => 100 | 9 => 9 | 0 => 0 | 72 => 103 | 37 => 101 | 127 => 153 | 3 => 3 | 5 => 5 | n => n, fun | n => n⟩
theorem sh_lays169 : Go.Proofs.Lays.n169 Tryd.prog sh_lays169_ren := {
  mixed := by kernel_rfl
  f169 := Tryd.func48.trans (congrArg some (by kernel_rfl))
  t0 := Tryd.underlying0
  a0 := Tryd.isAgg0
  z0 := Tryd.sizeOf0
  v0 := Tryd.zeroValue0
  t3 := Tryd.underlying3
  a3 := Tryd.isAgg3
  z3 := Tryd.sizeOf3
  v3 := Tryd.zeroValue3
  t9 := Tryd.underlying9
  a9 := Tryd.isAgg9
  z9 := Tryd.sizeOf9
  v9 := Tryd.zeroValue9
  t37 := Tryd.underlying101
  a37 := Tryd.isAgg101
  z37 := Tryd.sizeOf101
  v37 := Tryd.zeroValue101
  t70 := Tryd.underlying100
  a70 := Tryd.isAgg100
  z70 := Tryd.sizeOf100
  v70 := Tryd.zeroValue100
  t72 := Tryd.underlying103
  a72 := Tryd.isAgg103
  z72 := Tryd.sizeOf103
  v72 := Tryd.zeroValue103
  t127 := Tryd.underlying153
  a127 := Tryd.isAgg153
  z127 := Tryd.sizeOf153
  v127 := Tryd.zeroValue153 }
theorem sh_Builder_Extra_169 : Builder.Extra Tryd.prog sh_lays169_ren := {
  sizeBuilder := by kernel_rfl
  liesBuilder := by kernel_rfl
  t5 := Tryd.underlying5
  a5 := Tryd.isAgg5
  z5 := Tryd.sizeOf5
  v5 := Tryd.zeroValue5
  infoByte := by kernel_rfl
  cellsByte := by kernel_rfl
  sizeByte := by kernel_rfl
  neB5 := by decide }
open Go.RowKit in
theorem sh_Builder_String_any (B b : Nat) (l : List UInt8) (w : World) (h : Lib.IsBuilder 103 5 B b (Lib.byteCells l) w) (hBw : B ≤ w.heap.size) :
    Calls Tryd.prog 48 #[.pointer (some ⟨b, 0, none⟩)] w fun e w' => e = .returned (.string ⟨l.toArray⟩) ∧ Below B w w' := Any.Builder_String_any sh_lays169 sh_Builder_Extra_169 B b l w h hBw
def sh_lays137_ren : Go.Shelf.Ren := ⟨fun | 137 => 75 | 217 => 98 | 266 => 112 | n => n, fun | 9 => 9 | 5 => 5 | 3 => 3 | n => n, fun | n => n⟩
theorem sh_lays137 : Go.Proofs.Lays.n137 Tryd.prog sh_lays137_ren := {
  mixed := by kernel_rfl
  f137 := Tryd.func75.trans (congrArg some (by kernel_rfl))
  f217 := Tryd.func98.trans (congrArg some (by kernel_rfl))
  f266 := Tryd.func112.trans (congrArg some (by kernel_rfl))
  t3 := Tryd.underlying3
  a3 := Tryd.isAgg3
  z3 := Tryd.sizeOf3
  v3 := Tryd.zeroValue3
  t5 := Tryd.underlying5
  a5 := Tryd.isAgg5
  z5 := Tryd.sizeOf5
  v5 := Tryd.zeroValue5
  t9 := Tryd.underlying9
  a9 := Tryd.isAgg9
  z9 := Tryd.sizeOf9
  v9 := Tryd.zeroValue9 }
open Go.RowKit in
theorem sh_strings_IndexByte (s : ByteArray) (c : Int) (w : World) :
    Calls Tryd.prog 75 #[.string s, .int .u8 c] w fun e w' => e = .returned (.int .i64 (Lib.indexByte s.data.toList c.toNat.toUInt8)) ∧ w' = w := Any.strings_IndexByte sh_lays137 s c w
def sh_lays172_ren : Go.Shelf.Ren := ⟨fun | 172 => 99 | 244 => 113 | 245 => 114 | 247 => 126 | 279 => 127 | 280 => 128 | 281 => 129 | 282 => 130 | 287 => 137 | 316 => 138 | 171 => 82 | 205 => 139 | 321 => 142 | 322 => 143 | 243 => 103 | 246 => 116 | 283 => 117 | 284 => 118 | 285 => 119 | 286 => 120 | 129 => 132 | 317 => 131 | 318 => 133 | 319 => 134 | 320 => 135 | 337 => 140 | 338 => 141 | n => n, fun | 9 => 9 | 3 => 3 | 75 => 147 | 76 => 150 | 4 => 4 | 5 => 5 | 167 => 189 | 37 => 101 | 0 => 0 | 85 => 190 | 2 => 2 | 168 => 192 | 53 => 129 | 175 => 201 | 46 => 132 | 210 => 205 | 127 => 153 | 145 => 211 | 143 => 209 | 21 => 21 | 171 => 181 | 173 => 184 | 212 => 196 | 51 => 131 | 20 => 20 | 213 => 197 | 232 => 212 | 233 => 213 | 80 => 105 | n => n, fun | 15 => 3 | 16 => 4 | 17 => 2 | 18 => 5 | 19 => 6 | n => n⟩
theorem sh_lays172 : Go.Proofs.Lays.n172 Tryd.prog sh_lays172_ren := {
  mixed := by kernel_rfl
  f129 := Tryd.func132.trans (congrArg some (by kernel_rfl))
  f171 := Tryd.func82.trans (congrArg some (by kernel_rfl))
  f172 := Tryd.func99.trans (congrArg some (by kernel_rfl))
  f205 := Tryd.func139.trans (congrArg some (by kernel_rfl))
  f243 := Tryd.func103.trans (congrArg some (by kernel_rfl))
  f244 := Tryd.func113.trans (congrArg some (by kernel_rfl))
  f245 := Tryd.func114.trans (congrArg some (by kernel_rfl))
  f246 := Tryd.func116.trans (congrArg some (by kernel_rfl))
  f247 := Tryd.func126.trans (congrArg some (by kernel_rfl))
  f279 := Tryd.func127.trans (congrArg some (by kernel_rfl))
  f280 := Tryd.func128.trans (congrArg some (by kernel_rfl))
  f281 := Tryd.func129.trans (congrArg some (by kernel_rfl))
  f282 := Tryd.func130.trans (congrArg some (by kernel_rfl))
  f283 := Tryd.func117.trans (congrArg some (by kernel_rfl))
  f284 := Tryd.func118.trans (congrArg some (by kernel_rfl))
  f285 := Tryd.func119.trans (congrArg some (by kernel_rfl))
  f286 := Tryd.func120.trans (congrArg some (by kernel_rfl))
  f287 := Tryd.func137.trans (congrArg some (by kernel_rfl))
  f316 := Tryd.func138.trans (congrArg some (by kernel_rfl))
  f317 := Tryd.func131.trans (congrArg some (by kernel_rfl))
  f318 := Tryd.func133.trans (congrArg some (by kernel_rfl))
  f319 := Tryd.func134.trans (congrArg some (by kernel_rfl))
  f320 := Tryd.func135.trans (congrArg some (by kernel_rfl))
  f321 := Tryd.func142.trans (congrArg some (by kernel_rfl))
  f322 := Tryd.func143.trans (congrArg some (by kernel_rfl))
  f337 := Tryd.func140.trans (congrArg some (by kernel_rfl))
  f338 := Tryd.func141.trans (congrArg some (by kernel_rfl))
  t0 := Tryd.underlying0
  a0 := Tryd.isAgg0
  z0 := Tryd.sizeOf0
  v0 := Tryd.zeroValue0
  t2 := Tryd.underlying2
  a2 := Tryd.isAgg2
  z2 := Tryd.sizeOf2
  v2 := Tryd.zeroValue2
  t3 := Tryd.underlying3
  a3 := Tryd.isAgg3
  z3 := Tryd.sizeOf3
  v3 := Tryd.zeroValue3
  t4 := Tryd.underlying4
  a4 := Tryd.isAgg4
  z4 := Tryd.sizeOf4
  v4 := Tryd.zeroValue4
  t5 := Tryd.underlying5
  a5 := Tryd.isAgg5
  z5 := Tryd.sizeOf5
  v5 := Tryd.zeroValue5
  t9 := Tryd.underlying9
  a9 := Tryd.isAgg9
  z9 := Tryd.sizeOf9
  v9 := Tryd.zeroValue9
  t20 := Tryd.underlying20
  a20 := Tryd.isAgg20
  z20 := Tryd.sizeOf20
  v20 := Tryd.zeroValue20
  t21 := Tryd.underlying21
  a21 := Tryd.isAgg21
  z21 := Tryd.sizeOf21
  v21 := Tryd.zeroValue21
  t37 := Tryd.underlying101
  a37 := Tryd.isAgg101
  z37 := Tryd.sizeOf101
  v37 := Tryd.zeroValue101
  t46 := Tryd.underlying132
  a46 := Tryd.isAgg132
  z46 := Tryd.sizeOf132
  v46 := Tryd.zeroValue132
  t51 := Tryd.underlying131
  a51 := Tryd.isAgg131
  z51 := Tryd.sizeOf131
  v51 := Tryd.zeroValue131
  t53 := Tryd.underlying129
  a53 := Tryd.isAgg129
  z53 := Tryd.sizeOf129
  v53 := Tryd.zeroValue129
  t75 := Tryd.underlying147
  a75 := Tryd.isAgg147
  z75 := Tryd.sizeOf147
  v75 := Tryd.zeroValue147
  t76 := Tryd.underlying150
  a76 := Tryd.isAgg150
  z76 := Tryd.sizeOf150
  v76 := Tryd.zeroValue150
  t85 := Tryd.underlying190
  a85 := Tryd.isAgg190
  z85 := Tryd.sizeOf190
  v85 := Tryd.zeroValue190
  t127 := Tryd.underlying153
  a127 := Tryd.isAgg153
  z127 := Tryd.sizeOf153
  v127 := Tryd.zeroValue153
  t143 := Tryd.underlying209
  a143 := Tryd.isAgg209
  z143 := Tryd.sizeOf209
  v143 := Tryd.zeroValue209
  t145 := Tryd.underlying211
  a145 := Tryd.isAgg211
  z145 := Tryd.sizeOf211
  v145 := Tryd.zeroValue211
  t167 := Tryd.underlying189
  a167 := Tryd.isAgg189
  z167 := Tryd.sizeOf189
  v167 := Tryd.zeroValue189
  t168 := Tryd.underlying192
  a168 := Tryd.isAgg192
  z168 := Tryd.sizeOf192
  v168 := Tryd.zeroValue192
  t171 := Tryd.underlying181
  a171 := Tryd.isAgg181
  z171 := Tryd.sizeOf181
  v171 := Tryd.zeroValue181
  t173 := Tryd.underlying184
  a173 := Tryd.isAgg184
  z173 := Tryd.sizeOf184
  v173 := Tryd.zeroValue184
  t175 := Tryd.underlying201
  a175 := Tryd.isAgg201
  z175 := Tryd.sizeOf201
  v175 := Tryd.zeroValue201
  t210 := Tryd.underlying205
  a210 := Tryd.isAgg205
  z210 := Tryd.sizeOf205
  v210 := Tryd.zeroValue205
  t212 := Tryd.underlying196
  a212 := Tryd.isAgg196
  z212 := Tryd.sizeOf196
  v212 := Tryd.zeroValue196
  t213 := Tryd.underlying197
  a213 := Tryd.isAgg197
  z213 := Tryd.sizeOf197
  t232 := Tryd.underlying212
  a232 := Tryd.isAgg212
  z232 := Tryd.sizeOf212
  v232 := Tryd.zeroValue212
  t233 := Tryd.underlying213
  a233 := Tryd.isAgg213
  z233 := Tryd.sizeOf213
  v233 := Tryd.zeroValue213
  g15 := by kernel_rfl
  g16 := by kernel_rfl
  g17 := by kernel_rfl
  g18 := by kernel_rfl
  g19 := by kernel_rfl }
open Go.RowKit in
theorem sh_strconv_Atoi (s : ByteArray) (n : Int) (hl : s.size ≤ 18) (h : Lib.atoi s.data.toList = some n) (w : World) :
    Calls Tryd.prog 99 #[.string s] w fun e w' => e = .returned (.tuple #[.int .i64 n, .nilIface]) ∧ ∃ t, w' = Lib.bytesWorld w 5 t := Any.strconv_Atoi sh_lays172 s n hl h w
def sh_laysM171_ren : Go.Shelf.Ren := ⟨fun | 171 => 82 | 243 => 103 | 246 => 116 | 283 => 117 | 284 => 118 | 285 => 119 | 286 => 120 | 129 => 132 | 317 => 131 | 318 => 133 | 319 => 134 | 320 => 135 | 337 => 140 | 338 => 141 | n => n, fun | 3 => 3 | 9 => 9 | 2 => 2 | 4 => 4 | 171 => 181 | 0 => 0 | 53 => 129 | 37 => 101 | 5 => 5 | 173 => 184 | 212 => 196 | 51 => 131 | 20 => 20 | 213 => 197 | 46 => 132 | 232 => 212 | 233 => 213 | n => n, fun | 17 => 2 | 18 => 5 | 19 => 6 | n => n⟩
theorem sh_laysM171 : Go.Proofs.LaysM.n171 Tryd.prog sh_laysM171_ren := {
  mixed := by kernel_rfl
  f129 := Tryd.func132.trans (congrArg some (by kernel_rfl))
  f171 := Tryd.func82.trans (congrArg some (by kernel_rfl))
  f243 := Tryd.func103.trans (congrArg some (by kernel_rfl))
  f246 := Tryd.func116.trans (congrArg some (by kernel_rfl))
  f283 := Tryd.func117.trans (congrArg some (by kernel_rfl))
  f284 := Tryd.func118.trans (congrArg some (by kernel_rfl))
  f285 := Tryd.func119.trans (congrArg some (by kernel_rfl))
  f286 := Tryd.func120.trans (congrArg some (by kernel_rfl))
  f317 := Tryd.func131.trans (congrArg some (by kernel_rfl))
  f318 := Tryd.func133.trans (congrArg some (by kernel_rfl))
  f319 := Tryd.func134.trans (congrArg some (by kernel_rfl))
  f320 := Tryd.func135.trans (congrArg some (by kernel_rfl))
  f337 := Tryd.func140.trans (congrArg some (by kernel_rfl))
  f338 := Tryd.func141.trans (congrArg some (by kernel_rfl))
  t0 := Tryd.underlying0
  a0 := Tryd.isAgg0
  z0 := Tryd.sizeOf0
  v0 := Tryd.zeroValue0
  t2 := Tryd.underlying2
  a2 := Tryd.isAgg2
  z2 := Tryd.sizeOf2
  v2 := Tryd.zeroValue2
  t3 := Tryd.underlying3
  a3 := Tryd.isAgg3
  z3 := Tryd.sizeOf3
  v3 := Tryd.zeroValue3
  t4 := Tryd.underlying4
  a4 := Tryd.isAgg4
  z4 := Tryd.sizeOf4
  v4 := Tryd.zeroValue4
  t5 := Tryd.underlying5
  a5 := Tryd.isAgg5
  z5 := Tryd.sizeOf5
  v5 := Tryd.zeroValue5
  t9 := Tryd.underlying9
  a9 := Tryd.isAgg9
  z9 := Tryd.sizeOf9
  v9 := Tryd.zeroValue9
  t20 := Tryd.underlying20
  a20 := Tryd.isAgg20
  z20 := Tryd.sizeOf20
  v20 := Tryd.zeroValue20
  t37 := Tryd.underlying101
  a37 := Tryd.isAgg101
  z37 := Tryd.sizeOf101
  v37 := Tryd.zeroValue101
  t46 := Tryd.underlying132
  a46 := Tryd.isAgg132
  z46 := Tryd.sizeOf132
  v46 := Tryd.zeroValue132
  t51 := Tryd.underlying131
  a51 := Tryd.isAgg131
  z51 := Tryd.sizeOf131
  v51 := Tryd.zeroValue131
  t53 := Tryd.underlying129
  a53 := Tryd.isAgg129
  z53 := Tryd.sizeOf129
  v53 := Tryd.zeroValue129
  t171 := Tryd.underlying181
  a171 := Tryd.isAgg181
  z171 := Tryd.sizeOf181
  v171 := Tryd.zeroValue181
  t173 := Tryd.underlying184
  a173 := Tryd.isAgg184
  z173 := Tryd.sizeOf184
  v173 := Tryd.zeroValue184
  t212 := Tryd.underlying196
  a212 := Tryd.isAgg196
  z212 := Tryd.sizeOf196
  v212 := Tryd.zeroValue196
  t213 := Tryd.underlying197
  a213 := Tryd.isAgg197
  z213 := Tryd.sizeOf197
  t232 := Tryd.underlying212
  a232 := Tryd.isAgg212
  z232 := Tryd.sizeOf212
  v232 := Tryd.zeroValue212
  t233 := Tryd.underlying213
  a233 := Tryd.isAgg213
  z233 := Tryd.sizeOf213
  v233 := Tryd.zeroValue213
  g17 := by kernel_rfl
  g18 := by kernel_rfl
  g19 := by kernel_rfl
  i0 := by kernel_rfl
  i2 := by kernel_rfl
  i3 := by kernel_rfl
  i4 := by kernel_rfl
  i5 := by kernel_rfl
  i9 := by kernel_rfl
  i20 := by kernel_rfl
  i37 := by kernel_rfl
  i46 := by kernel_rfl
  i51 := by kernel_rfl
  i53 := by kernel_rfl
  i171 := by kernel_rfl
  i173 := by kernel_rfl
  i212 := by kernel_rfl
  i232 := by kernel_rfl
  i233 := by kernel_rfl
  m17 := by kernel_rfl
  m18 := by kernel_rfl
  m19 := by kernel_rfl }
open Go.RowKit Go.Sort Go.Lib in
theorem sh_strconv_Itoa (n : Int) (h0 : -9223372036854775808 ≤ n) (h1 : n ≤ 9223372036854775807) (w : World) (htab : Lib.TabIs Tryd.prog w "internal/strconv.uint64pow10" .u64 Lib.pow10Tab) :
    Calls Tryd.prog 82 #[.int .i64 n] w fun e w' => e = .returned (.string ⟨(Lib.itoa n).toArray⟩) ∧ ∃ k os, w' = grow (w.drewN k) os := Any.strconv_Itoa sh_laysM171 n h0 h1 w htab
end Go.Proofs.YtcdboppghnchpaaDoor
