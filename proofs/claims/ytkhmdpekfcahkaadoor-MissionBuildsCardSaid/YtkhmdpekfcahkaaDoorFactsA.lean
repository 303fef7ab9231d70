/-
  Facts on the types and functions of the program.
-/
import Derived.Test.YtkhmdpekfcahkaaDoorDataA
import Derived.Test.YtkhmdpekfcahkaaDoorProg
import Derived.Shelf.Strings.Builder1
import Derived.Shelf.Strconv.Itoa3
namespace Go.Proofs.YtkhmdpekfcahkaaDoor
open Go Go.Proofs.YtkhmdpekfcahkaaDoor.Gw Go.RowKit
set_option linter.unusedVariables false
def dCell : Desc Cell := dV (fun x => (x.X, x.Y)) (dP (dI .i64) (dI .i64))
theorem dCell_o {w : World} {I : Nat → Prop} {cs : List Value} {x : Cell} (h : dCell.rep w I cs x) : cs = [.int .i64 x.X, .int .i64 x.Y] := by
  obtain ⟨c0, d0, rfl, h0, k0⟩ := h
  obtain rfl : c0 = [.int .i64 x.X] := h0
  obtain rfl : d0 = [.int .i64 x.Y] := k0
  rfl
theorem dCell_m {w : World} {I : Nat → Prop} {x : Cell} : dCell.rep w I [.int .i64 x.X, .int .i64 x.Y] x := by
  exact ⟨[.int .i64 x.X], _, rfl, rfl, rfl⟩
def dTask : Desc Task := dV (fun x => (x.Kind, (x.Cell, (x.Limit, x.Tries)))) (dP (dI .i64) (dP dCell (dP (dI .i64) (dI .i64))))
theorem dTask_o {w : World} {I : Nat → Prop} {cs : List Value} {x : Task} (h : dTask.rep w I cs x) : cs = [.int .i64 x.Kind, .int .i64 x.Cell.X, .int .i64 x.Cell.Y, .int .i64 x.Limit, .int .i64 x.Tries] := by
  obtain ⟨c0, d0, rfl, h0, k0⟩ := h
  obtain ⟨c1, d1, rfl, h1, k1⟩ := k0
  obtain ⟨c2, d2, rfl, h2, k2⟩ := k1
  obtain rfl : c0 = [.int .i64 x.Kind] := h0
  obtain rfl := dCell_o h1
  obtain rfl : c2 = [.int .i64 x.Limit] := h2
  obtain rfl : d2 = [.int .i64 x.Tries] := k2
  rfl
theorem dTask_m {w : World} {I : Nat → Prop} {x : Task} : dTask.rep w I [.int .i64 x.Kind, .int .i64 x.Cell.X, .int .i64 x.Cell.Y, .int .i64 x.Limit, .int .i64 x.Tries] x := by
  exact ⟨[.int .i64 x.Kind], _, rfl, rfl, ⟨[.int .i64 x.Cell.X, .int .i64 x.Cell.Y], _, rfl, dCell_m, ⟨[.int .i64 x.Limit], _, rfl, rfl, rfl⟩⟩⟩
def dNodeN : Nat → Desc Node
  | 0 => dNo 4
  | n + 1 => dV (fun x => (x.Kind, (x.Name, (x.Count, x.Kids)))) (dP (dI .i64) (dP (dI .i64) (dP (dI .i64) (dSl (dNodeN n)))))
theorem dNodeN_size : ∀ n, (dNodeN n).size = 4
  | 0 => rfl
  | n + 1 => rfl
theorem dNodeN_up : ∀ n w I cs x, (dNodeN n).rep w I cs x → (dNodeN (n + 1)).rep w I cs x
  | 0, w, I, cs, x, h => h.elim
  | n + 1, w, I, cs, x, h => dP_mapR (fun _ => dP_mapR (fun _ => dP_mapR (fun _ => dSl_map ((dNodeN_size _).trans (dNodeN_size _).symm) (fun cs x h => dNodeN_up n w I cs x h)))) h
def dNode : Desc Node := dUn 4 dNodeN dNodeN_size
def dNodeF : Desc Node := dV (fun x => (x.Kind, (x.Name, (x.Count, x.Kids)))) (dP (dI .i64) (dP (dI .i64) (dP (dI .i64) (dSl dNode))))
theorem dNode_un {w : World} {I : Nat → Prop} {cs : List Value} {x : Node} : dNode.rep w I cs x → dNodeF.rep w I cs x
  | ⟨0, h⟩ => h.elim
  | ⟨n + 1, h⟩ => dP_mapR (fun _ => dP_mapR (fun _ => dP_mapR (fun _ => dSl_un))) h
theorem dNode_fo {w : World} {I : Nat → Prop} {cs : List Value} {x : Node} (h : dNodeF.rep w I cs x) : dNode.rep w I cs x :=
  let ⟨n, h⟩ := (dP_exR (fun _ => dP_exR (fun _ => dP_exR (fun _ => dSl_ex dNodeN_up))) h : ∃ n, (dP _ _ : Desc _).rep w I cs _); ⟨n + 1, h⟩
theorem dNodeF_o {w : World} {I : Nat → Prop} {cs : List Value} {x : Node} (h : dNodeF.rep w I cs x) : ∃ v3, cs = [.int .i64 x.Kind, .int .i64 x.Name, .int .i64 x.Count, v3] ∧ RepS dNode w I v3 x.Kids := by
  obtain ⟨c0, d0, rfl, h0, k0⟩ := h
  obtain ⟨c1, d1, rfl, h1, k1⟩ := k0
  obtain ⟨c2, d2, rfl, h2, k2⟩ := k1
  obtain rfl : c0 = [.int .i64 x.Kind] := h0
  obtain rfl : c1 = [.int .i64 x.Name] := h1
  obtain rfl : c2 = [.int .i64 x.Count] := h2
  obtain ⟨v3, rfl, r3⟩ := k2
  exact ⟨v3, rfl, r3⟩
theorem dNodeF_m {w : World} {I : Nat → Prop} {x : Node} {v3 : Value} (r3 : RepS dNode w I v3 x.Kids) : dNodeF.rep w I [.int .i64 x.Kind, .int .i64 x.Name, .int .i64 x.Count, v3] x := by
  exact ⟨[.int .i64 x.Kind], _, rfl, rfl, ⟨[.int .i64 x.Name], _, rfl, rfl, ⟨[.int .i64 x.Count], _, rfl, rfl, dSl_iff.2 r3⟩⟩⟩
theorem dNode_o {w : World} {I : Nat → Prop} {cs : List Value} {x : Node} (h : dNode.rep w I cs x) : ∃ v3, cs = [.int .i64 x.Kind, .int .i64 x.Name, .int .i64 x.Count, v3] ∧ RepS dNode w I v3 x.Kids := dNodeF_o (dNode_un h)
theorem dNode_m {w : World} {I : Nat → Prop} {x : Node} {v3 : Value} (r3 : RepS dNode w I v3 x.Kids) : dNode.rep w I [.int .i64 x.Kind, .int .i64 x.Name, .int .i64 x.Count, v3] x := dNode_fo (dNodeF_m r3)
def dNode_2 : Desc Node_2 := dV (fun x => (x.kind, (x.name, (x.count, x.kids)))) (dP (dI .i64) (dP (dI .i64) (dP (dI .i64) (dSl (dI .i64)))))
theorem dNode_2_o {w : World} {I : Nat → Prop} {cs : List Value} {x : Node_2} (h : dNode_2.rep w I cs x) : ∃ v3, cs = [.int .i64 x.kind, .int .i64 x.name, .int .i64 x.count, v3] ∧ RepS (dI .i64) w I v3 x.kids := by
  obtain ⟨c0, d0, rfl, h0, k0⟩ := h
  obtain ⟨c1, d1, rfl, h1, k1⟩ := k0
  obtain ⟨c2, d2, rfl, h2, k2⟩ := k1
  obtain rfl : c0 = [.int .i64 x.kind] := h0
  obtain rfl : c1 = [.int .i64 x.name] := h1
  obtain rfl : c2 = [.int .i64 x.count] := h2
  obtain ⟨v3, rfl, r3⟩ := k2
  exact ⟨v3, rfl, r3⟩
theorem dNode_2_m {w : World} {I : Nat → Prop} {x : Node_2} {v3 : Value} (r3 : RepS (dI .i64) w I v3 x.kids) : dNode_2.rep w I [.int .i64 x.kind, .int .i64 x.name, .int .i64 x.count, v3] x := by
  exact ⟨[.int .i64 x.kind], _, rfl, rfl, ⟨[.int .i64 x.name], _, rfl, rfl, ⟨[.int .i64 x.count], _, rfl, rfl, dSl_iff.2 r3⟩⟩⟩
theorem MX : Tryd.prog.follows .mixedOrders = true := by kernel_rfl
theorem T3 : TI Tryd.prog 3 1 8 (.int .i64 0) false := ⟨by kernel_rfl, by kernel_rfl, rfl⟩
theorem T4 : TI Tryd.prog 4 1 1 (.bool false) false := ⟨by kernel_rfl, by kernel_rfl, rfl⟩
theorem T5 : TI Tryd.prog 5 1 1 (.int .u8 0) false := ⟨by kernel_rfl, by kernel_rfl, rfl⟩
theorem T24 : TI Tryd.prog 24 1 24 (.slice none 0 0) false := ⟨by kernel_rfl, by kernel_rfl, rfl⟩
theorem T26 : TI Tryd.prog 26 4 48 (.agg #[(.int .i64 0), (.int .i64 0), (.int .i64 0), (.slice none 0 0)]) true := ⟨by kernel_rfl, by kernel_rfl, rfl⟩
theorem T38 : TI Tryd.prog 38 2 16 (.agg #[(.int .i64 0), (.int .i64 0)]) true := ⟨by kernel_rfl, by kernel_rfl, rfl⟩
theorem T40 : TI Tryd.prog 40 5 40 (.agg #[(.int .i64 0), (.int .i64 0), (.int .i64 0), (.int .i64 0), (.int .i64 0)]) true := ⟨by kernel_rfl, by kernel_rfl, rfl⟩
theorem T43 : TI Tryd.prog 43 1 24 (.slice none 0 0) false := ⟨by kernel_rfl, by kernel_rfl, rfl⟩
theorem T49 : TI Tryd.prog 49 1 24 (.slice none 0 0) false := ⟨by kernel_rfl, by kernel_rfl, rfl⟩
theorem T54 : TI Tryd.prog 54 1 8 (.pointer none) false := ⟨by kernel_rfl, by kernel_rfl, rfl⟩
theorem T57 : TI Tryd.prog 57 1 24 (.slice none 0 0) false := ⟨by kernel_rfl, by kernel_rfl, rfl⟩
theorem T59 : TI Tryd.prog 59 4 48 (.agg #[(.pointer none), (.slice none 0 0), (.int .i64 0), (.int .i64 0)]) true := ⟨by kernel_rfl, by kernel_rfl, rfl⟩
theorem T73 : TI Tryd.prog 73 1 24 (.slice none 0 0) false := ⟨by kernel_rfl, by kernel_rfl, rfl⟩
theorem T75 : TI Tryd.prog 75 3 72 (.agg #[(.slice none 0 0), (.slice none 0 0), (.slice none 0 0)]) true := ⟨by kernel_rfl, by kernel_rfl, rfl⟩
theorem T78 : TI Tryd.prog 78 4 96 (.agg #[(.slice none 0 0), (.slice none 0 0), (.slice none 0 0), (.slice none 0 0)]) true := ⟨by kernel_rfl, by kernel_rfl, rfl⟩
theorem T82 : TI Tryd.prog 82 4 48 (.agg #[(.int .i64 0), (.int .i64 0), (.int .i64 0), (.slice none 0 0)]) true := ⟨by kernel_rfl, by kernel_rfl, rfl⟩
theorem FO26_0 : FO Tryd.prog 26 0 0 := by unfold FO; kernel_rfl
theorem FO26_1 : FO Tryd.prog 26 1 1 := by unfold FO; kernel_rfl
theorem FO26_2 : FO Tryd.prog 26 2 2 := by unfold FO; kernel_rfl
theorem FO26_3 : FO Tryd.prog 26 3 3 := by unfold FO; kernel_rfl
theorem FO38_0 : FO Tryd.prog 38 0 0 := by unfold FO; kernel_rfl
theorem FO38_1 : FO Tryd.prog 38 1 1 := by unfold FO; kernel_rfl
theorem FO40_0 : FO Tryd.prog 40 0 0 := by unfold FO; kernel_rfl
theorem FO40_1 : FO Tryd.prog 40 1 1 := by unfold FO; kernel_rfl
theorem FO40_2 : FO Tryd.prog 40 2 3 := by unfold FO; kernel_rfl
theorem FO40_3 : FO Tryd.prog 40 3 4 := by unfold FO; kernel_rfl
theorem FO51_1 : FO Tryd.prog 51 1 1 := by unfold FO; kernel_rfl
theorem FO59_0 : FO Tryd.prog 59 0 0 := by unfold FO; kernel_rfl
theorem FO59_1 : FO Tryd.prog 59 1 1 := by unfold FO; kernel_rfl
theorem FO59_2 : FO Tryd.prog 59 2 2 := by unfold FO; kernel_rfl
theorem FO59_3 : FO Tryd.prog 59 3 3 := by unfold FO; kernel_rfl
theorem FO75_0 : FO Tryd.prog 75 0 0 := by unfold FO; kernel_rfl
theorem FO75_1 : FO Tryd.prog 75 1 1 := by unfold FO; kernel_rfl
theorem FO75_2 : FO Tryd.prog 75 2 2 := by unfold FO; kernel_rfl
theorem FO78_0 : FO Tryd.prog 78 0 0 := by unfold FO; kernel_rfl
theorem FO78_1 : FO Tryd.prog 78 1 1 := by unfold FO; kernel_rfl
theorem FO78_2 : FO Tryd.prog 78 2 2 := by unfold FO; kernel_rfl
theorem FO78_3 : FO Tryd.prog 78 3 3 := by unfold FO; kernel_rfl
theorem FO82_0 : FO Tryd.prog 82 0 0 := by unfold FO; kernel_rfl
theorem FO82_1 : FO Tryd.prog 82 1 1 := by unfold FO; kernel_rfl
theorem FO82_2 : FO Tryd.prog 82 2 2 := by unfold FO; kernel_rfl
theorem FO82_3 : FO Tryd.prog 82 3 3 := by unfold FO; kernel_rfl
theorem PL26 : Places Tryd.prog 26 [(0, 1), (1, 1), (2, 1), (3, 1)] := by unfold Places; kernel_rfl
theorem PL38 : Places Tryd.prog 38 [(0, 1), (1, 1)] := by unfold Places; kernel_rfl
theorem PL40 : Places Tryd.prog 40 [(0, 1), (1, 2), (3, 1), (4, 1)] := by unfold Places; kernel_rfl
theorem PL59 : Places Tryd.prog 59 [(0, 1), (1, 1), (2, 1), (3, 1)] := by unfold Places; kernel_rfl
theorem PL75 : Places Tryd.prog 75 [(0, 1), (1, 1), (2, 1)] := by unfold Places; kernel_rfl
theorem PL78 : Places Tryd.prog 78 [(0, 1), (1, 1), (2, 1), (3, 1)] := by unfold Places; kernel_rfl
theorem U3 : (Tryd.prog.underlying 3).isSome = true := by kernel_rfl
theorem EQ38 (x0 : Int) (x1 : Int) (y0 : Int) (y1 : Int) : EQ Tryd.prog 38 [.int .i64 x0, .int .i64 x1] [.int .i64 y0, .int .i64 y1] ((x0 == y0) && ((x1 == y1) && true)) := ⟨by kernel_rfl, by kernel_rfl, by kernel_rfl, (EqL.int (off := 0) T3 Tryd.underlying3 rfl rfl (EqL.int (off := 1) T3 Tryd.underlying3 rfl rfl EqL.nil)) _ (by kernel_rfl)⟩
abbrev qR (w : World) (I : Nat → Prop) (g : Nat) (E : List Ent) (x : Runner) : Prop := ∃ (v8415 : Value) (v8417 : Value) (e8418 : Ent) (v8420 : Value) (e8421 : Ent), E = some (g, [v8415, v8417, v8420], 75) :: (e8418 :: (e8421 :: [])) ∧ RepS dNode_2 w I v8415 x.nodes ∧ OwnS (dI .i64) 3 w I v8417 e8418 x.counters ∧ OwnS dB 4 w I v8420 e8421 x.active
abbrev qZ (w : World) (I : Nat → Prop) (g : Nat) (E : List Ent) (x : Runner) : Prop := E = some (g, [(.slice none 0 0), (.slice none 0 0), (.slice none 0 0)], 75) :: [] ∧ x = (Runner.mk [] [] [])
abbrev qN (N : Nat) (w : World) (I : Nat → Prop) (g : Nat) (E : List Ent) (x : Runner) : Prop := ∃ (v8423 : Value), E = some (g, [v8423, (.slice none 0 0), (.slice none 0 0)], 75) :: [] ∧ RepF dNode_2 N w I v8423 x.nodes
abbrev qK (w : World) (I : Nat → Prop) (g : Nat) (E : List Ent) (x : Tick) : Prop := ∃ (v8426 : Value) (v8428 : Value) (v8430 : Value) (e8431 : Ent) (v8433 : Value) (e8434 : Ent), E = some (g, [v8426, v8428, v8430, v8433], 78) :: (e8431 :: (e8434 :: [])) ∧ RepS (dI .i64) w I v8426 x.actions ∧ RepS dB w I v8428 x.tests ∧ OwnS (dI .i64) 3 w I v8430 e8431 x.status ∧ OwnS (dI .i64) 3 w I v8433 e8434 x.ticked
abbrev qF (N : Nat) (w : World) (I : Nat → Prop) (g : Nat) (E : List Ent) (x : Runner) : Prop := ∃ (v8436 : Value) (v8439 : Value) (e8440 : Ent) (v8442 : Value) (e8443 : Ent), E = some (g, [v8436, v8439, v8442], 75) :: (e8440 :: (e8443 :: [])) ∧ RepF dNode_2 N w I v8436 x.nodes ∧ OwnS (dI .i64) 3 w I v8439 e8440 x.counters ∧ OwnS dB 4 w I v8442 e8443 x.active
def qoF (N : Nat) (w : World) (I : Nat → Prop) (v : Value) (E : List Ent) : Option Runner → Prop
  | none => v = .pointer none ∧ E = []
  | some x => ∃ g, v = .pointer (some ⟨g, 0, none⟩) ∧ qF N w I g E x
abbrev qM (w : World) (I : Nat → Prop) (g : Nat) (E : List Ent) (x : Mission) : Prop := ∃ (g8445 : Nat) (E8446 : List Ent) (v8448 : Value) (e8449 : Ent), E = some (g, [(.pointer (some ⟨g8445, 0, none⟩)), v8448, (.int .i64 x.status), (.int .i64 x.ticks)], 59) :: (E8446 ++ (e8449 :: [])) ∧ qR w I g8445 E8446 x.run ∧ OwnS dB 4 w I v8448 e8449 x.done
def qoM (w : World) (I : Nat → Prop) (v : Value) (E : List Ent) : Option Mission → Prop
  | none => v = .pointer none ∧ E = []
  | some x => ∃ g, v = .pointer (some ⟨g, 0, none⟩) ∧ qM w I g E x
abbrev qB (w : World) (I : Nat → Prop) (g : Nat) (E : List Ent) (x : Builder) : Prop := ∃ (v8451 : Value) (v8453 : Value) (e8454 : Ent), E = some (g, [v8451, v8453], 51) :: (e8454 :: []) ∧ SelfP g v8451 ∧ OwnS (dI .u8) 5 w I v8453 e8454 x.buf
def tree_Runner_run_S (f : Runner → Int → Tick → Option (Int × Runner × Tick)) : Prop := ∀ (w0 : World) (I0 : Nat → Prop) (x2543 : Runner) (g2544 : Nat) (E2545 : List Ent) (q2546 : qR w0 I0 g2544 E2545 x2543) (x2547 : Int) (x2548 : Tick) (g2549 : Nat) (E2550 : List Ent) (q2551 : qK w0 I0 g2549 E2550 x2548) (hp : Hp ⟨w0, I0, blks (E2545 ++ E2550)⟩ I0 (E2545 ++ E2550) w0) (r : (Int × Runner × Tick)), f x2543 x2547 x2548 = some r →
    Ret Tryd.prog 33 #[(.pointer (some ⟨g2544, 0, none⟩)), (.int .i64 x2547), (.pointer (some ⟨g2549, 0, none⟩))] w0 fun v w1 => ∃ (I1 : Nat → Prop) (u2552 : List Ent) (u2553 : List Ent), v = (.int .i64 r.1) ∧ Hp ⟨w0, I0, blks (E2545 ++ E2550)⟩ I1 (u2552 ++ u2553) w1 ∧ qR w1 I1 g2544 u2552 r.2.1 ∧ qK w1 I1 g2549 u2553 r.2.2

theorem C4 : CF Tryd.prog 4 := ⟨_, Tryd.func4, rfl, by kernel_rfl⟩
theorem C5 : CF Tryd.prog 5 := ⟨_, Tryd.func5, rfl, by kernel_rfl⟩
theorem C6 : CF Tryd.prog 6 := ⟨_, Tryd.func6, rfl, by kernel_rfl⟩
theorem C7 : CF Tryd.prog 7 := ⟨_, Tryd.func7, rfl, by kernel_rfl⟩
theorem C8 : CF Tryd.prog 8 := ⟨_, Tryd.func8, rfl, by kernel_rfl⟩
theorem C9 : CF Tryd.prog 9 := ⟨_, Tryd.func9, rfl, by kernel_rfl⟩
theorem C10 : CF Tryd.prog 10 := ⟨_, Tryd.func10, rfl, by kernel_rfl⟩
theorem C11 : CF Tryd.prog 11 := ⟨_, Tryd.func11, rfl, by kernel_rfl⟩
theorem C12 : CF Tryd.prog 12 := ⟨_, Tryd.func12, rfl, by kernel_rfl⟩
theorem C13 : CF Tryd.prog 13 := ⟨_, Tryd.func13, rfl, by kernel_rfl⟩
theorem C14 : CF Tryd.prog 14 := ⟨_, Tryd.func14, rfl, by kernel_rfl⟩
theorem C15 : CF Tryd.prog 15 := ⟨_, Tryd.func15, rfl, by kernel_rfl⟩
theorem C16 : CF Tryd.prog 16 := ⟨_, Tryd.func16, rfl, by kernel_rfl⟩
theorem C17 : CF Tryd.prog 17 := ⟨_, Tryd.func17, rfl, by kernel_rfl⟩
theorem C19 : CF Tryd.prog 19 := ⟨_, Tryd.func19, rfl, by kernel_rfl⟩
theorem C20 : CF Tryd.prog 20 := ⟨_, Tryd.func20, rfl, by kernel_rfl⟩
theorem C21 : CF Tryd.prog 21 := ⟨_, Tryd.func21, rfl, by kernel_rfl⟩
theorem C22 : CF Tryd.prog 22 := ⟨_, Tryd.func22, rfl, by kernel_rfl⟩
theorem C23 : CF Tryd.prog 23 := ⟨_, Tryd.func23, rfl, by kernel_rfl⟩
theorem C24 : CF Tryd.prog 24 := ⟨_, Tryd.func24, rfl, by kernel_rfl⟩
theorem C25 : CF Tryd.prog 25 := ⟨_, Tryd.func25, rfl, by kernel_rfl⟩
theorem C26 : CF Tryd.prog 26 := ⟨_, Tryd.func26, rfl, by kernel_rfl⟩
theorem C27 : CF Tryd.prog 27 := ⟨_, Tryd.func27, rfl, by kernel_rfl⟩
theorem C28 : CF Tryd.prog 28 := ⟨_, Tryd.func28, rfl, by kernel_rfl⟩
theorem C29 : CF Tryd.prog 29 := ⟨_, Tryd.func29, rfl, by kernel_rfl⟩
theorem C30 : CF Tryd.prog 30 := ⟨_, Tryd.func30, rfl, by kernel_rfl⟩
theorem C31 : CF Tryd.prog 31 := ⟨_, Tryd.func31, rfl, by kernel_rfl⟩
theorem C32 : CF Tryd.prog 32 := ⟨_, Tryd.func32, rfl, by kernel_rfl⟩
theorem C33 : CF Tryd.prog 33 := ⟨_, Tryd.func33, rfl, by kernel_rfl⟩
theorem C34 : CF Tryd.prog 34 := ⟨_, Tryd.func34, rfl, by kernel_rfl⟩
theorem C35 : CF Tryd.prog 35 := ⟨_, Tryd.func35, rfl, by kernel_rfl⟩
theorem C37 : CF Tryd.prog 37 := ⟨_, Tryd.func37, rfl, by kernel_rfl⟩
theorem C38 : CF Tryd.prog 38 := ⟨_, Tryd.func38, rfl, by kernel_rfl⟩
theorem C39 : CF Tryd.prog 39 := ⟨_, Tryd.func39, rfl, by kernel_rfl⟩
theorem C40 : CF Tryd.prog 40 := ⟨_, Tryd.func40, rfl, by kernel_rfl⟩
theorem C41 : CF Tryd.prog 41 := ⟨_, Tryd.func41, rfl, by kernel_rfl⟩
theorem C42 : CF Tryd.prog 42 := ⟨_, Tryd.func42, rfl, by kernel_rfl⟩
theorem C45 : CF Tryd.prog 45 := ⟨_, Tryd.func45, rfl, by kernel_rfl⟩
theorem C46 : CF Tryd.prog 46 := ⟨_, Tryd.func46, rfl, by kernel_rfl⟩
theorem C51 : CF Tryd.prog 51 := ⟨_, Tryd.func51, rfl, by kernel_rfl⟩
theorem R3 : Rd Tryd.prog 3 (dI .i64) (inK .i64) := Rd.int Tryd.underlying3
theorem R38 : Rd Tryd.prog 38 dCell okCell :=
  (Rd.view (f := fun x : Cell => (x.X, x.Y)) (fun a => Cell.mk a.1 a.2) (fun _ => rfl) (Rd.struct Tryd.underlying38 (by kernel_rfl) (RdF.cons rfl (by kernel_rfl) R3 (RdF.one rfl (by kernel_rfl) R3)))).mono fun _ h => h
theorem R40 : Rd Tryd.prog 40 dTask okTask :=
  (Rd.view (f := fun x : Task => (x.Kind, (x.Cell, (x.Limit, x.Tries)))) (fun a => Task.mk a.1 a.2.1 a.2.2.1 a.2.2.2) (fun _ => rfl) (Rd.struct Tryd.underlying40 (by kernel_rfl) (RdF.cons rfl (by kernel_rfl) R3 (RdF.cons rfl (by kernel_rfl) R38 (RdF.cons rfl (by kernel_rfl) R3 (RdF.one rfl (by kernel_rfl) R3)))))).mono fun _ h => h
theorem R22 : Rd Tryd.prog 22 (dSl dTask) (fun xs => (xs.length ≤ maxLen ∧ ∀ yxs ∈ xs, okTask yxs)) := Rd.slice Tryd.underlying22 (by kernel_rfl) (by decide) R40
end Go.Proofs.YtkhmdpekfcahkaaDoor

namespace Go.Proofs.YtkhmdpekfcahkaaDoor
open Go Go.Shelf
def sh_lays169_ren : Go.Shelf.Ren := ⟨fun | 169 => 18 | n => n, fun | 70 => 48 | 9 => 9 | 0 => 0 | 72 => 51 | 37 => 49 | 127 => 72 | 3 => 3 | 5 => 5 | n => n, fun | n => n⟩
theorem sh_lays169 : Go.Proofs.Lays.n169 Tryd.prog sh_lays169_ren := {
  mixed := by kernel_rfl
  f169 := Tryd.func18.trans (congrArg some (by kernel_rfl))
  t0 := Tryd.underlying0
  a0 := Tryd.isAgg0
  z0 := Tryd.sizeOf0
  v0 := Tryd.zeroValue0
  t3 := Tryd.underlying3
  a3 := Tryd.isAgg3
  z3 := Tryd.sizeOf3
  v3 := Tryd.zeroValue3
  t9 := Tryd.underlying9
  a9 := Tryd.isAgg9
  z9 := Tryd.sizeOf9
  v9 := Tryd.zeroValue9
  t37 := Tryd.underlying49
  a37 := Tryd.isAgg49
  z37 := Tryd.sizeOf49
  v37 := Tryd.zeroValue49
  t70 := Tryd.underlying48
  a70 := Tryd.isAgg48
  z70 := Tryd.sizeOf48
  v70 := Tryd.zeroValue48
  t72 := Tryd.underlying51
  a72 := Tryd.isAgg51
  z72 := Tryd.sizeOf51
  v72 := Tryd.zeroValue51
  t127 := Tryd.underlying72
  a127 := Tryd.isAgg72
  z127 := Tryd.sizeOf72
  v127 := Tryd.zeroValue72 }
theorem sh_Builder_Extra_169 : Builder.Extra Tryd.prog sh_lays169_ren := {
  sizeBuilder := by kernel_rfl
  liesBuilder := by kernel_rfl
  t5 := Tryd.underlying5
  a5 := Tryd.isAgg5
  z5 := Tryd.sizeOf5
  v5 := Tryd.zeroValue5
  infoByte := by kernel_rfl
  cellsByte := by kernel_rfl
  sizeByte := by kernel_rfl
  neB5 := by decide }
open Go.RowKit in
theorem sh_Builder_String_any (B b : Nat) (l : List UInt8) (w : World) (h : Lib.IsBuilder 51 5 B b (Lib.byteCells l) w) (hBw : B ≤ w.heap.size) :
    Calls Tryd.prog 18 #[.pointer (some ⟨b, 0, none⟩)] w fun e w' => e = .returned (.string ⟨l.toArray⟩) ∧ Below B w w' := Any.Builder_String_any sh_lays169 sh_Builder_Extra_169 B b l w h hBw
def sh_laysM171_ren : Go.Shelf.Ren := ⟨fun | 171 => 29 | 243 => 36 | 246 => 44 | 283 => 47 | 284 => 48 | 285 => 49 | 286 => 50 | 129 => 53 | 317 => 52 | 318 => 54 | 319 => 55 | 320 => 56 | 337 => 57 | 338 => 58 | n => n, fun | 3 => 3 | 9 => 9 | 2 => 2 | 4 => 4 | 171 => 88 | 0 => 0 | 53 => 89 | 37 => 49 | 5 => 5 | 173 => 92 | 212 => 96 | 51 => 97 | 20 => 20 | 213 => 98 | 46 => 100 | 232 => 103 | 233 => 104 | n => n, fun | 17 => 0 | 18 => 1 | 19 => 2 | n => n⟩
theorem sh_laysM171 : Go.Proofs.LaysM.n171 Tryd.prog sh_laysM171_ren := {
  mixed := by kernel_rfl
  f129 := Tryd.func53.trans (congrArg some (by kernel_rfl))
  f171 := Tryd.func29.trans (congrArg some (by kernel_rfl))
  f243 := Tryd.func36.trans (congrArg some (by kernel_rfl))
  f246 := Tryd.func44.trans (congrArg some (by kernel_rfl))
  f283 := Tryd.func47.trans (congrArg some (by kernel_rfl))
  f284 := Tryd.func48.trans (congrArg some (by kernel_rfl))
  f285 := Tryd.func49.trans (congrArg some (by kernel_rfl))
  f286 := Tryd.func50.trans (congrArg some (by kernel_rfl))
  f317 := Tryd.func52.trans (congrArg some (by kernel_rfl))
  f318 := Tryd.func54.trans (congrArg some (by kernel_rfl))
  f319 := Tryd.func55.trans (congrArg some (by kernel_rfl))
  f320 := Tryd.func56.trans (congrArg some (by kernel_rfl))
  f337 := Tryd.func57.trans (congrArg some (by kernel_rfl))
  f338 := Tryd.func58.trans (congrArg some (by kernel_rfl))
  t0 := Tryd.underlying0
  a0 := Tryd.isAgg0
  z0 := Tryd.sizeOf0
  v0 := Tryd.zeroValue0
  t2 := Tryd.underlying2
  a2 := Tryd.isAgg2
  z2 := Tryd.sizeOf2
  v2 := Tryd.zeroValue2
  t3 := Tryd.underlying3
  a3 := Tryd.isAgg3
  z3 := Tryd.sizeOf3
  v3 := Tryd.zeroValue3
  t4 := Tryd.underlying4
  a4 := Tryd.isAgg4
  z4 := Tryd.sizeOf4
  v4 := Tryd.zeroValue4
  t5 := Tryd.underlying5
  a5 := Tryd.isAgg5
  z5 := Tryd.sizeOf5
  v5 := Tryd.zeroValue5
  t9 := Tryd.underlying9
  a9 := Tryd.isAgg9
  z9 := Tryd.sizeOf9
  v9 := Tryd.zeroValue9
  t20 := Tryd.underlying20
  a20 := Tryd.isAgg20
  z20 := Tryd.sizeOf20
  v20 := Tryd.zeroValue20
  t37 := Tryd.underlying49
  a37 := Tryd.isAgg49
  z37 := Tryd.sizeOf49
  v37 := Tryd.zeroValue49
  t46 := Tryd.underlying100
  a46 := Tryd.isAgg100
  z46 := Tryd.sizeOf100
  v46 := Tryd.zeroValue100
  t51 := Tryd.underlying97
  a51 := Tryd.isAgg97
  z51 := Tryd.sizeOf97
  v51 := Tryd.zeroValue97
  t53 := Tryd.underlying89
  a53 := Tryd.isAgg89
  z53 := Tryd.sizeOf89
  v53 := Tryd.zeroValue89
  t171 := Tryd.underlying88
  a171 := Tryd.isAgg88
  z171 := Tryd.sizeOf88
  v171 := Tryd.zeroValue88
  t173 := Tryd.underlying92
  a173 := Tryd.isAgg92
  z173 := Tryd.sizeOf92
  v173 := Tryd.zeroValue92
  t212 := Tryd.underlying96
  a212 := Tryd.isAgg96
  z212 := Tryd.sizeOf96
  v212 := Tryd.zeroValue96
  t213 := Tryd.underlying98
  a213 := Tryd.isAgg98
  z213 := Tryd.sizeOf98
  t232 := Tryd.underlying103
  a232 := Tryd.isAgg103
  z232 := Tryd.sizeOf103
  v232 := Tryd.zeroValue103
  t233 := Tryd.underlying104
  a233 := Tryd.isAgg104
  z233 := Tryd.sizeOf104
  v233 := Tryd.zeroValue104
  g17 := by kernel_rfl
  g18 := by kernel_rfl
  g19 := by kernel_rfl
  i0 := by kernel_rfl
  i2 := by kernel_rfl
  i3 := by kernel_rfl
  i4 := by kernel_rfl
  i5 := by kernel_rfl
  i9 := by kernel_rfl
  i20 := by kernel_rfl
  i37 := by kernel_rfl
  i46 := by kernel_rfl
  i51 := by kernel_rfl
  i53 := by kernel_rfl
  i171 := by kernel_rfl
  i173 := by kernel_rfl
  i212 := by kernel_rfl
  i232 := by kernel_rfl
  i233 := by kernel_rfl
  m17 := by kernel_rfl
  m18 := by kernel_rfl
  m19 := by kernel_rfl }
open Go.RowKit Go.Sort Go.Lib in
theorem sh_strconv_Itoa (n : Int) (h0 : -9223372036854775808 ≤ n) (h1 : n ≤ 9223372036854775807) (w : World) (htab : Lib.TabIs Tryd.prog w "internal/strconv.uint64pow10" .u64 Lib.pow10Tab) :
    Calls Tryd.prog 29 #[.int .i64 n] w fun e w' => e = .returned (.string ⟨(Lib.itoa n).toArray⟩) ∧ ∃ k os, w' = grow (w.drewN k) os := Any.strconv_Itoa sh_laysM171 n h0 h1 w htab
end Go.Proofs.YtkhmdpekfcahkaaDoor
