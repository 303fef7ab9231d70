/-
  What the functions of the program compute, as plain Lean functions.
-/
import Derived.Test.YtcdboppghnchpaaCoreB
namespace Go.Proofs.Ytcdboppghnchpaa
open Go Go.Proofs.Ytcdboppghnchpaa.Gw Go.RowKit
set_option linter.unusedVariables false
structure Plan where
  W : Int
  H : Int
  Cells : (List Int)
structure Cell where
  X : Int
  Y : Int
structure Visit where
  c : Cell
  n_ : Int
structure Goal where
  Cell : Cell
  Cost : Int
  Size : Int
def ke48 (a b : Cell) : Bool := ((a.X == b.X) && ((a.Y == b.Y) && true))
abbrev kc48 (a : Cell) : Value := .agg #[.int .i64 a.X, .int .i64 a.Y]
abbrev vc48 (b : Bool) : Value := .bool b
def okPlan (x : Plan) : Prop := inK .i64 x.W ∧ inK .i64 x.H ∧ (x.Cells.length ≤ maxLen ∧ ∀ yxCells ∈ x.Cells, inK .u8 yxCells)
def okCell (x : Cell) : Prop := inK .i64 x.X ∧ inK .i64 x.Y
instance : Inhabited Cell := ⟨⟨0, 0⟩⟩
instance : Inhabited Goal := ⟨⟨⟨0, 0⟩, 0, 0⟩⟩
def cf21 (a b : Cell) : Int := orI (cmpI a.Y b.Y) (cmpI a.X b.X)
def cf18 (a b : Goal) : Int := orI (cmpI a.Cost b.Cost) (cf21 a.Cell b.Cell)
def slices_Repeatint_int_ (n : Nat) (xs : List Int) (c : Int) : Option (List Int) := if xs.length = 1 ∧ 1 ≤ c ∧ c ≤ 100000 then some (List.replicate c.toNat (xs.headD 0)) else none
def plan_size (n : Nat) : Int → Option Bool
  | x1 =>
    (cond (decide (x1 ≥ 1))
    (some ((decide (x1 ≤ 64))))
    (some (false)) : Option Bool).bind fun x2 =>
    some (x2)

def slices_Maxbyte_byte__L1 (x5 : (List Int)) : (Int × Int) → Option (Out (Int × Int) Int)
  | (x51, x52) =>
    cond (decide (x52 < (x5.length : Int)))
    ((idx x5 x52).bind fun x64 =>
    some (.go ((if x64 > x51 then x64 else x51), (IntKind.i64.wrap (x52 + 1)))))
    (some (.done x51))

def slices_Maxbyte_byte_ (n : Nat) : (List Int) → Option Int
  | x5 =>
    (cond (decide ((x5.length : Int) < 1))
    (none)
    (some (())) : Option Unit).bind fun _ =>
    (idx x5 0).bind fun x10 =>
    (loopN (slices_Maxbyte_byte__L1 x5) n (x10, 1) : Option Int).bind fun x42 =>
    some (x42)

def plan_Valid (n : Nat) : Plan → Option Bool
  | x71 =>
    ((plan_size n x71.W).bind fun x89 =>
    cond (!x89)
    (some (true))
    ((plan_size n x71.H).bind fun x92 =>
    cond (!x92)
    (some (true))
    (some (((x71.Cells.length : Int) != (IntKind.i64.wrap (x71.W * x71.H)))))) : Option Bool).bind fun x85 =>
    cond x85
    (some (false))
    ((cond ((x71.Cells.length : Int) == 0)
    (some (true))
    ((slices_Maxbyte_byte_ n x71.Cells).bind fun x102 =>
    some ((decide (x102 ≤ 2)))) : Option Bool).bind fun x98 =>
    some (x98))

def tour_free (n : Nat) : Plan → Cell → Option Bool
  | x105, x108 =>
    (cond (decide (x108.X ≥ 0))
    (cond (decide (x108.Y ≥ 0))
    (cond (decide (x108.X < x105.W))
    (cond (decide (x108.Y < x105.H))
    ((idx x105.Cells (IntKind.i64.wrap ((IntKind.i64.wrap (x108.Y * x105.W)) + x108.X))).bind fun x128 =>
    some ((x128 == 1)))
    (some (false)))
    (some (false)))
    (some (false)))
    (some (false)) : Option Bool).bind fun x125 =>
    some (x125)

def tour_sides (n : Nat) : Cell → Option (List Cell)
  | x134 =>
    some ([(Cell.mk (IntKind.i64.wrap (x134.X + 1)) x134.Y), (Cell.mk x134.X (IntKind.i64.wrap (x134.Y + 1))), (Cell.mk (IntKind.i64.wrap (x134.X - 1)) x134.Y), (Cell.mk x134.X (IntKind.i64.wrap (x134.Y - 1)))])

def tour_Tour_L13 (n : Nat) (x191 : Plan) (x_0 : (List (Cell × Bool))) (x_1 : (List Cell)) : Int → Option (Out Int (Int × Int × Bool))
  | x_2 =>
    cond (decide (x_2 < 4))
    ((idx x_1 x_2).bind fun x_3 =>
    ((tour_free n (Plan.mk x191.W x191.H x191.Cells) (Cell.mk x_3.X x_3.Y)).bind fun x_4 =>
    cond x_4
    (some ((!((mget ke48 (Cell.mk x_3.X x_3.Y) x_0).getD false))))
    (some (false)) : Option Bool).bind fun x_5 =>
    cond x_5
    (some (.done (x_3.X, x_3.Y, true)))
    (some (.go (IntKind.i64.wrap (x_2 + 1)))))
    (some (.done (0, 0, false)))

def tour_Tour_L11 (n : Nat) (x191 : Plan) : ((List (Cell × Bool)) × (List Cell) × (List Cell)) → Option (Out ((List (Cell × Bool)) × (List Cell) × (List Cell)) (List Cell))
  | (x_0, x_1, x_2) =>
    cond (decide ((x_2.length : Int) > 0))
    ((idx x_2 (IntKind.i64.wrap ((x_2.length : Int) - 1))).bind fun x_3 =>
    ((tour_sides n (Cell.mk x_3.X x_3.Y)).bind fun x_4 =>
    loopN (tour_Tour_L13 n x191 x_0 x_4) n 0 : Option (Int × Int × Bool)).bind fun (x_5, x_6, x_7) =>
    cond x_7
    ((app x_2 [(Cell.mk x_5 x_6)]).bind fun x_8 =>
    (app x_1 [(Cell.mk x_5 x_6)]).bind fun x_9 =>
    some (.go ((mput ke48 (Cell.mk x_5 x_6) true x_0), x_9, x_8)))
    ((cut x_2 0 (IntKind.i64.wrap ((x_2.length : Int) - 1))).bind fun x_a =>
    cond (decide ((x_a.length : Int) > 0))
    ((idx x_a (IntKind.i64.wrap ((x_a.length : Int) - 1))).bind fun x_b =>
    (app x_1 [x_b]).bind fun x_c =>
    some (.go (x_0, x_c, x_a)))
    (some (.go (x_0, x_1, x_a)))))
    (some (.done x_1))

def tour_Tour (n : Nat) : Plan → Cell → Option ((List Cell) × Int)
  | x191, x194 =>
    (plan_Valid n (Plan.mk x191.W x191.H x191.Cells)).bind fun x206 =>
    cond (!x206)
    (some (([], 1)))
    ((tour_free n (Plan.mk x191.W x191.H x191.Cells) (Cell.mk x194.X x194.Y)).bind fun x209 =>
    cond (!x209)
    (some (([], 7)))
    ((some (([(Cell.mk x194.X x194.Y)], [(Cell.mk x194.X x194.Y)])) : Option ((List Cell) × (List Cell))).bind fun (x250, x254) =>
    (loopN (tour_Tour_L11 n x191) n ((mput ke48 (Cell.mk x194.X x194.Y) true ([] : (List (Cell × Bool)))), x250, x254) : Option (List Cell)).bind fun x887 =>
    some ((x887, 0))))

def path_free (n : Nat) : Plan → Cell → Option Bool
  | x_0, x_1 =>
    (cond (decide (x_1.X ≥ 0))
    (cond (decide (x_1.Y ≥ 0))
    (cond (decide (x_1.X < x_0.W))
    (cond (decide (x_1.Y < x_0.H))
    ((idx x_0.Cells (IntKind.i64.wrap ((IntKind.i64.wrap (x_1.Y * x_0.W)) + x_1.X))).bind fun x_2 =>
    some ((x_2 == 1)))
    (some (false)))
    (some (false)))
    (some (false)))
    (some (false)) : Option Bool).bind fun x_3 =>
    some (x_3)

def path_heap_pop_L13 (x_0 : (List Visit)) (x_1 : Int) : (Int × Int) → Option (Out (Int × Int) Int)
  | (x_2, x_3) =>
    cond (decide (x_3 < 2))
    (((idx [(IntKind.i64.wrap ((IntKind.i64.wrap (2 * x_1)) + 1)), (IntKind.i64.wrap ((IntKind.i64.wrap (2 * x_1)) + 2))] x_3).bind fun x_4 =>
    (cond (decide (x_4 < (x_0.length : Int)))
    ((idx x_0 x_4).bind fun x_5 =>
    (idx x_0 x_2).bind fun x_6 =>
    some ((decide (x_5.n_ < x_6.n_))))
    (some (false)) : Option Bool).bind fun x_7 =>
    cond x_7
    (some (x_4))
    (some (x_2)) : Option Int).bind fun x_8 =>
    some (.go (x_8, (IntKind.i64.wrap (x_3 + 1)))))
    (some (.done x_2))

def path_heap_pop_L11 (n : Nat) : ((List Visit) × Int) → Option (Out ((List Visit) × Int) (List Visit))
  | (x_0, x_1) =>
    (loopN (path_heap_pop_L13 x_0 x_1) n (x_1, 0) : Option Int).bind fun x_2 =>
    cond (x_2 == x_1)
    (some (.done x_0))
    (((idx x_0 x_2).bind fun x_3 =>
    (idx x_0 x_1).bind fun x_4 =>
    (idx x_0 x_1).bind fun x_5 =>
    (idx (upd x_0 x_1 x_3) x_2).bind fun x_6 =>
    some ((upd (upd x_0 x_1 x_3) x_2 x_4)) : Option (List Visit)).bind fun x_7 =>
    some (.go (x_7, x_2)))

def path_heap_pop (n : Nat) : (List Visit) → Option (Visit × (List Visit))
  | x_0 =>
    (idx x_0 0).bind fun x_1 =>
    (idx x_0 (IntKind.i64.wrap ((x_0.length : Int) - 1))).bind fun x_2 =>
    (idx x_0 0).bind fun x_3 =>
    (cut (upd x_0 0 x_2) 0 (IntKind.i64.wrap (((upd x_0 0 x_2).length : Int) - 1))).bind fun x_4 =>
    (loopN (path_heap_pop_L11 n) n (x_4, 0) : Option (List Visit)).bind fun x_5 =>
    some (((Visit.mk (Cell.mk x_1.c.X x_1.c.Y) x_1.n_), x_5))

def path_turns (n : Nat) : Option (List Cell) :=
    some ([(Cell.mk 1 0), (Cell.mk 1 1), (Cell.mk 0 1), (Cell.mk (-1) 1), (Cell.mk (-1) 0), (Cell.mk (-1) (-1)), (Cell.mk 0 (-1)), (Cell.mk 1 (-1))])

def path_cost (n : Nat) : Plan → Cell → Cell → Option (Cell × Int × Bool)
  | x_0, x_1, x_2 =>
    ((path_free n (Plan.mk x_0.W x_0.H x_0.Cells) (Cell.mk x_1.X x_1.Y)).bind fun x_3 =>
    cond (!x_3)
    (some (true))
    ((path_free n (Plan.mk x_0.W x_0.H x_0.Cells) (Cell.mk (IntKind.i64.wrap (x_1.X + x_2.X)) (IntKind.i64.wrap (x_1.Y + x_2.Y)))).bind fun x_4 =>
    some ((!x_4))) : Option Bool).bind fun x_5 =>
    cond x_5
    (some (((Cell.mk (IntKind.i64.wrap (x_1.X + x_2.X)) (IntKind.i64.wrap (x_1.Y + x_2.Y))), 0, false)))
    ((cond (x_2.X == 0)
    (some (true))
    (some ((x_2.Y == 0))) : Option Bool).bind fun x_6 =>
    cond x_6
    (some (((Cell.mk (IntKind.i64.wrap (x_1.X + x_2.X)) (IntKind.i64.wrap (x_1.Y + x_2.Y))), 70, true)))
    (((path_free n (Plan.mk x_0.W x_0.H x_0.Cells) (Cell.mk (IntKind.i64.wrap (x_1.X + x_2.X)) x_1.Y)).bind fun x_7 =>
    cond x_7
    ((path_free n (Plan.mk x_0.W x_0.H x_0.Cells) (Cell.mk x_1.X (IntKind.i64.wrap (x_1.Y + x_2.Y)))).bind fun x_8 =>
    some (x_8))
    (some (false)) : Option Bool).bind fun x_9 =>
    cond x_9
    (some (((Cell.mk (IntKind.i64.wrap (x_1.X + x_2.X)) (IntKind.i64.wrap (x_1.Y + x_2.Y))), 99, true)))
    (some (((Cell.mk (IntKind.i64.wrap (x_1.X + x_2.X)) (IntKind.i64.wrap (x_1.Y + x_2.Y))), 0, false)))))

def path_heap_push_L1 : ((List Visit) × Int) → Option (Out ((List Visit) × Int) (List Visit))
  | (x_0, x_1) =>
    (cond (decide (x_1 > 0))
    ((idx x_0 (IntKind.i64.wrap ((IntKind.i64.wrap (x_1 - 1)).tdiv 2))).bind fun x_2 =>
    (idx x_0 x_1).bind fun x_3 =>
    some ((decide (x_2.n_ > x_3.n_))))
    (some (false)) : Option Bool).bind fun x_4 =>
    cond x_4
    (((idx x_0 (IntKind.i64.wrap ((IntKind.i64.wrap (x_1 - 1)).tdiv 2))).bind fun x_5 =>
    (idx x_0 x_1).bind fun x_6 =>
    (idx x_0 x_1).bind fun x_7 =>
    (idx (upd x_0 x_1 x_5) (IntKind.i64.wrap ((IntKind.i64.wrap (x_1 - 1)).tdiv 2))).bind fun x_8 =>
    some ((upd (upd x_0 x_1 x_5) (IntKind.i64.wrap ((IntKind.i64.wrap (x_1 - 1)).tdiv 2)) x_6)) : Option (List Visit)).bind fun x_9 =>
    some (.go (x_9, (IntKind.i64.wrap ((IntKind.i64.wrap (x_1 - 1)).tdiv 2)))))
    (some (.done x_0))

def path_heap_push (n : Nat) : (List Visit) → Visit → Option (List Visit)
  | x_0, x_1 =>
    (app x_0 [(Visit.mk (Cell.mk x_1.c.X x_1.c.Y) x_1.n_)]).bind fun x_2 =>
    (loopN (path_heap_push_L1) n (x_2, (IntKind.i64.wrap ((x_2.length : Int) - 1))) : Option (List Visit)).bind fun x_3 =>
    some (x_3)

def path_costs_L7 (n : Nat) (x_0 : Plan) (x_1 : (List Int)) (x_2 : Visit) (x_3 : (List Cell)) : ((List Visit) × Int) → Option (Out ((List Visit) × Int) (Out ((List Int) × (List Visit)) (List Int)))
  | (x_4, x_5) =>
    cond (decide (x_5 < 8))
    (((idx x_3 x_5).bind fun x_6 =>
    (path_cost n (Plan.mk x_0.W x_0.H x_0.Cells) (Cell.mk x_2.c.X x_2.c.Y) (Cell.mk x_6.X x_6.Y)).bind fun (x_7, x_8, x_9) =>
    (cond x_9
    ((idx (upd x_1 (IntKind.i64.wrap ((IntKind.i64.wrap (x_2.c.Y * x_0.W)) + x_2.c.X)) x_2.n_) (IntKind.i64.wrap ((IntKind.i64.wrap (x_7.Y * x_0.W)) + x_7.X))).bind fun x_a =>
    some ((decide (x_a < 0))))
    (some (false)) : Option Bool).bind fun x_b =>
    cond x_b
    ((path_heap_push n x_4 (Visit.mk (Cell.mk x_7.X x_7.Y) (IntKind.i64.wrap (x_2.n_ + x_8)))).bind fun x_c =>
    some (x_c))
    (some (x_4)) : Option (List Visit)).bind fun x_d =>
    some (.go (x_d, (IntKind.i64.wrap (x_5 + 1)))))
    (some (.done (.go ((upd x_1 (IntKind.i64.wrap ((IntKind.i64.wrap (x_2.c.Y * x_0.W)) + x_2.c.X)) x_2.n_), x_4))))

def path_costs_L6 (n : Nat) (x_0 : Plan) : ((List Int) × (List Visit)) → Option (Out ((List Int) × (List Visit)) (List Int))
  | (x_1, x_2) =>
    cond (decide ((x_2.length : Int) > 0))
    ((path_heap_pop n x_2).bind fun (x_3, x_4) =>
    (idx x_1 (IntKind.i64.wrap ((IntKind.i64.wrap (x_3.c.Y * x_0.W)) + x_3.c.X))).bind fun x_5 =>
    cond (decide (x_5 ≥ 0))
    (some (.go (x_1, x_4)))
    ((path_turns n ).bind fun x_6 =>
    loopN (path_costs_L7 n x_0 x_1 x_3 x_6) n (x_4, 0)))
    (some (.done x_1))

def path_costs (n : Nat) : Plan → Cell → Option (List Int)
  | x_0, x_1 =>
    (slices_Repeatint_int_ n [(-1)] (IntKind.i64.wrap (x_0.W * x_0.H))).bind fun x_2 =>
    (loopN (path_costs_L6 n x_0) n (x_2, [(Visit.mk (Cell.mk x_1.X x_1.Y) 0)]) : Option (List Int)).bind fun x_3 =>
    some (x_3)

def path_Costs (n : Nat) : Plan → Cell → Option ((List Int) × Int)
  | x_0, x_1 =>
    (plan_Valid n (Plan.mk x_0.W x_0.H x_0.Cells)).bind fun x_2 =>
    cond (!x_2)
    (some (([], 1)))
    ((path_free n (Plan.mk x_0.W x_0.H x_0.Cells) (Cell.mk x_1.X x_1.Y)).bind fun x_3 =>
    cond (!x_3)
    (some (([], 7)))
    ((path_costs n (Plan.mk x_0.W x_0.H x_0.Cells) (Cell.mk x_1.X x_1.Y)).bind fun x_4 =>
    some ((x_4, 0))))

def frontier_is (n : Nat) : Plan → Cell → Int → Option Bool
  | x_0, x_1, x_2 =>
    (cond (decide (x_1.X ≥ 0))
    (cond (decide (x_1.X < x_0.W))
    (cond (decide (x_1.Y ≥ 0))
    (cond (decide (x_1.Y < x_0.H))
    ((idx x_0.Cells (IntKind.i64.wrap ((IntKind.i64.wrap (x_1.Y * x_0.W)) + x_1.X))).bind fun x_3 =>
    some ((x_3 == x_2)))
    (some (false)))
    (some (false)))
    (some (false)))
    (some (false)) : Option Bool).bind fun x_4 =>
    some (x_4)

def frontier_cells_L13 (n : Nat) (x_0 : Plan) (x_1 : Int) : ((List Cell) × Int) → Option (Out ((List Cell) × Int) (List Cell))
  | (x_2, x_3) =>
    cond (decide (x_3 < x_0.W))
    (((frontier_is n (Plan.mk x_0.W x_0.H x_0.Cells) (Cell.mk x_3 x_1) 1).bind fun x_4 =>
    cond (!x_4)
    (some (x_2))
    (((frontier_is n (Plan.mk x_0.W x_0.H x_0.Cells) (Cell.mk (IntKind.i64.wrap (x_3 + 1)) x_1) 0).bind fun x_5 =>
    cond x_5
    (some (true))
    ((frontier_is n (Plan.mk x_0.W x_0.H x_0.Cells) (Cell.mk (IntKind.i64.wrap (x_3 - 1)) x_1) 0).bind fun x_6 =>
    cond x_6
    (some (true))
    ((frontier_is n (Plan.mk x_0.W x_0.H x_0.Cells) (Cell.mk x_3 (IntKind.i64.wrap (x_1 + 1))) 0).bind fun x_7 =>
    cond x_7
    (some (true))
    ((frontier_is n (Plan.mk x_0.W x_0.H x_0.Cells) (Cell.mk x_3 (IntKind.i64.wrap (x_1 - 1))) 0).bind fun x_8 =>
    some (x_8)))) : Option Bool).bind fun x_9 =>
    cond x_9
    ((app x_2 [(Cell.mk x_3 x_1)]).bind fun x_a =>
    some (x_a))
    (some (x_2))) : Option (List Cell)).bind fun x_b =>
    some (.go (x_b, (IntKind.i64.wrap (x_3 + 1)))))
    (some (.done x_2))

def frontier_cells_L11 (n : Nat) (x_0 : Plan) : ((List Cell) × Int) → Option (Out ((List Cell) × Int) (List Cell))
  | (x_1, x_2) =>
    cond (decide (x_2 < x_0.H))
    ((loopN (frontier_cells_L13 n x_0 x_2) n (x_1, 0) : Option (List Cell)).bind fun x_3 =>
    some (.go (x_3, (IntKind.i64.wrap (x_2 + 1)))))
    (some (.done x_1))

def frontier_cells (n : Nat) : Plan → Option (List Cell)
  | x_0 =>
    (loopN (frontier_cells_L11 n x_0) n ([], 0) : Option (List Cell)).bind fun x_1 =>
    some (x_1)

def frontier_Clusters_L1 (x_0 : (List Cell)) : ((List (Cell × Bool)) × Int) → Option (Out ((List (Cell × Bool)) × Int) (List (Cell × Bool)))
  | (x_1, x_2) =>
    cond (decide (x_2 < (x_0.length : Int)))
    ((idx x_0 x_2).bind fun x_3 =>
    some (.go ((mput ke48 (Cell.mk x_3.X x_3.Y) true x_1), (IntKind.i64.wrap (x_2 + 1)))))
    (some (.done x_1))

def frontier_Clusters_L1035 (x_0 : Int) (x_1 : Int) : ((List (Cell × Bool)) × (List Cell) × Int) → Option (Out ((List (Cell × Bool)) × (List Cell) × Int) ((List (Cell × Bool)) × (List Cell)))
  | (x_2, x_3, x_4) =>
    cond (decide (x_4 ≤ 1))
    ((((idx x_3 x_0).bind fun x_5 =>
    (idx x_3 x_0).bind fun x_6 =>
    some (((IntKind.i64.wrap (x_5.X + x_4)), (IntKind.i64.wrap (x_6.Y + x_1)))) : Option (Int × Int)).bind fun (x_7, x_8) =>
    cond ((mget ke48 (Cell.mk x_7 x_8) x_2).getD false)
    ((app x_3 [(Cell.mk x_7 x_8)]).bind fun x_9 =>
    some (((mdel ke48 (Cell.mk x_7 x_8) x_2), x_9)))
    (some ((x_2, x_3))) : Option ((List (Cell × Bool)) × (List Cell))).bind fun (x_a, x_b) =>
    some (.go (x_a, x_b, (IntKind.i64.wrap (x_4 + 1)))))
    (some (.done (x_2, x_3)))

def frontier_Clusters_L1033 (n : Nat) (x_0 : Int) : ((List (Cell × Bool)) × (List Cell) × Int) → Option (Out ((List (Cell × Bool)) × (List Cell) × Int) ((List (Cell × Bool)) × (List Cell)))
  | (x_1, x_2, x_3) =>
    cond (decide (x_3 ≤ 1))
    ((loopN (frontier_Clusters_L1035 x_0 x_3) n (x_1, x_2, (-1)) : Option ((List (Cell × Bool)) × (List Cell))).bind fun (x_4, x_5) =>
    some (.go (x_4, x_5, (IntKind.i64.wrap (x_3 + 1)))))
    (some (.done (x_1, x_2)))

def frontier_Clusters_L1021 (n : Nat) : ((List (Cell × Bool)) × (List Cell) × Int) → Option (Out ((List (Cell × Bool)) × (List Cell) × Int) ((List (Cell × Bool)) × (List Cell)))
  | (x_0, x_1, x_2) =>
    cond (decide (x_2 < (x_1.length : Int)))
    ((loopN (frontier_Clusters_L1033 n x_2) n (x_0, x_1, (-1)) : Option ((List (Cell × Bool)) × (List Cell))).bind fun (x_3, x_4) =>
    some (.go (x_3, x_4, (IntKind.i64.wrap (x_2 + 1)))))
    (some (.done (x_0, x_1)))

def frontier_Clusters_L863 (n : Nat) (x_0 : (List Cell)) : ((List (Cell × Bool)) × (List (List Cell)) × Int) → Option (Out ((List (Cell × Bool)) × (List (List Cell)) × Int) (List (List Cell)))
  | (x_1, x_2, x_3) =>
    cond (decide (x_3 < (x_0.length : Int)))
    (((idx x_0 x_3).bind fun x_4 =>
    cond (!((mget ke48 (Cell.mk x_4.X x_4.Y) x_1).getD false))
    (some ((x_1, x_2)))
    ((loopN (frontier_Clusters_L1021 n) n ((mdel ke48 (Cell.mk x_4.X x_4.Y) x_1), [(Cell.mk x_4.X x_4.Y)], 0) : Option ((List (Cell × Bool)) × (List Cell))).bind fun (x_5, x_6) =>
    (need (decide (x_6.length ≤ 1000000))).bind fun _ =>
    (app x_2 [(sortL cf21 x_6)]).bind fun x_7 =>
    some ((x_5, x_7))) : Option ((List (Cell × Bool)) × (List (List Cell)))).bind fun (x_8, x_9) =>
    some (.go (x_8, x_9, (IntKind.i64.wrap (x_3 + 1)))))
    (some (.done x_2))

def frontier_Clusters (n : Nat) : Plan → Option ((List (List Cell)) × Int)
  | x_0 =>
    (plan_Valid n (Plan.mk x_0.W x_0.H x_0.Cells)).bind fun x_1 =>
    cond (!x_1)
    (some (([], 1)))
    ((frontier_cells n (Plan.mk x_0.W x_0.H x_0.Cells)).bind fun x_2 =>
    (loopN (frontier_Clusters_L1 x_2) n (([] : (List (Cell × Bool))), 0) : Option (List (Cell × Bool))).bind fun x_3 =>
    (loopN (frontier_Clusters_L863 n x_2) n (x_3, [], 0) : Option (List (List Cell))).bind fun x_4 =>
    some ((x_4, 0)))

def frontier_Goals_L25 (x_0 : Plan) (x_1 : (List Int)) (x_2 : (List Cell)) : (Int × Int × Int × Int) → Option (Out (Int × Int × Int × Int) (Int × Int × Int))
  | (x_3, x_4, x_5, x_6) =>
    cond (decide (x_6 < (x_2.length : Int)))
    (((idx x_2 x_6).bind fun x_7 =>
    (idx x_1 (IntKind.i64.wrap ((IntKind.i64.wrap (x_7.Y * x_0.W)) + x_7.X))).bind fun x_8 =>
    (cond (decide (x_8 ≥ 0))
    (cond (decide (x_5 < 0))
    (some (true))
    (some ((decide (x_8 < x_5)))))
    (some (false)) : Option Bool).bind fun x_9 =>
    cond x_9
    (some ((x_7.X, x_7.Y, x_8)))
    (some ((x_3, x_4, x_5))) : Option (Int × Int × Int)).bind fun (x_a, x_b, x_c) =>
    some (.go (x_a, x_b, x_c, (IntKind.i64.wrap (x_6 + 1)))))
    (some (.done (x_3, x_4, x_5)))

def frontier_Goals_L21 (n : Nat) (x_0 : Plan) (x_1 : (List Int)) (x_2 : (List (List Cell))) : ((List Goal) × Int) → Option (Out ((List Goal) × Int) (List Goal))
  | (x_3, x_4) =>
    cond (decide (x_4 < (x_2.length : Int)))
    (((idx x_2 x_4).bind fun x_5 =>
    (loopN (frontier_Goals_L25 x_0 x_1 x_5) n (0, 0, (-1), 0) : Option (Int × Int × Int)).bind fun (x_6, x_7, x_8) =>
    cond (decide (x_8 ≥ 0))
    ((app x_3 [(Goal.mk (Cell.mk x_6 x_7) x_8 (x_5.length : Int))]).bind fun x_9 =>
    some (x_9))
    (some (x_3)) : Option (List Goal)).bind fun x_a =>
    some (.go (x_a, (IntKind.i64.wrap (x_4 + 1)))))
    (some (.done x_3))

def frontier_Goals (n : Nat) : Plan → Cell → Option ((List Goal) × Int)
  | x_0, x_1 =>
    (path_Costs n (Plan.mk x_0.W x_0.H x_0.Cells) (Cell.mk x_1.X x_1.Y)).bind fun (x_2, x_3) =>
    cond (x_3 != 0)
    (some (([], x_3)))
    ((frontier_Clusters n (Plan.mk x_0.W x_0.H x_0.Cells)).bind fun (x_4, x_5) =>
    (loopN (frontier_Goals_L21 n x_0 x_2 x_4) n ([], 0) : Option (List Goal)).bind fun x_6 =>
    (need (decide (x_6.length ≤ 1000000))).bind fun _ =>
    some (((sortL cf18 x_6), 0)))

def top_tourAwake (n : Nat) : Option Bool :=
    (tour_Tour n (Plan.mk 3 1 [1, 1, 0]) (Cell.mk 0 0)).bind fun (x_0, x_1) =>
    (frontier_Goals n (Plan.mk 3 1 [1, 1, 0]) (Cell.mk 0 0)).bind fun (x_2, x_3) =>
    (cond (x_1 == 0)
    (cond ((x_0.length : Int) == 3)
    (cond (x_3 == 0)
    (cond ((x_2.length : Int) == 1)
    ((idx x_2 0).bind fun x_4 =>
    some ((((x_4.Cell.X == 1) && ((x_4.Cell.Y == 0) && true)) && ((x_4.Cost == 70) && ((x_4.Size == 1) && true)))))
    (some (false)))
    (some (false)))
    (some (false)))
    (some (false)) : Option Bool).bind fun x_5 =>
    some (x_5)

def base_Plan_L1 (x_0 : Plan) : Int → Option (Out Int (Out Unit Bool))
  | x_1 =>
    cond (decide (x_1 < (x_0.Cells.length : Int)))
    ((idx x_0.Cells x_1).bind fun x_2 =>
    cond (decide (x_2 > 2))
    (some (.done (.done false)))
    (some (.go (IntKind.i64.wrap (x_1 + 1)))))
    (some (.done (.go ())))

def base_Plan (n : Nat) : Plan → Option Bool
  | x_0 =>
    (cond (decide (x_0.W < 1))
    (some (true))
    (cond (decide (x_0.W > 64))
    (some (true))
    (cond (decide (x_0.H < 1))
    (some (true))
    (cond (decide (x_0.H > 64))
    (some (true))
    (some (((x_0.Cells.length : Int) != (IntKind.i64.wrap (x_0.W * x_0.H)))))))) : Option Bool).bind fun x_1 =>
    cond x_1
    (some (false))
    ((loopN (base_Plan_L1 x_0) n 0 : Option (Out Unit Bool)).bind fun y_2 => (match y_2 with
    | .go _ =>
    some (true)
    | .done r => some r))

def base_Inside (n : Nat) : Plan → Cell → Option Bool
  | x_0, x_1 =>
    (cond (decide (x_1.X ≥ 0))
    (cond (decide (x_1.X < x_0.W))
    (cond (decide (x_1.Y ≥ 0))
    (some ((decide (x_1.Y < x_0.H))))
    (some (false)))
    (some (false)))
    (some (false)) : Option Bool).bind fun x_2 =>
    some (x_2)

def base_At (n : Nat) : Plan → Cell → Option Int
  | x_0, x_1 =>
    (base_Inside n (Plan.mk x_0.W x_0.H x_0.Cells) (Cell.mk x_1.X x_1.Y)).bind fun x_2 =>
    cond (!x_2)
    (some (2))
    ((idx x_0.Cells (IntKind.i64.wrap ((IntKind.i64.wrap (x_1.Y * x_0.W)) + x_1.X))).bind fun x_3 =>
    some (x_3))

def path_Find_L13 (n : Nat) (x_0 : Plan) (x_1 : (List Int)) (x_2 : (List Cell)) (x_3 : Int) (x_4 : Int) (x_5 : (List Cell)) : Int → Option (Out Int (List Cell))
  | x_6 =>
    cond (decide (x_6 < 8))
    ((idx x_5 x_6).bind fun x_7 =>
    (path_cost n (Plan.mk x_0.W x_0.H x_0.Cells) (Cell.mk x_3 x_4) (Cell.mk x_7.X x_7.Y)).bind fun (x_8, x_9, x_a) =>
    (cond x_a
    ((idx x_1 (IntKind.i64.wrap ((IntKind.i64.wrap (x_8.Y * x_0.W)) + x_8.X))).bind fun x_b =>
    (idx x_1 (IntKind.i64.wrap ((IntKind.i64.wrap (x_4 * x_0.W)) + x_3))).bind fun x_c =>
    some (((IntKind.i64.wrap (x_b + x_9)) == x_c)))
    (some (false)) : Option Bool).bind fun x_d =>
    cond x_d
    ((app x_2 [(Cell.mk x_8.X x_8.Y)]).bind fun x_e =>
    some (.done x_e))
    (some (.go (IntKind.i64.wrap (x_6 + 1)))))
    (some (.done x_2))

def path_Find_L11 (n : Nat) (x_0 : Plan) (x_1 : Cell) (x_2 : (List Int)) : ((List Cell) × Int × Int) → Option (Out ((List Cell) × Int × Int) (List Cell))
  | (x_3, x_4, x_5) =>
    cond (!((x_4 == x_1.X) && ((x_5 == x_1.Y) && true)))
    (((path_turns n ).bind fun x_6 =>
    loopN (path_Find_L13 n x_0 x_2 x_3 x_4 x_5 x_6) n 0 : Option (List Cell)).bind fun x_7 =>
    (idx x_7 (IntKind.i64.wrap ((x_7.length : Int) - 1))).bind fun x_8 =>
    some (.go (x_7, x_8.X, x_8.Y)))
    (some (.done x_3))

def path_Find (n : Nat) : Plan → Cell → Cell → Option ((List Cell) × Int × Int)
  | x_0, x_1, x_2 =>
    (plan_Valid n (Plan.mk x_0.W x_0.H x_0.Cells)).bind fun x_3 =>
    cond (!x_3)
    (some (([], 0, 1)))
    (((path_free n (Plan.mk x_0.W x_0.H x_0.Cells) (Cell.mk x_1.X x_1.Y)).bind fun x_4 =>
    cond (!x_4)
    (some (true))
    ((path_free n (Plan.mk x_0.W x_0.H x_0.Cells) (Cell.mk x_2.X x_2.Y)).bind fun x_5 =>
    some ((!x_5))) : Option Bool).bind fun x_6 =>
    cond x_6
    (some (([], 0, 7)))
    ((path_costs n (Plan.mk x_0.W x_0.H x_0.Cells) (Cell.mk x_2.X x_2.Y)).bind fun x_7 =>
    (idx x_7 (IntKind.i64.wrap ((IntKind.i64.wrap (x_1.Y * x_0.W)) + x_1.X))).bind fun x_8 =>
    cond (decide (x_8 < 0))
    (some (([], 0, 14)))
    ((loopN (path_Find_L11 n x_0 x_2 x_7) n ([(Cell.mk x_1.X x_1.Y)], x_1.X, x_1.Y) : Option (List Cell)).bind fun x_9 =>
    some ((x_9, x_8, 0)))))

def frontier_Done (n : Nat) : Plan → Cell → Option (Bool × Int)
  | x_0, x_1 =>
    (frontier_Goals n (Plan.mk x_0.W x_0.H x_0.Cells) (Cell.mk x_1.X x_1.Y)).bind fun (x_2, x_3) =>
    cond (x_3 != 0)
    (some ((false, x_3)))
    (some ((((x_2.length : Int) == 0), 0)))

def top_WholeTour_L13 (n : Nat) (x_0 : Plan) (x_1 : (List Bool)) (x1000131 : Cell) : (Bool × Int) → Option (Out (Bool × Int) (Out ((List Bool) × Bool) (Out ((List Bool) × Bool × Int) (Out ((List Bool) × Bool) Bool))))
  | (x1000185, x1000186) =>
    cond (decide (x1000186 < 4))
    ((cond x1000185
    (some (true))
    ((idx [(Cell.mk (IntKind.i64.wrap (x1000131.X + 1)) x1000131.Y), (Cell.mk x1000131.X (IntKind.i64.wrap (x1000131.Y + 1))), (Cell.mk (IntKind.i64.wrap (x1000131.X - 1)) x1000131.Y), (Cell.mk x1000131.X (IntKind.i64.wrap (x1000131.Y - 1)))] x1000186).bind fun x1000232 =>
    (base_At n (Plan.mk x_0.W x_0.H x_0.Cells) (Cell.mk x1000232.X x1000232.Y)).bind fun x1000238 =>
    some ((x1000238 == 0))) : Option Bool).bind fun x1000227 =>
    some (.go (x1000227, (IntKind.i64.wrap (x1000186 + 1)))))
    (some (.done (.go ((upd x_1 (IntKind.i64.wrap ((IntKind.i64.wrap (x1000131.Y * x_0.W)) + x1000131.X)) true), x1000185))))

def top_WholeTour_L11 (n : Nat) (x_0 : Plan) (x_1 : (List Cell)) : ((List Bool) × Bool × Int) → Option (Out ((List Bool) × Bool × Int) (Out ((List Bool) × Bool) Bool))
  | (x_2, x_3, x_4) =>
    cond (decide (x_4 < (x_1.length : Int)))
    (((idx x_1 x_4).bind fun x1000131 =>
    (base_Inside n (Plan.mk x_0.W x_0.H x_0.Cells) (Cell.mk x1000131.X x1000131.Y)).bind fun x1000140 =>
    cond (!x1000140)
    (some (.done (.done (.done false))))
    ((idx x_2 (IntKind.i64.wrap ((IntKind.i64.wrap (x1000131.Y * x_0.W)) + x1000131.X))).bind fun x1000144 =>
    loopN (top_WholeTour_L13 n x_0 x_2 x1000131) n (x_3, 0)) : Option (Out ((List Bool) × Bool) (Out ((List Bool) × Bool × Int) (Out ((List Bool) × Bool) Bool)))).bind fun y1000129 => (match y1000129 with
    | .go (x1000122, x1000126) =>
    some (.go (x1000122, x1000126, (IntKind.i64.wrap (x_4 + 1))))
    | .done r => some r))
    (some (.done (.go (x_2, x_3))))

def top_WholeTour_L15 (x_0 : (List Int)) (x_1 : (List Bool)) : Int → Option (Out Int (Out Unit Bool))
  | x1000314 =>
    cond (decide (x1000314 < (x_1.length : Int)))
    ((idx x_1 x1000314).bind fun x1000335 =>
    (idx x_0 x1000314).bind fun x1000343 =>
    cond (!(x1000335 == (decide (x1000343 ≥ 0))))
    (some (.done (.done false)))
    (some (.go (IntKind.i64.wrap (x1000314 + 1)))))
    (some (.done (.go ())))

def top_WholeTour_L17 (n : Nat) (x_0 : Plan) (x_1 : Cell) (x_2 : (List Goal)) (x_3 : (List Bool)) : Int → Option (Out Int (Out Unit Bool))
  | x1000606 =>
    cond (decide (x1000606 < (x_2.length : Int)))
    ((idx x_2 x1000606).bind fun x1000674 =>
    (path_Find n (Plan.mk x_0.W x_0.H x_0.Cells) (Cell.mk x_1.X x_1.Y) (Cell.mk x1000674.Cell.X x1000674.Cell.Y)).bind fun (x1000683, x1000684, x1000685) =>
    (cond (x1000685 != 0)
    (some (true))
    ((idx x_2 x1000606).bind fun x1000714 =>
    cond (x1000684 != x1000714.Cost)
    (some (true))
    ((idx x_3 (IntKind.i64.wrap ((IntKind.i64.wrap (x1000674.Cell.Y * x_0.W)) + x1000674.Cell.X))).bind fun x1000720 =>
    cond (!x1000720)
    (some (true))
    (cond (decide (x1000606 > 0))
    ((idx x_2 (IntKind.i64.wrap (x1000606 - 1))).bind fun x1000728 =>
    some ((decide (x1000728.Cost > x1000684))))
    (some (false))))) : Option Bool).bind fun x1000711 =>
    cond x1000711
    (some (.done (.done false)))
    (some (.go (IntKind.i64.wrap (x1000606 + 1)))))
    (some (.done (.go ())))

def top_WholeTour (n : Nat) : Plan → Cell → Option Bool
  | x_0, x_1 =>
    ((top_tourAwake n ).bind fun x_2 =>
    cond (!x_2)
    (some (true))
    (some ((decide ((x_0.Cells.length : Int) > 144)))) : Option Bool).bind fun x_3 =>
    cond x_3
    ((top_tourAwake n ).bind fun x_4 =>
    some (x_4))
    ((tour_Tour n (Plan.mk x_0.W x_0.H x_0.Cells) (Cell.mk x_1.X x_1.Y)).bind fun (x_5, x_6) =>
    (frontier_Goals n (Plan.mk x_0.W x_0.H x_0.Cells) (Cell.mk x_1.X x_1.Y)).bind fun (x_7, x_8) =>
    (path_Costs n (Plan.mk x_0.W x_0.H x_0.Cells) (Cell.mk x_1.X x_1.Y)).bind fun (x_9, x_a) =>
    (cond (x_6 != x_8)
    (some (true))
    (some ((x_8 != x_a))) : Option Bool).bind fun x_b =>
    cond x_b
    (some (false))
    ((cond (x_6 != 0)
    (some (true))
    ((base_Plan n (Plan.mk x_0.W x_0.H x_0.Cells)).bind fun x_c =>
    cond (!x_c)
    (some (true))
    (some (((x_9.length : Int) != (x_0.Cells.length : Int))))) : Option Bool).bind fun x_d =>
    cond x_d
    ((cond (x_6 != 0)
    (cond ((x_5.length : Int) == 0)
    (some (((x_7.length : Int) == 0)))
    (some (false)))
    (some (false)) : Option Bool).bind fun x_e =>
    some (x_e))
    ((mk (x_0.Cells.length : Int) false).bind fun x_f =>
    (loopN (top_WholeTour_L11 n x_0 x_5) n (x_f, false, 0) : Option (Out ((List Bool) × Bool) Bool)).bind fun y_g => (match y_g with
    | .go (x_h, x_i) =>
    (loopN (top_WholeTour_L15 x_9 x_h) n 0 : Option (Out Unit Bool)).bind fun y1000297 => (match y1000297 with
    | .go _ =>
    (loopN (top_WholeTour_L17 n x_0 x_1 x_7 x_h) n 0 : Option (Out Unit Bool)).bind fun y1000544 => (match y1000544 with
    | .go _ =>
    (frontier_Done n (Plan.mk x_0.W x_0.H x_0.Cells) (Cell.mk x_1.X x_1.Y)).bind fun (x1000736, x1000737) =>
    (cond (x1000737 == 0)
    (cond (x1000736 == (!x_i))
    (some ((x1000736 == ((x_7.length : Int) == 0))))
    (some (false)))
    (some (false)) : Option Bool).bind fun x1000740 =>
    some (x1000740)
    | .done r => some r)
    | .done r => some r)
    | .done r => some r))))

def cmp_isNaN (n : Nat) : Int → Option Bool
  | x1000743 =>
    some ((x1000743 != x1000743))

def cmp_Compare (n : Nat) : Int → Int → Option Int
  | x1000744, x1000745 =>
    (cmp_isNaN n x1000744).bind fun x1000746 =>
    (cmp_isNaN n x1000745).bind fun x1000749 =>
    cond x1000746
    (cond x1000749
    (some (0))
    (some ((-1))))
    (cond x1000749
    (some (1))
    (cond (decide (x1000744 < x1000745))
    (some ((-1)))
    (cond (decide (x1000744 > x1000745))
    (some (1))
    (some (0)))))

def cmp_Or_L1 (x1000752 : (List Int)) : Int → Option (Out Int (Out Unit Int))
  | x1000788 =>
    cond (decide (x1000788 < (x1000752.length : Int)))
    ((idx x1000752 x1000788).bind fun x1000799 =>
    cond (x1000799 != 0)
    (some (.done (.done x1000799)))
    (some (.go (IntKind.i64.wrap (x1000788 + 1)))))
    (some (.done (.go ())))

def cmp_Or (n : Nat) : (List Int) → Option Int
  | x1000752 =>
    (loopN (cmp_Or_L1 x1000752) n 0 : Option (Out Unit Int)).bind fun y1000780 => (match y1000780 with
    | .go _ =>
    some (0)
    | .done r => some r)

def frontier_compare (n : Nat) : Cell → Cell → Option Int
  | x1000807, x1000808 =>
    (cmp_Compare n x1000807.Y x1000808.Y).bind fun x1000832 =>
    (cmp_Compare n x1000807.X x1000808.X).bind fun x1000835 =>
    (cmp_Or n [x1000832, x1000835]).bind fun x1000842 =>
    some (x1000842)

def frontier_Goals_1 (n : Nat) : Goal → Goal → Option Int
  | x1000845, x1000846 =>
    (cmp_Compare n x1000845.Cost x1000846.Cost).bind fun x1000870 =>
    (frontier_compare n (Cell.mk x1000845.Cell.X x1000845.Cell.Y) (Cell.mk x1000846.Cell.X x1000846.Cell.Y)).bind fun x1000873 =>
    (cmp_Or n [x1000870, x1000873]).bind fun x1000880 =>
    some (x1000880)

def bits_Mul64 (n : Nat) : Int → Int → Option (Int × Int)
  | x1000885, x1000886 =>
    some (((IntKind.u64.wrap ((IntKind.u64.wrap ((IntKind.u64.wrap ((x1000885.fdiv (2 ^ min (32 : Int).toNat (IntKind.u64).bits)) * (x1000886.fdiv (2 ^ min (32 : Int).toNat (IntKind.u64).bits)))) + ((IntKind.u64.wrap ((IntKind.u64.wrap ((x1000885.fdiv (2 ^ min (32 : Int).toNat (IntKind.u64).bits)) * (ib .and .u64 x1000886 4294967295))) + ((IntKind.u64.wrap ((ib .and .u64 x1000885 4294967295) * (ib .and .u64 x1000886 4294967295))).fdiv (2 ^ min (32 : Int).toNat (IntKind.u64).bits)))).fdiv (2 ^ min (32 : Int).toNat (IntKind.u64).bits)))) + ((IntKind.u64.wrap ((ib .and .u64 (IntKind.u64.wrap ((IntKind.u64.wrap ((x1000885.fdiv (2 ^ min (32 : Int).toNat (IntKind.u64).bits)) * (ib .and .u64 x1000886 4294967295))) + ((IntKind.u64.wrap ((ib .and .u64 x1000885 4294967295) * (ib .and .u64 x1000886 4294967295))).fdiv (2 ^ min (32 : Int).toNat (IntKind.u64).bits)))) 4294967295) + (IntKind.u64.wrap ((ib .and .u64 x1000885 4294967295) * (x1000886.fdiv (2 ^ min (32 : Int).toNat (IntKind.u64).bits)))))).fdiv (2 ^ min (32 : Int).toNat (IntKind.u64).bits)))), (IntKind.u64.wrap (x1000885 * x1000886))))

def bits_Mul (n : Nat) : Int → Int → Option (Int × Int)
  | x1000887, x1000888 =>
    (bits_Mul64 n x1000887 x1000888).bind fun (x1000889, x1000890) =>
    some ((x1000889, x1000890))

end Go.Proofs.Ytcdboppghnchpaa
