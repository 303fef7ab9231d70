/-
  What the functions of the program compute, as plain Lean functions.
-/
import Derived.Test.YtkhmdpekfcahkaaCoreB
namespace Go.Proofs.Ytkhmdpekfcahkaa
open Go Go.Proofs.Ytkhmdpekfcahkaa.Gw Go.RowKit
set_option linter.unusedVariables false
structure Cell where
  X : Int
  Y : Int
structure Task where
  Kind : Int
  Cell : Cell
  Limit : Int
  Tries : Int
structure Node where
  Kind : Int
  Name : Int
  Count : Int
  Kids : (List Node)
structure Node_2 where
  kind : Int
  name : Int
  count : Int
  kids : (List Int)
structure Runner where
  nodes : (List Node_2)
  counters : (List Int)
  active : (List Bool)
structure Mission where
  run : Runner
  done : (List Bool)
  status : Int
  ticks : Int
structure Tick where
  actions : (List Int)
  tests : (List Bool)
  status : (List Int)
  ticked : (List Int)
structure Mission_2 where
  Tasks : (List Task)
  Done : Int
  Ran : Int
  Failed : Int
  Status : Int
  Ticks : Int
def okCell (x : Cell) : Prop := inK .i64 x.X ∧ inK .i64 x.Y
def okTask (x : Task) : Prop := inK .i64 x.Kind ∧ okCell x.Cell ∧ inK .i64 x.Limit ∧ inK .i64 x.Tries
def addN_L (self : List Node_2 → Node → Option (Int × List Node_2)) (ts : List Node) (k : Int) : (Int × List Node_2) → Option (Out (Int × List Node_2) (List Node_2))
  | (i, ns) =>
    cond (decide (i < (ts.length : Int)))
    ((idx ts i).bind fun t => (self ns t).bind fun (j, ns1) => (idx ns1 k).bind fun nd => (app nd.kids [j]).bind fun ks => some (.go ((IntKind.i64.wrap (i + 1)), upd ns1 k (Node_2.mk nd.kind nd.name nd.count ks))))
    (some (.done ns))
def addN_F (n : Nat) (self : List Node_2 → Node → Option (Int × List Node_2)) : List Node_2 → Node → Option (Int × List Node_2)
  | ns, t => (app ns [Node_2.mk t.Kind t.Name t.Count []]).bind fun ns1 => (loopN (addN_L self t.Kids (ns.length : Int)) n (0, ns1)).bind fun ns2 => some ((ns.length : Int), ns2)
def addN : Nat → List Node_2 → Node → Option (Int × List Node_2)
  | 0 => fun _ _ => none
  | n + 1 => addN_F n (addN n)
def tree_Runner_add (n : Nat) (r : Runner) (t : Node) : Option (Int × Runner) := (addN n r.nodes t).bind fun (i, ns) => some (i, Runner.mk ns [] [])
def mission_within (n : Nat) : Int → Int → Int → Option Bool
  | x1, x2, x3 =>
    (cond (decide (x1 ≥ x2))
    (some ((decide (x1 ≤ x3))))
    (some (false)) : Option Bool).bind fun x4 =>
    some (x4)

def mission_valid (n : Nat) : Task → Option Bool
  | x7 =>
    (cond (x7.Kind == 1)
    (some (.go 63))
    ((cond (x7.Kind == 2)
    (some ((x7.Kind == 2)))
    (some ((x7.Kind == 3))) : Option Bool).bind fun x19 =>
    cond x19
    (some (.go 0))
    (some (.done false))) : Option (Out Int Bool)).bind fun y17 => (match y17 with
    | .go x16 =>
    (((mission_within n x7.Cell.X 0 x16).bind fun x38 =>
    cond x38
    ((mission_within n x7.Cell.Y 0 x16).bind fun x41 =>
    cond x41
    ((mission_within n x7.Limit 1 1000).bind fun x44 =>
    cond x44
    ((mission_within n x7.Tries 1 10).bind fun x47 =>
    some (x47))
    (some (false)))
    (some (false)))
    (some (false)) : Option Bool).bind fun x34 =>
    some (x34))
    | .done r => some r)

def mission_one (n : Nat) : Int → Task → Option Node
  | x50, x51 =>
    some ((Node.mk 8 0 x51.Limit [(Node.mk 7 0 x51.Tries [(Node.mk 4 0 0 [(Node.mk 2 x50 0 []), (Node.mk 1 x50 0 []), (Node.mk 3 0 0 [(Node.mk 1 (IntKind.i64.wrap (32 + x50)) 0 []), (Node.mk 2 63 0 [])])])])]))

def mission_Build_L1 (n : Nat) (x102 : (List Task)) : ((List Node) × Int) → Option (Out ((List Node) × Int) (Out (List Node) (Node × Int)))
  | (x363, x367) =>
    cond (decide (x367 < (x102.length : Int)))
    ((idx x102 x367).bind fun x435 =>
    (mission_valid n (Task.mk x435.Kind (Cell.mk x435.Cell.X x435.Cell.Y) x435.Limit x435.Tries)).bind fun x444 =>
    cond (!x444)
    (some (.done (.done ((Node.mk 0 0 0 []), 1))))
    ((mission_one n x367 (Task.mk x435.Kind (Cell.mk x435.Cell.X x435.Cell.Y) x435.Limit x435.Tries)).bind fun x470 =>
    (app x363 [x470]).bind fun x484 =>
    some (.go (x484, (IntKind.i64.wrap (x367 + 1))))))
    (some (.done (.go x363)))

def mission_Build (n : Nat) : (List Task) → Option (Node × Int)
  | x102 =>
    cond (decide ((x102.length : Int) > 7))
    (some (((Node.mk 0 0 0 []), 6)))
    ((loopN (mission_Build_L1 n x102) n ([], 0) : Option (Out (List Node) (Node × Int))).bind fun y304 => (match y304 with
    | .go x298 =>
    some (((Node.mk 3 0 0 x298), 0))
    | .done r => some r))

def tree_size_L1 (self : (Node → Int → Option Int)) (x494 : Node) (x497 : Int) : (Int × Int) → Option (Out (Int × Int) Int)
  | (x573, x574) =>
    cond (decide (x574 < (x494.Kids.length : Int)))
    ((idx x494.Kids x574).bind fun x595 =>
    cond (decide (x573 ≥ x497))
    (some (.done x573))
    ((self (Node.mk x595.Kind x595.Name x595.Count x595.Kids) (IntKind.i64.wrap (x497 - x573))).bind fun x607 =>
    some (.go ((IntKind.i64.wrap (x573 + x607)), (IntKind.i64.wrap (x574 + 1))))))
    (some (.done x573))

def tree_size_F (n : Nat) (self : Node → Int → Option Int) : Node → Int → Option Int
  | x494, x497 =>
    (loopN (tree_size_L1 self x494 x497) n (1, 0) : Option Int).bind fun x555 =>
    some (x555)
def tree_size : Nat → Node → Int → Option Int
  | 0 => fun _ _ => none
  | n + 1 => tree_size_F n (tree_size n)

def tree_Size (n : Nat) : Node → Option Int
  | x611 =>
    (tree_size n (Node.mk x611.Kind x611.Name x611.Count x611.Kids) 65).bind fun x619 =>
    some (x619)

def tree_fits (n : Nat) : Node → Option Bool
  | x622 =>
    (cond (x622.Kind == 1)
    (some ((x622.Kind == 1)))
    (some ((x622.Kind == 2))) : Option Bool).bind fun x631 =>
    cond x631
    ((cond (decide (x622.Name ≥ 0))
    (cond (decide (x622.Name < 64))
    (cond (x622.Count == 0)
    (some (((x622.Kids.length : Int) == 0)))
    (some (false)))
    (some (false)))
    (some (false)) : Option Bool).bind fun x634 =>
    some (x634))
    ((cond (x622.Kind == 3)
    (some ((x622.Kind == 3)))
    (some ((x622.Kind == 4))) : Option Bool).bind fun x637 =>
    cond x637
    ((cond (x622.Name == 0)
    (some ((x622.Count == 0)))
    (some (false)) : Option Bool).bind fun x640 =>
    some (x640))
    (cond (x622.Kind == 5)
    ((cond (x622.Name == 0)
    (cond (decide (x622.Count ≥ 1))
    (some ((decide (x622.Count ≤ (x622.Kids.length : Int)))))
    (some (false)))
    (some (false)) : Option Bool).bind fun x643 =>
    some (x643))
    (cond (x622.Kind == 6)
    ((cond (x622.Name == 0)
    (cond (x622.Count == 0)
    (some (((x622.Kids.length : Int) == 1)))
    (some (false)))
    (some (false)) : Option Bool).bind fun x646 =>
    some (x646))
    ((cond (x622.Kind == 7)
    (some ((x622.Kind == 7)))
    (some ((x622.Kind == 8))) : Option Bool).bind fun x649 =>
    cond x649
    ((cond (x622.Name == 0)
    (cond (decide (x622.Count ≥ 1))
    (cond (decide (x622.Count ≤ 1000))
    (some (((x622.Kids.length : Int) == 1)))
    (some (false)))
    (some (false)))
    (some (false)) : Option Bool).bind fun x652 =>
    some (x652))
    (some (false))))))

def tree_valid_L1 (self : (Node → Int → Option Bool)) (x655 : Node) (x658 : Int) : Int → Option (Out Int (Out Unit Bool))
  | x741 =>
    cond (decide (x741 < (x655.Kids.length : Int)))
    ((idx x655.Kids x741).bind fun x761 =>
    (self (Node.mk x761.Kind x761.Name x761.Count x761.Kids) (IntKind.i64.wrap (x658 - 1))).bind fun x772 =>
    cond (!x772)
    (some (.done (.done false)))
    (some (.go (IntKind.i64.wrap (x741 + 1)))))
    (some (.done (.go ())))

def tree_valid_F (n : Nat) (self : Node → Int → Option Bool) : Node → Int → Option Bool
  | x655, x658 =>
    (cond (x658 == 0)
    (some (true))
    ((tree_fits n (Node.mk x655.Kind x655.Name x655.Count x655.Kids)).bind fun x671 =>
    some ((!x671))) : Option Bool).bind fun x667 =>
    cond x667
    (some (false))
    ((loopN (tree_valid_L1 self x655 x658) n 0 : Option (Out Unit Bool)).bind fun y725 => (match y725 with
    | .go _ =>
    some (true)
    | .done r => some r))
def tree_valid : Nat → Node → Int → Option Bool
  | 0 => fun _ _ => none
  | n + 1 => tree_valid_F n (tree_valid n)

def tree_Valid (n : Nat) : Node → Option Bool
  | x777 =>
    ((tree_Size n (Node.mk x777.Kind x777.Name x777.Count x777.Kids)).bind fun x795 =>
    cond (decide (x795 ≤ 64))
    ((tree_valid n (Node.mk x777.Kind x777.Name x777.Count x777.Kids) 16).bind fun x798 =>
    some (x798))
    (some (false)) : Option Bool).bind fun x791 =>
    some (x791)

def tree_New (n : Nat) : Node → Option ((Option Runner) × Int)
  | x872 =>
    (tree_Valid n (Node.mk x872.Kind x872.Name x872.Count x872.Kids)).bind fun x882 =>
    cond (!x882)
    (some ((none, 1)))
    ((tree_Runner_add n (Runner.mk [] [] []) (Node.mk x872.Kind x872.Name x872.Count x872.Kids)).bind fun (x887, x888) =>
    ((mk (x888.nodes.length : Int) 0).bind fun x_0 =>
    (mk (x888.nodes.length : Int) false).bind fun x_1 =>
    some ((x_0, x_1)) : Option ((List Int) × (List Bool))).bind fun (x971, x975) =>
    some (((some (Runner.mk x888.nodes x971 x975)), 0)))

def mission_New (n : Nat) : (List Task) → Option ((Option Mission) × Int)
  | x_0 =>
    (mission_Build n x_0).bind fun (x_1, x_2) =>
    cond (x_2 != 0)
    (some ((none, x_2)))
    ((tree_New n (Node.mk x_1.Kind x_1.Name x_1.Count x_1.Kids)).bind fun (x_3, x_4) =>
    (match x_3 with
    | none => ((mk (x_0.length : Int) false).bind fun x_5 =>
    none)
    | some x_6 => ((mk (x_0.length : Int) false).bind fun x_7 =>
    some (((some (Mission.mk (Runner.mk x_6.nodes x_6.counters x_6.active) x_7 1 0)), 0)))))

def slices_Clonebool_bool_ (n : Nat) : (List Bool) → Option ((List Bool) × (List Bool))
  | x_0 =>
    (app ([] : List Bool) x_0).bind fun x_1 =>
    some ((x_1, x_0))

def tree_Runner_chain_L1 (f_tree_Runner_run : (Runner → Int → Tick → Option (Int × Runner × Tick))) (x_0 : (List Int)) (x_1 : Int) : ((List Node_2) × (List Int) × (List Bool) × (List Int) × (List Bool) × (List Int) × (List Int) × Int) → Option (Out ((List Node_2) × (List Int) × (List Bool) × (List Int) × (List Bool) × (List Int) × (List Int) × Int) (Out ((List Node_2) × (List Int) × (List Bool) × (List Int) × (List Bool) × (List Int) × (List Int)) (Int × Runner × Tick)))
  | (x_2, x_3, x_4, x_5, x_6, x_7, x_8, x_9) =>
    cond (decide (x_9 < (x_0.length : Int)))
    ((idx x_0 x_9).bind fun x_a =>
    (f_tree_Runner_run (Runner.mk x_2 x_3 x_4) x_a (Tick.mk x_5 x_6 x_7 x_8)).bind fun (x_b, x_c, x_d) =>
    cond (x_b != x_1)
    (some (.done (.done (x_b, (Runner.mk x_c.nodes x_c.counters x_c.active), (Tick.mk x_d.actions x_d.tests x_d.status x_d.ticked)))))
    (some (.go (x_c.nodes, x_c.counters, x_c.active, x_d.actions, x_d.tests, x_d.status, x_d.ticked, (IntKind.i64.wrap (x_9 + 1))))))
    (some (.done (.go (x_2, x_3, x_4, x_5, x_6, x_7, x_8))))

def tree_Runner_chain (n : Nat) (f_tree_Runner_run : (Runner → Int → Tick → Option (Int × Runner × Tick))) : Runner → (List Int) → Int → Tick → Option (Int × Runner × Tick)
  | x_0, x_1, x_2, x_3 =>
    (loopN (tree_Runner_chain_L1 f_tree_Runner_run x_1 x_2) n (x_0.nodes, x_0.counters, x_0.active, x_3.actions, x_3.tests, x_3.status, x_3.ticked, 0) : Option (Out ((List Node_2) × (List Int) × (List Bool) × (List Int) × (List Bool) × (List Int) × (List Int)) (Int × Runner × Tick))).bind fun y_4 => (match y_4 with
    | .go (x_5, x_6, x_7, x_8, x_9, x_a, x_b) =>
    some ((x_2, (Runner.mk x_5 x_6 x_7), (Tick.mk x_8 x_9 x_a x_b)))
    | .done r => some r)

def tree_Runner_parallel_L1 (f_tree_Runner_run : (Runner → Int → Tick → Option (Int × Runner × Tick))) (x_0 : Node_2) : ((List Node_2) × (List Int) × (List Bool) × (List Int) × (List Bool) × (List Int) × (List Int) × Int × Int × Int) → Option (Out ((List Node_2) × (List Int) × (List Bool) × (List Int) × (List Bool) × (List Int) × (List Int) × Int × Int × Int) (Int × Int × (List Node_2) × (List Int) × (List Bool) × (List Int) × (List Bool) × (List Int) × (List Int)))
  | (x_1, x_2, x_3, x_4, x_5, x_6, x_7, x_8, x_9, x_a) =>
    cond (decide (x_a < (x_0.kids.length : Int)))
    (((idx x_0.kids x_a).bind fun x_b =>
    (f_tree_Runner_run (Runner.mk x_1 x_2 x_3) x_b (Tick.mk x_4 x_5 x_6 x_7)).bind fun (x_c, x_d, x_e) =>
    cond (x_c == 2)
    (some ((x_d.nodes, x_d.counters, x_d.active, x_e.actions, x_e.tests, x_e.status, x_e.ticked, (IntKind.i64.wrap (x_8 + 1)), x_9)))
    (cond (x_c == 3)
    (some ((x_d.nodes, x_d.counters, x_d.active, x_e.actions, x_e.tests, x_e.status, x_e.ticked, x_8, (IntKind.i64.wrap (x_9 + 1)))))
    (some ((x_d.nodes, x_d.counters, x_d.active, x_e.actions, x_e.tests, x_e.status, x_e.ticked, x_8, x_9)))) : Option ((List Node_2) × (List Int) × (List Bool) × (List Int) × (List Bool) × (List Int) × (List Int) × Int × Int)).bind fun (x_f, x_g, x_h, x_i, x_j, x_k, x_l, x_m, x_n) =>
    some (.go (x_f, x_g, x_h, x_i, x_j, x_k, x_l, x_m, x_n, (IntKind.i64.wrap (x_a + 1)))))
    (some (.done (x_8, x_9, x_1, x_2, x_3, x_4, x_5, x_6, x_7)))

def tree_Runner_parallel (n : Nat) (f_tree_Runner_run : (Runner → Int → Tick → Option (Int × Runner × Tick))) : Runner → Node_2 → Tick → Option (Int × Runner × Tick)
  | x_0, x_1, x_2 =>
    (loopN (tree_Runner_parallel_L1 f_tree_Runner_run x_1) n (x_0.nodes, x_0.counters, x_0.active, x_2.actions, x_2.tests, x_2.status, x_2.ticked, 0, 0, 0) : Option (Int × Int × (List Node_2) × (List Int) × (List Bool) × (List Int) × (List Bool) × (List Int) × (List Int))).bind fun (x_3, x_4, x_5, x_6, x_7, x_8, x_9, x_a, x_b) =>
    cond (decide (x_3 ≥ x_1.count))
    (some ((2, (Runner.mk x_5 x_6 x_7), (Tick.mk x_8 x_9 x_a x_b))))
    (cond (decide (x_4 > (IntKind.i64.wrap ((x_1.kids.length : Int) - x_1.count))))
    (some ((3, (Runner.mk x_5 x_6 x_7), (Tick.mk x_8 x_9 x_a x_b))))
    (some ((1, (Runner.mk x_5 x_6 x_7), (Tick.mk x_8 x_9 x_a x_b)))))

def tree_Runner_decorate (n : Nat) (f_tree_Runner_run : (Runner → Int → Tick → Option (Int × Runner × Tick))) : Runner → Int → Tick → Option (Int × Runner × Tick)
  | x_0, x_1, x_2 =>
    (idx x_0.nodes x_1).bind fun x_3 =>
    (idx x_3.kids 0).bind fun x_4 =>
    (f_tree_Runner_run (Runner.mk x_0.nodes x_0.counters x_0.active) x_4 (Tick.mk x_2.actions x_2.tests x_2.status x_2.ticked)).bind fun (x_5, x_6, x_7) =>
    ((cond (x_3.kind == 6)
    (some ((x_5 != 1)))
    (some (false)) : Option Bool).bind fun x_8 =>
    cond x_8
    (some (.done ((IntKind.i64.wrap (5 - x_5)), (Runner.mk x_6.nodes x_6.counters x_6.active), (Tick.mk x_7.actions x_7.tests x_7.status x_7.ticked))))
    ((cond (x_3.kind == 7)
    (some ((x_5 == 3)))
    (some (false)) : Option Bool).bind fun x_9 =>
    cond x_9
    ((idx x_6.counters x_1).bind fun x_a =>
    (idx x_6.counters x_1).bind fun x_b =>
    (idx (upd x_6.counters x_1 (IntKind.i64.wrap (x_a + 1))) x_1).bind fun x_c =>
    cond (decide (x_c < x_3.count))
    (some (.done (1, (Runner.mk x_6.nodes (upd x_6.counters x_1 (IntKind.i64.wrap (x_a + 1))) x_6.active), (Tick.mk x_7.actions x_7.tests x_7.status x_7.ticked))))
    (some (.go (upd x_6.counters x_1 (IntKind.i64.wrap (x_a + 1))))))
    ((cond (x_3.kind == 8)
    (some ((x_5 == 1)))
    (some (false)) : Option Bool).bind fun x_d =>
    cond x_d
    ((idx x_6.counters x_1).bind fun x_e =>
    (idx x_6.counters x_1).bind fun x_f =>
    (idx (upd x_6.counters x_1 (IntKind.i64.wrap (x_e + 1))) x_1).bind fun x_g =>
    cond (x_g == x_3.count)
    (some (.done (3, (Runner.mk x_6.nodes (upd x_6.counters x_1 (IntKind.i64.wrap (x_e + 1))) x_6.active), (Tick.mk x_7.actions x_7.tests x_7.status x_7.ticked))))
    (some (.go (upd x_6.counters x_1 (IntKind.i64.wrap (x_e + 1))))))
    (some (.go x_6.counters)))) : Option (Out (List Int) (Int × Runner × Tick))).bind fun y_h => (match y_h with
    | .go x_i =>
    some ((x_5, (Runner.mk x_6.nodes x_i x_6.active), (Tick.mk x_7.actions x_7.tests x_7.status x_7.ticked)))
    | .done r => some r)

def tree_Runner_run_F (n : Nat) (self : Runner → Int → Tick → Option (Int × Runner × Tick)) : Runner → Int → Tick → Option (Int × Runner × Tick)
  | x_0, x_1, x_2 =>
    (idx x_0.nodes x_1).bind fun x_3 =>
    (cond (x_3.kind == 1)
    ((app x_2.ticked [x_1]).bind fun x_4 =>
    (cond (decide (x_3.name < (x_2.actions.length : Int)))
    ((idx x_2.actions x_3.name).bind fun x_5 =>
    cond (decide (x_5 ≥ 1))
    ((idx x_2.actions x_3.name).bind fun x_6 =>
    some ((decide (x_6 ≤ 3))))
    (some (false)))
    (some (false)) : Option Bool).bind fun x_7 =>
    cond x_7
    ((idx x_2.actions x_3.name).bind fun x_8 =>
    some ((x_2.actions, x_2.tests, x_2.status, x_4, x_8, x_0.nodes, x_0.counters, x_0.active)))
    (some ((x_2.actions, x_2.tests, x_2.status, x_4, 3, x_0.nodes, x_0.counters, x_0.active))))
    (cond (x_3.kind == 2)
    ((cond (decide (x_3.name < (x_2.tests.length : Int)))
    ((idx x_2.tests x_3.name).bind fun x_9 =>
    some (x_9))
    (some (false)) : Option Bool).bind fun x_a =>
    cond x_a
    (some ((x_2.actions, x_2.tests, x_2.status, x_2.ticked, 2, x_0.nodes, x_0.counters, x_0.active)))
    (some ((x_2.actions, x_2.tests, x_2.status, x_2.ticked, 3, x_0.nodes, x_0.counters, x_0.active))))
    (cond (x_3.kind == 3)
    ((tree_Runner_chain n self (Runner.mk x_0.nodes x_0.counters x_0.active) x_3.kids 2 (Tick.mk x_2.actions x_2.tests x_2.status x_2.ticked)).bind fun (x_b, x_c, x_d) =>
    some ((x_d.actions, x_d.tests, x_d.status, x_d.ticked, x_b, x_c.nodes, x_c.counters, x_c.active)))
    (cond (x_3.kind == 4)
    ((tree_Runner_chain n self (Runner.mk x_0.nodes x_0.counters x_0.active) x_3.kids 3 (Tick.mk x_2.actions x_2.tests x_2.status x_2.ticked)).bind fun (x_e, x_f, x_g) =>
    some ((x_g.actions, x_g.tests, x_g.status, x_g.ticked, x_e, x_f.nodes, x_f.counters, x_f.active)))
    (cond (x_3.kind == 5)
    ((tree_Runner_parallel n self (Runner.mk x_0.nodes x_0.counters x_0.active) (Node_2.mk x_3.kind x_3.name x_3.count x_3.kids) (Tick.mk x_2.actions x_2.tests x_2.status x_2.ticked)).bind fun (x_h, x_i, x_j) =>
    some ((x_j.actions, x_j.tests, x_j.status, x_j.ticked, x_h, x_i.nodes, x_i.counters, x_i.active)))
    ((tree_Runner_decorate n self (Runner.mk x_0.nodes x_0.counters x_0.active) x_1 (Tick.mk x_2.actions x_2.tests x_2.status x_2.ticked)).bind fun (x_k, x_l, x_m) =>
    some ((x_m.actions, x_m.tests, x_m.status, x_m.ticked, x_k, x_l.nodes, x_l.counters, x_l.active))))))) : Option ((List Int) × (List Bool) × (List Int) × (List Int) × Int × (List Node_2) × (List Int) × (List Bool))).bind fun (x_n, x_o, x_p, x_q, x_r, x_s, x_t, x_u) =>
    (idx x_p x_1).bind fun x_v =>
    some ((x_r, (Runner.mk x_s x_t x_u), (Tick.mk x_n x_o (upd x_p x_1 x_r) x_q)))
def tree_Runner_run : Nat → Runner → Int → Tick → Option (Int × Runner × Tick)
  | 0 => fun _ _ _ => none
  | n + 1 => tree_Runner_run_F n (tree_Runner_run n)

def tree_Runner_settle_L0 (self : (Runner → Int → Bool → Tick → Option (Runner × Tick))) (x_0 : Bool) (x_1 : Node_2) : ((List Node_2) × (List Int) × (List Bool) × (List Int) × (List Bool) × (List Int) × (List Int) × Int) → Option (Out ((List Node_2) × (List Int) × (List Bool) × (List Int) × (List Bool) × (List Int) × (List Int) × Int) (Runner × Tick))
  | (x_2, x_3, x_4, x_5, x_6, x_7, x_8, x_9) =>
    cond (decide (x_9 < (x_1.kids.length : Int)))
    ((idx x_1.kids x_9).bind fun x_a =>
    (self (Runner.mk x_2 x_3 x_4) x_a x_0 (Tick.mk x_5 x_6 x_7 x_8)).bind fun (x_b, x_c) =>
    some (.go (x_b.nodes, x_b.counters, x_b.active, x_c.actions, x_c.tests, x_c.status, x_c.ticked, (IntKind.i64.wrap (x_9 + 1)))))
    (some (.done ((Runner.mk x_2 x_3 x_4), (Tick.mk x_5 x_6 x_7 x_8))))

def tree_Runner_settle_F (n : Nat) (self : Runner → Int → Bool → Tick → Option (Runner × Tick)) : Runner → Int → Bool → Tick → Option (Runner × Tick)
  | x_0, x_1, x_2, x_3 =>
    (cond x_2
    ((idx x_3.status x_1).bind fun x_4 =>
    some ((x_4 == 1)))
    (some (false)) : Option Bool).bind fun x_5 =>
    (cond (!x_5)
    ((idx x_0.counters x_1).bind fun x_6 =>
    some ((upd x_0.counters x_1 0)))
    (some (x_0.counters)) : Option (List Int)).bind fun x_7 =>
    (cond x_5
    ((idx x_0.nodes x_1).bind fun x_8 =>
    (idx x_0.active x_1).bind fun x_9 =>
    some ((upd x_0.active x_1 (x_8.kind == 1))))
    ((idx x_0.active x_1).bind fun x_a =>
    some ((upd x_0.active x_1 false))) : Option (List Bool)).bind fun x_b =>
    (idx x_0.nodes x_1).bind fun x_c =>
    loopN (tree_Runner_settle_L0 self x_5 x_c) n (x_0.nodes, x_7, x_b, x_3.actions, x_3.tests, x_3.status, x_3.ticked, 0)
def tree_Runner_settle : Nat → Runner → Int → Bool → Tick → Option (Runner × Tick)
  | 0 => fun _ _ _ _ => none
  | n + 1 => tree_Runner_settle_F n (tree_Runner_settle n)

def tree_Runner_Tick_L1 (x_0 : (List Bool)) (x_1 : Runner) (x_2 : Tick) : ((List Int) × Int) → Option (Out ((List Int) × Int) (List Int))
  | (x_3, x_4) =>
    cond (decide (x_4 < (x_1.nodes.length : Int)))
    (((idx x_1.nodes x_4).bind fun x_5 =>
    cond (x_5.kind != 1)
    (some (x_3))
    (((idx x_0 x_4).bind fun x_6 =>
    cond x_6
    ((idx x_2.status x_4).bind fun x_7 =>
    cond (x_7 == 0)
    (some (true))
    ((idx x_2.status x_4).bind fun x_8 =>
    cond (x_8 == 1)
    ((idx x_1.active x_4).bind fun x_9 =>
    some ((!x_9)))
    (some (false))))
    ((idx x_2.status x_4).bind fun x_a =>
    cond (x_a == 1)
    ((idx x_1.active x_4).bind fun x_b =>
    some ((!x_b)))
    (some (false))) : Option Bool).bind fun x_c =>
    cond x_c
    ((app x_3 [x_4]).bind fun x_d =>
    some (x_d))
    (some (x_3))) : Option (List Int)).bind fun x_e =>
    some (.go (x_e, (IntKind.i64.wrap (x_4 + 1)))))
    (some (.done x_3))

def tree_Runner_Tick (n : Nat) : Runner → (List Int) → (List Bool) → Option (Int × (List Int) × (List Int) × Runner)
  | x_0, x_1, x_2 =>
    (mk (x_0.nodes.length : Int) 0).bind fun x_3 =>
    (tree_Runner_run n (Runner.mk x_0.nodes x_0.counters x_0.active) 0 (Tick.mk x_1 x_2 x_3 [])).bind fun (x_4, x_5, x_6) =>
    (slices_Clonebool_bool_ n x_5.active).bind fun (x_7, x_8) =>
    (tree_Runner_settle n (Runner.mk x_5.nodes x_5.counters x_8) 0 true (Tick.mk x_6.actions x_6.tests x_6.status x_6.ticked)).bind fun (x_9, x_a) =>
    (loopN (tree_Runner_Tick_L1 x_7 x_9 x_a) n ([], 0) : Option (List Int)).bind fun x_b =>
    some ((x_4, x_a.ticked, x_b, (Runner.mk x_9.nodes x_9.counters x_9.active)))

def mission_Mission_Tick_L1 (x_0 : (List Int)) (x_1 : (List Int)) : ((List Bool) × Int × Int) → Option (Out ((List Bool) × Int × Int) ((List Bool) × Int))
  | (x_2, x_3, x_4) =>
    cond (decide (x_4 < (x_1.length : Int)))
    (((idx x_1 x_4).bind fun x_5 =>
    cond (((IntKind.i64.wrap (x_5 - 1)).tmod 8) == 4)
    ((cond (decide ((IntKind.i64.wrap ((IntKind.i64.wrap (x_5 - 1)).tdiv 8)) < (x_0.length : Int)))
    ((idx x_0 (IntKind.i64.wrap ((IntKind.i64.wrap (x_5 - 1)).tdiv 8))).bind fun x_6 =>
    some ((x_6 == 2)))
    (some (false)) : Option Bool).bind fun x_7 =>
    cond x_7
    ((idx x_2 (IntKind.i64.wrap ((IntKind.i64.wrap (x_5 - 1)).tdiv 8))).bind fun x_8 =>
    some (((upd x_2 (IntKind.i64.wrap ((IntKind.i64.wrap (x_5 - 1)).tdiv 8)) true), (IntKind.i64.wrap ((IntKind.i64.wrap (x_5 - 1)).tdiv 8)))))
    (some ((x_2, (IntKind.i64.wrap ((IntKind.i64.wrap (x_5 - 1)).tdiv 8))))))
    (cond (((IntKind.i64.wrap (x_5 - 1)).tmod 8) == 6)
    (some ((x_2, (IntKind.i64.wrap (32 + (IntKind.i64.wrap ((IntKind.i64.wrap (x_5 - 1)).tdiv 8)))))))
    (some ((x_2, x_3)))) : Option ((List Bool) × Int)).bind fun (x_9, x_a) =>
    some (.go (x_9, x_a, (IntKind.i64.wrap (x_4 + 1)))))
    (some (.done (x_2, x_3)))

def mission_Mission_Tick (n : Nat) : Mission → (List Int) → Option (Int × Int × Int × Mission)
  | x_0, x_1 =>
    cond (x_0.status != 1)
    (some ((0, 0, 9, (Mission.mk (Runner.mk x_0.run.nodes x_0.run.counters x_0.run.active) x_0.done x_0.status x_0.ticks))))
    ((slices_Clonebool_bool_ n x_0.done).bind fun (x_2, x_3) =>
    (tree_Runner_Tick n (Runner.mk x_0.run.nodes x_0.run.counters x_0.run.active) x_1 x_2).bind fun (x_4, x_5, x_6, x_7) =>
    (loopN (mission_Mission_Tick_L1 x_1 x_5) n (x_3, (-1), 0) : Option ((List Bool) × Int)).bind fun (x_8, x_9) =>
    some ((x_4, x_9, 0, (Mission.mk (Runner.mk x_7.nodes x_7.counters x_7.active) x_8 x_4 (IntKind.i64.wrap (x_0.ticks + 1))))))

def mission_Mission_Ticknil (n : Nat) : (List Int) → Option (Int × Int × Int)
  | x_0 =>
    some ((0, 0, 1))

def law42_awake (n : Nat) : Option Bool :=
    (mission_New n [(Task.mk 2 (Cell.mk 0 0) 2 1)]).bind fun (x_0, x_1) =>
    (match x_0 with
    | none => ((cond (x_1 != 0)
    (some (()))
    (some (())) : Option Unit).bind fun _ =>
    some (false))
    | some x_2 => ((cond (x_1 != 0)
    (some (true))
    (some (false)) : Option Bool).bind fun x_3 =>
    cond x_3
    (some (false))
    ((mission_Mission_Tick n (Mission.mk (Runner.mk x_2.run.nodes x_2.run.counters x_2.run.active) x_2.done x_2.status x_2.ticks) [1]).bind fun (x_4, x_5, x_6, x_7) =>
    (mission_Mission_Tick n (Mission.mk (Runner.mk x_7.run.nodes x_7.run.counters x_7.run.active) x_7.done x_7.status x_7.ticks) [1]).bind fun (x_8, x_9, x_a, x_b) =>
    (mission_Mission_Tick n (Mission.mk (Runner.mk x_b.run.nodes x_b.run.counters x_b.run.active) x_b.done x_b.status x_b.ticks) [1]).bind fun (x_c, x_d, x_e, x_f) =>
    (cond (x_4 == 1)
    (cond (x_5 == 0)
    (cond (x_6 == 0)
    (cond (x_8 == 3)
    (cond (x_a == 0)
    (some ((x_e == 9)))
    (some (false)))
    (some (false)))
    (some (false)))
    (some (false)))
    (some (false)) : Option Bool).bind fun x_g =>
    some (x_g))))

def law42_few_L1 (x_0 : (List (List Int))) : Int → Option (Out Int (Out Unit Bool))
  | x_1 =>
    cond (decide (x_1 < (x_0.length : Int)))
    ((idx x_0 x_1).bind fun x_2 =>
    cond (decide ((x_2.length : Int) > 70))
    (some (.done (.done false)))
    (some (.go (IntKind.i64.wrap (x_1 + 1)))))
    (some (.done (.go ())))

def law42_few (n : Nat) : (List Task) → (List (List Int)) → Option Bool
  | x_0, x_1 =>
    (cond (decide ((x_0.length : Int) > 9))
    (some (true))
    (some ((decide ((x_1.length : Int) > 40)))) : Option Bool).bind fun x_2 =>
    cond x_2
    (some (false))
    ((loopN (law42_few_L1 x_1) n 0 : Option (Out Unit Bool)).bind fun y_3 => (match y_3 with
    | .go _ =>
    some (true)
    | .done r => some r))

def mission_Mission_Done (n : Nat) : Mission → Option ((List Bool) × Mission)
  | x_0 =>
    (slices_Clonebool_bool_ n x_0.done).bind fun (x_1, x_2) =>
    some ((x_1, (Mission.mk (Runner.mk x_0.run.nodes x_0.run.counters x_0.run.active) x_2 x_0.status x_0.ticks)))

def mission_Mission_Donenil (n : Nat) : Option (List Bool) :=
    some ([])

def mission_Mission_Ticks (n : Nat) : Mission → Option (Int × Mission)
  | x_0 =>
    some ((x_0.ticks, (Mission.mk (Runner.mk x_0.run.nodes x_0.run.counters x_0.run.active) x_0.done x_0.status x_0.ticks)))

def mission_Mission_Ticksnil (n : Nat) : Option Int :=
    some (0)

def mission_Mission_Status (n : Nat) : Mission → Option (Int × Mission)
  | x_0 =>
    some ((x_0.status, (Mission.mk (Runner.mk x_0.run.nodes x_0.run.counters x_0.run.active) x_0.done x_0.status x_0.ticks)))

def mission_Mission_Statusnil (n : Nat) : Option Int :=
    some (0)

def ref42_Right (n : Nat) : Task → Option Bool
  | x_0 =>
    (cond (decide (x_0.Limit < 1))
    (some (true))
    (cond (decide (x_0.Limit > 1000))
    (some (true))
    (cond (decide (x_0.Tries < 1))
    (some (true))
    (some ((decide (x_0.Tries > 10)))))) : Option Bool).bind fun x_1 =>
    cond x_1
    (some (false))
    (cond (x_0.Kind == 1)
    ((cond (decide (x_0.Cell.X ≥ 0))
    (cond (decide (x_0.Cell.X < 64))
    (cond (decide (x_0.Cell.Y ≥ 0))
    (some ((decide (x_0.Cell.Y < 64))))
    (some (false)))
    (some (false)))
    (some (false)) : Option Bool).bind fun x_2 =>
    some (x_2))
    ((cond (x_0.Kind == 2)
    (some ((x_0.Kind == 2)))
    (some ((x_0.Kind == 3))) : Option Bool).bind fun x_3 =>
    cond x_3
    (some (((x_0.Cell.X == 0) && ((x_0.Cell.Y == 0) && true))))
    (some (false))))

def ref42_Build_L1 (n : Nat) (x_0 : (List Task)) : Int → Option (Out Int (Out Unit (Node × Int)))
  | x_1 =>
    cond (decide (x_1 < (x_0.length : Int)))
    ((idx x_0 x_1).bind fun x_2 =>
    (ref42_Right n (Task.mk x_2.Kind (Cell.mk x_2.Cell.X x_2.Cell.Y) x_2.Limit x_2.Tries)).bind fun x_3 =>
    cond (!x_3)
    (some (.done (.done ((Node.mk 0 0 0 []), 1))))
    (some (.go (IntKind.i64.wrap (x_1 + 1)))))
    (some (.done (.go ())))

def ref42_Build_L3 (x_0 : (List Task)) : ((List Node) × Int) → Option (Out ((List Node) × Int) (List Node))
  | (x_1, x_2) =>
    cond (decide (x_2 < (x_0.length : Int)))
    (((idx x_0 x_2).bind fun x_3 =>
    some ((x_3.Tries, [(Node.mk 4 0 0 [(Node.mk 2 x_2 0 []), (Node.mk 1 x_2 0 []), (Node.mk 3 0 0 [(Node.mk 1 (IntKind.i64.wrap (32 + x_2)) 0 []), (Node.mk 2 63 0 [])])])])) : Option (Int × (List Node))).bind fun (x_4, x_5) =>
    (idx x_0 x_2).bind fun x_6 =>
    (app x_1 [(Node.mk 8 0 x_6.Limit [(Node.mk 7 0 x_4 x_5)])]).bind fun x_7 =>
    some (.go (x_7, (IntKind.i64.wrap (x_2 + 1)))))
    (some (.done x_1))

def ref42_Build (n : Nat) : (List Task) → Option (Node × Int)
  | x_0 =>
    cond (decide ((x_0.length : Int) > 7))
    (some (((Node.mk 0 0 0 []), 6)))
    ((loopN (ref42_Build_L1 n x_0) n 0 : Option (Out Unit (Node × Int))).bind fun y_1 => (match y_1 with
    | .go _ =>
    (loopN (ref42_Build_L3 x_0) n ([], 0) : Option (List Node)).bind fun x_2 =>
    some (((Node.mk 3 0 0 x_2), 0))
    | .done r => some r))

def ref42_New (n : Nat) : (List Task) → Option (Mission_2 × Int)
  | x_0 =>
    (ref42_Build n x_0).bind fun (x_1, x_2) =>
    cond (x_2 != 0)
    (some (((Mission_2.mk [] 0 0 0 0 0), x_2)))
    ((app ([] : List Task) x_0).bind fun x_3 =>
    some (((Mission_2.mk x_3 0 0 0 1 0), 0)))

def slices_Cloneint_int_ (n : Nat) : (List Int) → Option ((List Int) × (List Int))
  | x_0 =>
    (app ([] : List Int) x_0).bind fun x_1 =>
    some ((x_1, x_0))

def tree_Runner_Clone (n : Nat) : Runner → Option ((Option Runner) × Runner)
  | x_0 =>
    (slices_Cloneint_int_ n x_0.counters).bind fun (x_1, x_2) =>
    (slices_Clonebool_bool_ n x_0.active).bind fun (x_3, x_4) =>
    some (((some (Runner.mk x_0.nodes x_1 x_3)), (Runner.mk x_0.nodes x_2 x_4)))

def mission_Mission_Clone (n : Nat) : Mission → Option ((Option Mission) × Mission)
  | x_0 =>
    (tree_Runner_Clone n (Runner.mk x_0.run.nodes x_0.run.counters x_0.run.active)).bind fun (x_1, x_2) =>
    (match x_1 with
    | none => ((slices_Clonebool_bool_ n x_0.done).bind fun (x_3, x_4) =>
    none)
    | some x_5 => ((slices_Clonebool_bool_ n x_0.done).bind fun (x_6, x_7) =>
    some (((some (Mission.mk (Runner.mk x_5.nodes x_5.counters x_5.active) x_6 x_0.status x_0.ticks)), (Mission.mk (Runner.mk x_2.nodes x_2.counters x_2.active) x_7 x_0.status x_0.ticks)))))

def mission_Mission_Clonenil (n : Nat) : Option (Option Mission) :=
    some (none)

def ref42_status (n : Nat) : (List Int) → Int → Option Int
  | x_0, x_1 =>
    (cond (decide (x_1 ≥ (x_0.length : Int)))
    (some (true))
    ((idx x_0 x_1).bind fun x_2 =>
    cond (decide (x_2 < 1))
    (some (true))
    ((idx x_0 x_1).bind fun x_3 =>
    some ((decide (x_3 > 3))))) : Option Bool).bind fun x_4 =>
    cond x_4
    (some (3))
    ((idx x_0 x_1).bind fun x_5 =>
    some (x_5))

def ref42_Mission_Tick_L1 (n : Nat) (x_0 : Mission_2) (x_1 : (List Int)) : (Int × Int × Int × Int) → Option (Out (Int × Int × Int × Int) (Out (Int × Int × Int × Int) (Mission_2 × Int × Int × Int)))
  | (x_2, x_3, x_4, x_5) =>
    cond (decide (x_2 < (x_0.Tasks.length : Int)))
    ((ref42_status n x_1 x_2).bind fun x_6 =>
    cond (x_6 == 2)
    (some (.go ((IntKind.i64.wrap (x_2 + 1)), 0, 0, x_2)))
    ((cond (x_6 == 3)
    ((ref42_status n x_1 (IntKind.i64.wrap (32 + x_2))).bind fun x_7 =>
    cond (x_7 != 1)
    ((idx x_0.Tasks x_2).bind fun x_8 =>
    cond ((IntKind.i64.wrap (x_4 + 1)) == x_8.Tries)
    (some (.done (.done (.done ((Mission_2.mk x_0.Tasks x_2 x_3 (IntKind.i64.wrap (x_4 + 1)) 3 (IntKind.i64.wrap (x_0.Ticks + 1))), 3, (IntKind.i64.wrap (32 + x_2)), 0)))))
    (some (.go ((IntKind.i64.wrap (x_4 + 1)), (IntKind.i64.wrap (32 + x_2))))))
    (some (.go (x_4, (IntKind.i64.wrap (32 + x_2))))))
    (some (.go (x_4, x_2))) : Option (Out (Int × Int) (Out (Int × Int × Int × Int) (Out (Int × Int × Int × Int) (Mission_2 × Int × Int × Int))))).bind fun y_9 => (match y_9 with
    | .go (x_a, x_b) =>
    (((idx x_0.Tasks x_2).bind fun x_c =>
    cond ((IntKind.i64.wrap (x_3 + 1)) == x_c.Limit)
    (some (3))
    (some (x_0.Status)) : Option Int).bind fun x_d =>
    some (.done (.done ((Mission_2.mk x_0.Tasks x_2 (IntKind.i64.wrap (x_3 + 1)) x_a x_d (IntKind.i64.wrap (x_0.Ticks + 1))), x_d, x_b, 0))))
    | .done r => some r)))
    (some (.done (.go (x_2, x_3, x_4, x_5))))

def ref42_Mission_Tick (n : Nat) : Mission_2 → (List Int) → Option (Mission_2 × Int × Int × Int)
  | x_0, x_1 =>
    cond (x_0.Status != 1)
    (some (((Mission_2.mk x_0.Tasks x_0.Done x_0.Ran x_0.Failed x_0.Status x_0.Ticks), 0, 0, 9)))
    ((loopN (ref42_Mission_Tick_L1 n x_0 x_1) n (x_0.Done, x_0.Ran, x_0.Failed, (-1)) : Option (Out (Int × Int × Int × Int) (Mission_2 × Int × Int × Int))).bind fun y_2 => (match y_2 with
    | .go (x_3, x_4, x_5, x_6) =>
    some (((Mission_2.mk x_0.Tasks x_3 x_4 x_5 2 (IntKind.i64.wrap (x_0.Ticks + 1))), 2, x_6, 0))
    | .done r => some r))

def law42_MissionPlays_L13 (x_0 : (List Task)) (x_1 : Int) (x_2 : Int) (x_3 : Int) (x_4 : Int) (x_5 : Int) (x_6 : (List Bool)) : Int → Option (Out Int (Out ((List Task) × Int × Int × Int × Int × Int) (Out ((List Task) × Int × Int × Int × Int × Int × Int) (Out Unit Bool))))
  | x_7 =>
    cond (decide (x_7 < (x_6.length : Int)))
    ((idx x_6 x_7).bind fun x_8 =>
    cond (!(x_8 == (decide (x_7 < x_1))))
    (some (.done (.done (.done (.done false)))))
    (some (.go (IntKind.i64.wrap (x_7 + 1)))))
    (some (.done (.go (x_0, x_1, x_2, x_3, x_4, x_5))))

def law42_MissionPlays_L11 (n : Nat) (x_0 : (List Task)) (x_1 : (List (List Int))) : ((List Task) × Int × Int × Int × Int × Int × Int) → Option (Out ((List Task) × Int × Int × Int × Int × Int × Int) (Out Unit Bool))
  | (x_2, x_3, x_4, x_5, x_6, x_7, x_8) =>
    cond (decide (x_8 < (x_1.length : Int)))
    (((idx x_1 x_8).bind fun x_9 =>
    (mission_Mission_Ticknil n x_9).bind fun (x_a, x_b, x_c) =>
    ((idx x_1 x_8).bind fun x_d =>
    (ref42_Mission_Tick n (Mission_2.mk x_2 x_3 x_4 x_5 x_6 x_7) x_d).bind fun (x_e, x_f, x_g, x_h) =>
    some ((x_e.Tasks, x_e.Done, x_e.Ran, x_e.Failed, x_e.Status, x_e.Ticks, x_f, x_g, x_h)) : Option ((List Task) × Int × Int × Int × Int × Int × Int × Int × Int)).bind fun (x_i, x_j, x_k, x_l, x_m, x_n, x_o, x_p, x_q) =>
    (cond (x_a != x_o)
    (some (true))
    (cond (x_b != x_p)
    (some (true))
    (cond (x_c != x_q)
    (some (true))
    ((mission_Mission_Statusnil n ).bind fun x_r =>
    cond (x_r != x_m)
    (some (true))
    ((mission_Mission_Ticksnil n ).bind fun x_s =>
    some ((x_s != x_n)))))) : Option Bool).bind fun x_t =>
    cond x_t
    (some (.done (.done (.done false))))
    ((mission_Mission_Donenil n ).bind fun x_u =>
    cond ((x_u.length : Int) != (x_0.length : Int))
    (some (.done (.done (.done false))))
    (loopN (law42_MissionPlays_L13 x_i x_j x_k x_l x_m x_n x_u) n 0)) : Option (Out ((List Task) × Int × Int × Int × Int × Int) (Out ((List Task) × Int × Int × Int × Int × Int × Int) (Out Unit Bool)))).bind fun y_v => (match y_v with
    | .go (x_w, x_x, x_y, x_z, x_10, x_11) =>
    some (.go (x_w, x_x, x_y, x_z, x_10, x_11, (IntKind.i64.wrap (x_8 + 1))))
    | .done r => some r))
    (some (.done (.go ())))

def law42_MissionPlays_L27 (x_0 : (List Task)) (x_1 : Int) (x_2 : Int) (x_3 : Int) (x_4 : Int) (x_5 : Int) (x_6 : (List Bool)) : Int → Option (Out Int (Out ((List Task) × Int × Int × Int × Int × Int) (Out ((List Task) × Int × Int × Int × Int × Int × Int) (Out Unit Bool))))
  | x_7 =>
    cond (decide (x_7 < (x_6.length : Int)))
    ((idx x_6 x_7).bind fun x_8 =>
    cond (!(x_8 == (decide (x_7 < x_1))))
    (some (.done (.done (.done (.done false)))))
    (some (.go (IntKind.i64.wrap (x_7 + 1)))))
    (some (.done (.go (x_0, x_1, x_2, x_3, x_4, x_5))))

def law42_MissionPlays_L25 (n : Nat) (x_0 : (List Task)) (x_1 : (List (List Int))) : ((List Task) × Int × Int × Int × Int × Int × Int) → Option (Out ((List Task) × Int × Int × Int × Int × Int × Int) (Out Unit Bool))
  | (x_2, x_3, x_4, x_5, x_6, x_7, x_8) =>
    cond (decide (x_8 < (x_1.length : Int)))
    (((idx x_1 x_8).bind fun x_9 =>
    (mission_Mission_Ticknil n x_9).bind fun (x_a, x_b, x_c) =>
    ((idx x_1 x_8).bind fun x_d =>
    (ref42_Mission_Tick n (Mission_2.mk x_2 x_3 x_4 x_5 x_6 x_7) x_d).bind fun (x_e, x_f, x_g, x_h) =>
    some ((x_e.Tasks, x_e.Done, x_e.Ran, x_e.Failed, x_e.Status, x_e.Ticks, x_f, x_g, x_h)) : Option ((List Task) × Int × Int × Int × Int × Int × Int × Int × Int)).bind fun (x_i, x_j, x_k, x_l, x_m, x_n, x_o, x_p, x_q) =>
    (cond (x_a != x_o)
    (some (true))
    (cond (x_b != x_p)
    (some (true))
    (cond (x_c != x_q)
    (some (true))
    ((mission_Mission_Statusnil n ).bind fun x_r =>
    cond (x_r != x_m)
    (some (true))
    ((mission_Mission_Ticksnil n ).bind fun x_s =>
    some ((x_s != x_n)))))) : Option Bool).bind fun x_t =>
    cond x_t
    (some (.done (.done (.done false))))
    ((mission_Mission_Donenil n ).bind fun x_u =>
    cond ((x_u.length : Int) != (x_0.length : Int))
    (some (.done (.done (.done false))))
    (loopN (law42_MissionPlays_L27 x_i x_j x_k x_l x_m x_n x_u) n 0)) : Option (Out ((List Task) × Int × Int × Int × Int × Int) (Out ((List Task) × Int × Int × Int × Int × Int × Int) (Out Unit Bool)))).bind fun y_v => (match y_v with
    | .go (x_w, x_x, x_y, x_z, x_10, x_11) =>
    some (.go (x_w, x_x, x_y, x_z, x_10, x_11, (IntKind.i64.wrap (x_8 + 1))))
    | .done r => some r))
    (some (.done (.go ())))

def law42_MissionPlays_L41 (x_0 : (List Task)) (x_1 : Int) (x_2 : Int) (x_3 : Int) (x_4 : Int) (x_5 : Int) (x_6 : (List Bool)) (x_7 : Mission) : Int → Option (Out Int (Out ((List Node_2) × (List Int) × (List Bool) × (List Bool) × Int × Int × (List Task) × Int × Int × Int × Int × Int) (Out ((List Node_2) × (List Int) × (List Bool) × (List Bool) × Int × Int × (List Task) × Int × Int × Int × Int × Int × Int) (Out Unit Bool))))
  | x_8 =>
    cond (decide (x_8 < (x_6.length : Int)))
    ((idx x_6 x_8).bind fun x_9 =>
    cond (!(x_9 == (decide (x_8 < x_1))))
    (some (.done (.done (.done (.done false)))))
    (some (.go (IntKind.i64.wrap (x_8 + 1)))))
    (some (.done (.go (x_7.run.nodes, x_7.run.counters, x_7.run.active, x_7.done, x_7.status, x_7.ticks, x_0, x_1, x_2, x_3, x_4, x_5))))

def law42_MissionPlays_L39 (n : Nat) (x_0 : (List Task)) (x_1 : (List (List Int))) : ((List Node_2) × (List Int) × (List Bool) × (List Bool) × Int × Int × (List Task) × Int × Int × Int × Int × Int × Int) → Option (Out ((List Node_2) × (List Int) × (List Bool) × (List Bool) × Int × Int × (List Task) × Int × Int × Int × Int × Int × Int) (Out Unit Bool))
  | (x_2, x_3, x_4, x_5, x_6, x_7, x_8, x_9, x_a, x_b, x_c, x_d, x_e) =>
    cond (decide (x_e < (x_1.length : Int)))
    (((idx x_1 x_e).bind fun x_f =>
    (mission_Mission_Tick n (Mission.mk (Runner.mk x_2 x_3 x_4) x_5 x_6 x_7) x_f).bind fun (x_g, x_h, x_i, x_j) =>
    ((idx x_1 x_e).bind fun x_k =>
    (ref42_Mission_Tick n (Mission_2.mk x_8 x_9 x_a x_b x_c x_d) x_k).bind fun (x_l, x_m, x_n, x_o) =>
    some ((x_l.Tasks, x_l.Done, x_l.Ran, x_l.Failed, x_l.Status, x_l.Ticks, x_m, x_n, x_o)) : Option ((List Task) × Int × Int × Int × Int × Int × Int × Int × Int)).bind fun (x_p, x_q, x_r, x_s, x_t, x_u, x_v, x_w, x_x) =>
    (cond (x_g != x_v)
    (some ((x_j.run.nodes, x_j.run.counters, x_j.run.active, x_j.done, x_j.status, x_j.ticks, true)))
    (cond (x_h != x_w)
    (some ((x_j.run.nodes, x_j.run.counters, x_j.run.active, x_j.done, x_j.status, x_j.ticks, true)))
    (cond (x_i != x_x)
    (some ((x_j.run.nodes, x_j.run.counters, x_j.run.active, x_j.done, x_j.status, x_j.ticks, true)))
    ((mission_Mission_Status n (Mission.mk (Runner.mk x_j.run.nodes x_j.run.counters x_j.run.active) x_j.done x_j.status x_j.ticks)).bind fun (x_y, x_z) =>
    cond (x_y != x_t)
    (some ((x_z.run.nodes, x_z.run.counters, x_z.run.active, x_z.done, x_z.status, x_z.ticks, true)))
    ((mission_Mission_Ticks n (Mission.mk (Runner.mk x_z.run.nodes x_z.run.counters x_z.run.active) x_z.done x_z.status x_z.ticks)).bind fun (x_10, x_11) =>
    some ((x_11.run.nodes, x_11.run.counters, x_11.run.active, x_11.done, x_11.status, x_11.ticks, (x_10 != x_u))))))) : Option ((List Node_2) × (List Int) × (List Bool) × (List Bool) × Int × Int × Bool)).bind fun (x_12, x_13, x_14, x_15, x_16, x_17, x_18) =>
    cond x_18
    (some (.done (.done (.done false))))
    ((mission_Mission_Done n (Mission.mk (Runner.mk x_12 x_13 x_14) x_15 x_16 x_17)).bind fun (x_19, x_1a) =>
    cond ((x_19.length : Int) != (x_0.length : Int))
    (some (.done (.done (.done false))))
    (loopN (law42_MissionPlays_L41 x_p x_q x_r x_s x_t x_u x_19 x_1a) n 0)) : Option (Out ((List Node_2) × (List Int) × (List Bool) × (List Bool) × Int × Int × (List Task) × Int × Int × Int × Int × Int) (Out ((List Node_2) × (List Int) × (List Bool) × (List Bool) × Int × Int × (List Task) × Int × Int × Int × Int × Int × Int) (Out Unit Bool)))).bind fun y_1b => (match y_1b with
    | .go (x_1c, x_1d, x_1e, x_1f, x_1g, x_1h, x_1i, x_1j, x_1k, x_1l, x_1m, x_1n) =>
    some (.go (x_1c, x_1d, x_1e, x_1f, x_1g, x_1h, x_1i, x_1j, x_1k, x_1l, x_1m, x_1n, (IntKind.i64.wrap (x_e + 1))))
    | .done r => some r))
    (some (.done (.go ())))

def law42_MissionPlays_L55 (x_0 : (List Task)) (x_1 : Int) (x_2 : Int) (x_3 : Int) (x_4 : Int) (x_5 : Int) (x_6 : (List Bool)) (x_7 : Mission) : Int → Option (Out Int (Out ((List Node_2) × (List Int) × (List Bool) × (List Bool) × Int × Int × (List Task) × Int × Int × Int × Int × Int) (Out ((List Node_2) × (List Int) × (List Bool) × (List Bool) × Int × Int × (List Task) × Int × Int × Int × Int × Int × Int) (Out Unit Bool))))
  | x_8 =>
    cond (decide (x_8 < (x_6.length : Int)))
    ((idx x_6 x_8).bind fun x_9 =>
    cond (!(x_9 == (decide (x_8 < x_1))))
    (some (.done (.done (.done (.done false)))))
    (some (.go (IntKind.i64.wrap (x_8 + 1)))))
    (some (.done (.go (x_7.run.nodes, x_7.run.counters, x_7.run.active, x_7.done, x_7.status, x_7.ticks, x_0, x_1, x_2, x_3, x_4, x_5))))

def law42_MissionPlays_L53 (n : Nat) (x_0 : (List Task)) (x_1 : (List (List Int))) : ((List Node_2) × (List Int) × (List Bool) × (List Bool) × Int × Int × (List Task) × Int × Int × Int × Int × Int × Int) → Option (Out ((List Node_2) × (List Int) × (List Bool) × (List Bool) × Int × Int × (List Task) × Int × Int × Int × Int × Int × Int) (Out Unit Bool))
  | (x_2, x_3, x_4, x_5, x_6, x_7, x_8, x_9, x_a, x_b, x_c, x_d, x_e) =>
    cond (decide (x_e < (x_1.length : Int)))
    (((idx x_1 x_e).bind fun x_f =>
    (mission_Mission_Tick n (Mission.mk (Runner.mk x_2 x_3 x_4) x_5 x_6 x_7) x_f).bind fun (x_g, x_h, x_i, x_j) =>
    ((idx x_1 x_e).bind fun x_k =>
    (ref42_Mission_Tick n (Mission_2.mk x_8 x_9 x_a x_b x_c x_d) x_k).bind fun (x_l, x_m, x_n, x_o) =>
    some ((x_l.Tasks, x_l.Done, x_l.Ran, x_l.Failed, x_l.Status, x_l.Ticks, x_m, x_n, x_o)) : Option ((List Task) × Int × Int × Int × Int × Int × Int × Int × Int)).bind fun (x_p, x_q, x_r, x_s, x_t, x_u, x_v, x_w, x_x) =>
    (cond (x_g != x_v)
    (some ((x_j.run.nodes, x_j.run.counters, x_j.run.active, x_j.done, x_j.status, x_j.ticks, true)))
    (cond (x_h != x_w)
    (some ((x_j.run.nodes, x_j.run.counters, x_j.run.active, x_j.done, x_j.status, x_j.ticks, true)))
    (cond (x_i != x_x)
    (some ((x_j.run.nodes, x_j.run.counters, x_j.run.active, x_j.done, x_j.status, x_j.ticks, true)))
    ((mission_Mission_Status n (Mission.mk (Runner.mk x_j.run.nodes x_j.run.counters x_j.run.active) x_j.done x_j.status x_j.ticks)).bind fun (x_y, x_z) =>
    cond (x_y != x_t)
    (some ((x_z.run.nodes, x_z.run.counters, x_z.run.active, x_z.done, x_z.status, x_z.ticks, true)))
    ((mission_Mission_Ticks n (Mission.mk (Runner.mk x_z.run.nodes x_z.run.counters x_z.run.active) x_z.done x_z.status x_z.ticks)).bind fun (x_10, x_11) =>
    some ((x_11.run.nodes, x_11.run.counters, x_11.run.active, x_11.done, x_11.status, x_11.ticks, (x_10 != x_u))))))) : Option ((List Node_2) × (List Int) × (List Bool) × (List Bool) × Int × Int × Bool)).bind fun (x_12, x_13, x_14, x_15, x_16, x_17, x_18) =>
    cond x_18
    (some (.done (.done (.done false))))
    ((mission_Mission_Done n (Mission.mk (Runner.mk x_12 x_13 x_14) x_15 x_16 x_17)).bind fun (x_19, x_1a) =>
    cond ((x_19.length : Int) != (x_0.length : Int))
    (some (.done (.done (.done false))))
    (loopN (law42_MissionPlays_L55 x_p x_q x_r x_s x_t x_u x_19 x_1a) n 0)) : Option (Out ((List Node_2) × (List Int) × (List Bool) × (List Bool) × Int × Int × (List Task) × Int × Int × Int × Int × Int) (Out ((List Node_2) × (List Int) × (List Bool) × (List Bool) × Int × Int × (List Task) × Int × Int × Int × Int × Int × Int) (Out Unit Bool)))).bind fun y_1b => (match y_1b with
    | .go (x_1c, x_1d, x_1e, x_1f, x_1g, x_1h, x_1i, x_1j, x_1k, x_1l, x_1m, x_1n) =>
    some (.go (x_1c, x_1d, x_1e, x_1f, x_1g, x_1h, x_1i, x_1j, x_1k, x_1l, x_1m, x_1n, (IntKind.i64.wrap (x_e + 1))))
    | .done r => some r))
    (some (.done (.go ())))

def law42_MissionPlays (n : Nat) : (List Task) → (List (List Int)) → Option Bool
  | x_0, x_1 =>
    ((law42_awake n ).bind fun x_2 =>
    cond (!x_2)
    (some (true))
    ((law42_few n x_0 x_1).bind fun x_3 =>
    some ((!x_3))) : Option Bool).bind fun x_4 =>
    cond x_4
    ((law42_awake n ).bind fun x_5 =>
    some (x_5))
    ((mission_New n x_0).bind fun (x_6, x_7) =>
    (match x_6 with
    | none => ((ref42_New n x_0).bind fun (x_8, x_9) =>
    (cond (x_7 != x_9)
    (some (true))
    (some ((!(true == (x_9 != 0))))) : Option Bool).bind fun x_a =>
    cond x_a
    (some (false))
    (cond (x_9 != 0)
    ((mission_Mission_Ticknil n []).bind fun (x_b, x_c, x_d) =>
    (cond (x_b == 0)
    (cond (x_c == 0)
    (cond (x_d == 1)
    ((mission_Mission_Donenil n ).bind fun x_e =>
    cond ((x_e.length : Int) == 0)
    ((mission_Mission_Statusnil n ).bind fun x_f =>
    cond (x_f == 0)
    ((mission_Mission_Ticksnil n ).bind fun x_g =>
    cond (x_g == 0)
    ((mission_Mission_Clonenil n ).bind fun x_h =>
    (match x_h with
    | none => (some (true))
    | some x_i => (some (false))))
    (some (false)))
    (some (false)))
    (some (false)))
    (some (false)))
    (some (false)))
    (some (false)) : Option Bool).bind fun x_j =>
    some (x_j))
    ((mission_Mission_Clonenil n ).bind fun x_k =>
    (match x_k with
    | none => ((loopN (law42_MissionPlays_L11 n x_0 x_1) n (x_8.Tasks, x_8.Done, x_8.Ran, x_8.Failed, x_8.Status, x_8.Ticks, 0) : Option (Out Unit Bool)).bind fun y_l => (match y_l with
    | .go _ =>
    (((mission_Mission_Ticksnil n ).bind fun x_m =>
    cond (x_m == 0)
    ((mission_Mission_Statusnil n ).bind fun x_n =>
    cond (x_n == 1)
    ((mission_Mission_Donenil n ).bind fun x_o =>
    some (((x_o.length : Int) == (x_0.length : Int))))
    (some (false)))
    (some (false)) : Option Bool).bind fun x_p =>
    some (x_p))
    | .done r => some r))
    | some x_q => ((loopN (law42_MissionPlays_L25 n x_0 x_1) n (x_8.Tasks, x_8.Done, x_8.Ran, x_8.Failed, x_8.Status, x_8.Ticks, 0) : Option (Out Unit Bool)).bind fun y_r => (match y_r with
    | .go _ =>
    (((mission_Mission_Ticks n (Mission.mk (Runner.mk x_q.run.nodes x_q.run.counters x_q.run.active) x_q.done x_q.status x_q.ticks)).bind fun (x_s, x_t) =>
    cond (x_s == 0)
    ((mission_Mission_Status n (Mission.mk (Runner.mk x_t.run.nodes x_t.run.counters x_t.run.active) x_t.done x_t.status x_t.ticks)).bind fun (x_u, x_v) =>
    cond (x_u == 1)
    ((mission_Mission_Done n (Mission.mk (Runner.mk x_v.run.nodes x_v.run.counters x_v.run.active) x_v.done x_v.status x_v.ticks)).bind fun (x_w, x_x) =>
    some (((x_w.length : Int) == (x_0.length : Int))))
    (some (false)))
    (some (false)) : Option Bool).bind fun x_y =>
    some (x_y))
    | .done r => some r))))))
    | some x_z => ((ref42_New n x_0).bind fun (x_10, x_11) =>
    (cond (x_7 != x_11)
    (some (true))
    (some ((!(false == (x_11 != 0))))) : Option Bool).bind fun x_12 =>
    cond x_12
    (some (false))
    (cond (x_11 != 0)
    ((mission_Mission_Tick n (Mission.mk (Runner.mk x_z.run.nodes x_z.run.counters x_z.run.active) x_z.done x_z.status x_z.ticks) []).bind fun (x_13, x_14, x_15, x_16) =>
    (cond (x_13 == 0)
    (cond (x_14 == 0)
    (cond (x_15 == 1)
    ((mission_Mission_Done n (Mission.mk (Runner.mk x_16.run.nodes x_16.run.counters x_16.run.active) x_16.done x_16.status x_16.ticks)).bind fun (x_17, x_18) =>
    cond ((x_17.length : Int) == 0)
    ((mission_Mission_Status n (Mission.mk (Runner.mk x_18.run.nodes x_18.run.counters x_18.run.active) x_18.done x_18.status x_18.ticks)).bind fun (x_19, x_1a) =>
    cond (x_19 == 0)
    ((mission_Mission_Ticks n (Mission.mk (Runner.mk x_1a.run.nodes x_1a.run.counters x_1a.run.active) x_1a.done x_1a.status x_1a.ticks)).bind fun (x_1b, x_1c) =>
    cond (x_1b == 0)
    ((mission_Mission_Clone n (Mission.mk (Runner.mk x_1c.run.nodes x_1c.run.counters x_1c.run.active) x_1c.done x_1c.status x_1c.ticks)).bind fun (x_1d, x_1e) =>
    (match x_1d with
    | none => (some (true))
    | some x_1f => (some (false))))
    (some (false)))
    (some (false)))
    (some (false)))
    (some (false)))
    (some (false)))
    (some (false)) : Option Bool).bind fun x_1g =>
    some (x_1g))
    ((mission_Mission_Clone n (Mission.mk (Runner.mk x_z.run.nodes x_z.run.counters x_z.run.active) x_z.done x_z.status x_z.ticks)).bind fun (x_1h, x_1i) =>
    (match x_1h with
    | none => ((loopN (law42_MissionPlays_L39 n x_0 x_1) n (x_1i.run.nodes, x_1i.run.counters, x_1i.run.active, x_1i.done, x_1i.status, x_1i.ticks, x_10.Tasks, x_10.Done, x_10.Ran, x_10.Failed, x_10.Status, x_10.Ticks, 0) : Option (Out Unit Bool)).bind fun y_1j => (match y_1j with
    | .go _ =>
    (((mission_Mission_Ticksnil n ).bind fun x_1k =>
    cond (x_1k == 0)
    ((mission_Mission_Statusnil n ).bind fun x_1l =>
    cond (x_1l == 1)
    ((mission_Mission_Donenil n ).bind fun x_1m =>
    some (((x_1m.length : Int) == (x_0.length : Int))))
    (some (false)))
    (some (false)) : Option Bool).bind fun x_1n =>
    some (x_1n))
    | .done r => some r))
    | some x_1o => ((loopN (law42_MissionPlays_L53 n x_0 x_1) n (x_1i.run.nodes, x_1i.run.counters, x_1i.run.active, x_1i.done, x_1i.status, x_1i.ticks, x_10.Tasks, x_10.Done, x_10.Ran, x_10.Failed, x_10.Status, x_10.Ticks, 0) : Option (Out Unit Bool)).bind fun y_1p => (match y_1p with
    | .go _ =>
    (((mission_Mission_Ticks n (Mission.mk (Runner.mk x_1o.run.nodes x_1o.run.counters x_1o.run.active) x_1o.done x_1o.status x_1o.ticks)).bind fun (x_1q, x_1r) =>
    cond (x_1q == 0)
    ((mission_Mission_Status n (Mission.mk (Runner.mk x_1r.run.nodes x_1r.run.counters x_1r.run.active) x_1r.done x_1r.status x_1r.ticks)).bind fun (x_1s, x_1t) =>
    cond (x_1s == 1)
    ((mission_Mission_Done n (Mission.mk (Runner.mk x_1t.run.nodes x_1t.run.counters x_1t.run.active) x_1t.done x_1t.status x_1t.ticks)).bind fun (x_1u, x_1v) =>
    some (((x_1u.length : Int) == (x_0.length : Int))))
    (some (false)))
    (some (false)) : Option Bool).bind fun x_1w =>
    some (x_1w))
    | .done r => some r))))))))

end Go.Proofs.Ytkhmdpekfcahkaa
