/-
  What the functions of the program compute, as plain Lean functions.
-/
import Derived.Test.YtcdboppghnchpaaDoorCoreB
import Derived.Lib.Atoi
import Derived.Lib.Bytealg
namespace Go.Proofs.YtcdboppghnchpaaDoor
open Go Go.Proofs.YtcdboppghnchpaaDoor.Gw Go.RowKit
set_option linter.unusedVariables false
def pow10 : List Int := [1, 10, 100, 1000, 10000, 100000, 1000000, 10000000, 100000000, 1000000000, 10000000000, 100000000000, 1000000000000, 10000000000000, 100000000000000, 1000000000000000, 10000000000000000, 100000000000000000, 1000000000000000000, 10000000000000000000]
structure Cell where
  X : Int
  Y : Int
structure Task where
  Kind : Int
  Cell : Cell
  Limit : Int
  Tries : Int
structure Node where
  Kind : Int
  Name : Int
  Count : Int
  Kids : (List Node)
structure Node_2 where
  kind : Int
  name : Int
  count : Int
  kids : (List Int)
structure Runner where
  nodes : (List Node_2)
  counters : (List Int)
  active : (List Bool)
structure Mission where
  run : Runner
  done : (List Bool)
  status : Int
  ticks : Int
structure Tick where
  actions : (List Int)
  tests : (List Bool)
  status : (List Int)
  ticked : (List Int)
structure Builder where
  addr : Unit
  buf : (List Int)
structure Parser where
  s : ByteArray
  nodes : Int
def okCell (x : Cell) : Prop := inK .i64 x.X ∧ inK .i64 x.Y
def okTask (x : Task) : Prop := inK .i64 x.Kind ∧ okCell x.Cell ∧ inK .i64 x.Limit ∧ inK .i64 x.Tries
def addN_L (self : List Node_2 → Node → Option (Int × List Node_2)) (ts : List Node) (k : Int) : (Int × List Node_2) → Option (Out (Int × List Node_2) (List Node_2))
  | (i, ns) =>
    cond (decide (i < (ts.length : Int)))
    ((idx ts i).bind fun t => (self ns t).bind fun (j, ns1) => (idx ns1 k).bind fun nd => (app nd.kids [j]).bind fun ks => some (.go ((IntKind.i64.wrap (i + 1)), upd ns1 k (Node_2.mk nd.kind nd.name nd.count ks))))
    (some (.done ns))
def addN_F (n : Nat) (self : List Node_2 → Node → Option (Int × List Node_2)) : List Node_2 → Node → Option (Int × List Node_2)
  | ns, t => (app ns [Node_2.mk t.Kind t.Name t.Count []]).bind fun ns1 => (loopN (addN_L self t.Kids (ns.length : Int)) n (0, ns1)).bind fun ns2 => some ((ns.length : Int), ns2)
def addN : Nat → List Node_2 → Node → Option (Int × List Node_2)
  | 0 => fun _ _ => none
  | n + 1 => addN_F n (addN n)
def tree_Runner_add (n : Nat) (r : Runner) (t : Node) : Option (Int × Runner) := (addN n r.nodes t).bind fun (i, ns) => some (i, Runner.mk ns [] [])
def strings_Builder_copyCheck (n : Nat) (b : Builder) : Option Builder := some b
def strconv_Itoa (n : Nat) (x : Int) : Option ByteArray := if -9223372036854775808 ≤ x ∧ x ≤ 9223372036854775807 then some ⟨(Lib.itoa x).toArray⟩ else none
def strconv_Atoi (n : Nat) (s : ByteArray) : Option (Int × Unit) := if s.size ≤ 18 then (Lib.atoi s.data.toList).map fun z => (z, ()) else none
def strings_IndexByte (n : Nat) (s : ByteArray) (c : Int) : Option Int := some (Lib.indexByte s.data.toList c.toNat.toUInt8)
def mission_within (n : Nat) : Int → Int → Int → Option Bool
  | x1, x2, x3 =>
    (cond (decide (x1 ≥ x2))
    (some ((decide (x1 ≤ x3))))
    (some (false)) : Option Bool).bind fun x4 =>
    some (x4)

def mission_valid (n : Nat) : Task → Option Bool
  | x7 =>
    (cond (x7.Kind == 1)
    (some (.go 63))
    ((cond (x7.Kind == 2)
    (some ((x7.Kind == 2)))
    (some ((x7.Kind == 3))) : Option Bool).bind fun x19 =>
    cond x19
    (some (.go 0))
    (some (.done false))) : Option (Out Int Bool)).bind fun y17 => (match y17 with
    | .go x16 =>
    (((mission_within n x7.Cell.X 0 x16).bind fun x38 =>
    cond x38
    ((mission_within n x7.Cell.Y 0 x16).bind fun x41 =>
    cond x41
    ((mission_within n x7.Limit 1 1000).bind fun x44 =>
    cond x44
    ((mission_within n x7.Tries 1 10).bind fun x47 =>
    some (x47))
    (some (false)))
    (some (false)))
    (some (false)) : Option Bool).bind fun x34 =>
    some (x34))
    | .done r => some r)

def mission_one (n : Nat) : Int → Task → Option Node
  | x50, x51 =>
    some ((Node.mk 8 0 x51.Limit [(Node.mk 7 0 x51.Tries [(Node.mk 4 0 0 [(Node.mk 2 x50 0 []), (Node.mk 1 x50 0 []), (Node.mk 3 0 0 [(Node.mk 1 (IntKind.i64.wrap (32 + x50)) 0 []), (Node.mk 2 63 0 [])])])])]))

def mission_Build_L1 (n : Nat) (x102 : (List Task)) : ((List Node) × Int) → Option (Out ((List Node) × Int) (Out (List Node) (Node × Int)))
  | (x363, x367) =>
    cond (decide (x367 < (x102.length : Int)))
    ((idx x102 x367).bind fun x435 =>
    (mission_valid n (Task.mk x435.Kind (Cell.mk x435.Cell.X x435.Cell.Y) x435.Limit x435.Tries)).bind fun x444 =>
    cond (!x444)
    (some (.done (.done ((Node.mk 0 0 0 []), 1))))
    ((mission_one n x367 (Task.mk x435.Kind (Cell.mk x435.Cell.X x435.Cell.Y) x435.Limit x435.Tries)).bind fun x470 =>
    (app x363 [x470]).bind fun x484 =>
    some (.go (x484, (IntKind.i64.wrap (x367 + 1))))))
    (some (.done (.go x363)))

def mission_Build (n : Nat) : (List Task) → Option (Node × Int)
  | x102 =>
    cond (decide ((x102.length : Int) > 7))
    (some (((Node.mk 0 0 0 []), 6)))
    ((loopN (mission_Build_L1 n x102) n ([], 0) : Option (Out (List Node) (Node × Int))).bind fun y304 => (match y304 with
    | .go x298 =>
    some (((Node.mk 3 0 0 x298), 0))
    | .done r => some r))

def tree_size_L1 (self : (Node → Int → Option Int)) (x494 : Node) (x497 : Int) : (Int × Int) → Option (Out (Int × Int) Int)
  | (x573, x574) =>
    cond (decide (x574 < (x494.Kids.length : Int)))
    ((idx x494.Kids x574).bind fun x595 =>
    cond (decide (x573 ≥ x497))
    (some (.done x573))
    ((self (Node.mk x595.Kind x595.Name x595.Count x595.Kids) (IntKind.i64.wrap (x497 - x573))).bind fun x607 =>
    some (.go ((IntKind.i64.wrap (x573 + x607)), (IntKind.i64.wrap (x574 + 1))))))
    (some (.done x573))

def tree_size_F (n : Nat) (self : Node → Int → Option Int) : Node → Int → Option Int
  | x494, x497 =>
    (loopN (tree_size_L1 self x494 x497) n (1, 0) : Option Int).bind fun x555 =>
    some (x555)
def tree_size : Nat → Node → Int → Option Int
  | 0 => fun _ _ => none
  | n + 1 => tree_size_F n (tree_size n)

def tree_Size (n : Nat) : Node → Option Int
  | x611 =>
    (tree_size n (Node.mk x611.Kind x611.Name x611.Count x611.Kids) 65).bind fun x619 =>
    some (x619)

def tree_fits (n : Nat) : Node → Option Bool
  | x622 =>
    (cond (x622.Kind == 1)
    (some ((x622.Kind == 1)))
    (some ((x622.Kind == 2))) : Option Bool).bind fun x631 =>
    cond x631
    ((cond (decide (x622.Name ≥ 0))
    (cond (decide (x622.Name < 64))
    (cond (x622.Count == 0)
    (some (((x622.Kids.length : Int) == 0)))
    (some (false)))
    (some (false)))
    (some (false)) : Option Bool).bind fun x634 =>
    some (x634))
    ((cond (x622.Kind == 3)
    (some ((x622.Kind == 3)))
    (some ((x622.Kind == 4))) : Option Bool).bind fun x637 =>
    cond x637
    ((cond (x622.Name == 0)
    (some ((x622.Count == 0)))
    (some (false)) : Option Bool).bind fun x640 =>
    some (x640))
    (cond (x622.Kind == 5)
    ((cond (x622.Name == 0)
    (cond (decide (x622.Count ≥ 1))
    (some ((decide (x622.Count ≤ (x622.Kids.length : Int)))))
    (some (false)))
    (some (false)) : Option Bool).bind fun x643 =>
    some (x643))
    (cond (x622.Kind == 6)
    ((cond (x622.Name == 0)
    (cond (x622.Count == 0)
    (some (((x622.Kids.length : Int) == 1)))
    (some (false)))
    (some (false)) : Option Bool).bind fun x646 =>
    some (x646))
    ((cond (x622.Kind == 7)
    (some ((x622.Kind == 7)))
    (some ((x622.Kind == 8))) : Option Bool).bind fun x649 =>
    cond x649
    ((cond (x622.Name == 0)
    (cond (decide (x622.Count ≥ 1))
    (cond (decide (x622.Count ≤ 1000))
    (some (((x622.Kids.length : Int) == 1)))
    (some (false)))
    (some (false)))
    (some (false)) : Option Bool).bind fun x652 =>
    some (x652))
    (some (false))))))

def tree_valid_L1 (self : (Node → Int → Option Bool)) (x655 : Node) (x658 : Int) : Int → Option (Out Int (Out Unit Bool))
  | x741 =>
    cond (decide (x741 < (x655.Kids.length : Int)))
    ((idx x655.Kids x741).bind fun x761 =>
    (self (Node.mk x761.Kind x761.Name x761.Count x761.Kids) (IntKind.i64.wrap (x658 - 1))).bind fun x772 =>
    cond (!x772)
    (some (.done (.done false)))
    (some (.go (IntKind.i64.wrap (x741 + 1)))))
    (some (.done (.go ())))

def tree_valid_F (n : Nat) (self : Node → Int → Option Bool) : Node → Int → Option Bool
  | x655, x658 =>
    (cond (x658 == 0)
    (some (true))
    ((tree_fits n (Node.mk x655.Kind x655.Name x655.Count x655.Kids)).bind fun x671 =>
    some ((!x671))) : Option Bool).bind fun x667 =>
    cond x667
    (some (false))
    ((loopN (tree_valid_L1 self x655 x658) n 0 : Option (Out Unit Bool)).bind fun y725 => (match y725 with
    | .go _ =>
    some (true)
    | .done r => some r))
def tree_valid : Nat → Node → Int → Option Bool
  | 0 => fun _ _ => none
  | n + 1 => tree_valid_F n (tree_valid n)

def tree_Valid (n : Nat) : Node → Option Bool
  | x777 =>
    ((tree_Size n (Node.mk x777.Kind x777.Name x777.Count x777.Kids)).bind fun x795 =>
    cond (decide (x795 ≤ 64))
    ((tree_valid n (Node.mk x777.Kind x777.Name x777.Count x777.Kids) 16).bind fun x798 =>
    some (x798))
    (some (false)) : Option Bool).bind fun x791 =>
    some (x791)

def tree_New (n : Nat) : Node → Option ((Option Runner) × Int)
  | x872 =>
    (tree_Valid n (Node.mk x872.Kind x872.Name x872.Count x872.Kids)).bind fun x882 =>
    cond (!x882)
    (some ((none, 1)))
    ((tree_Runner_add n (Runner.mk [] [] []) (Node.mk x872.Kind x872.Name x872.Count x872.Kids)).bind fun (x887, x888) =>
    ((mk (x888.nodes.length : Int) 0).bind fun x_0 =>
    (mk (x888.nodes.length : Int) false).bind fun x_1 =>
    some ((x_0, x_1)) : Option ((List Int) × (List Bool))).bind fun (x971, x975) =>
    some (((some (Runner.mk x888.nodes x971 x975)), 0)))

def mission_New (n : Nat) : (List Task) → Option ((Option Mission) × Int)
  | x_0 =>
    (mission_Build n x_0).bind fun (x_1, x_2) =>
    cond (x_2 != 0)
    (some ((none, x_2)))
    ((tree_New n (Node.mk x_1.Kind x_1.Name x_1.Count x_1.Kids)).bind fun (x_3, x_4) =>
    (match x_3 with
    | none => ((mk (x_0.length : Int) false).bind fun x_5 =>
    none)
    | some x_6 => ((mk (x_0.length : Int) false).bind fun x_7 =>
    some (((some (Mission.mk (Runner.mk x_6.nodes x_6.counters x_6.active) x_7 1 0)), 0)))))

def slices_Clonebool_bool_ (n : Nat) : (List Bool) → Option ((List Bool) × (List Bool))
  | x_0 =>
    (app ([] : List Bool) x_0).bind fun x_1 =>
    some ((x_1, x_0))

def tree_Runner_chain_L1 (f_tree_Runner_run : (Runner → Int → Tick → Option (Int × Runner × Tick))) (x_0 : Runner) (x_1 : (List Int)) (x_2 : Int) : ((List Int) × (List Bool) × (List Int) × (List Bool) × (List Int) × (List Int) × Int) → Option (Out ((List Int) × (List Bool) × (List Int) × (List Bool) × (List Int) × (List Int) × Int) (Out ((List Int) × (List Bool) × (List Int) × (List Bool) × (List Int) × (List Int)) (Int × Runner × Tick)))
  | (x_3, x_4, x_5, x_6, x_7, x_8, x_9) =>
    cond (decide (x_9 < (x_1.length : Int)))
    ((idx x_1 x_9).bind fun x_a =>
    (f_tree_Runner_run (Runner.mk x_0.nodes x_3 x_4) x_a (Tick.mk x_5 x_6 x_7 x_8)).bind fun (x_b, x_c, x_d) =>
    cond (x_b != x_2)
    (some (.done (.done (x_b, (Runner.mk x_0.nodes x_c.counters x_c.active), (Tick.mk x_d.actions x_d.tests x_d.status x_d.ticked)))))
    (some (.go (x_c.counters, x_c.active, x_d.actions, x_d.tests, x_d.status, x_d.ticked, (IntKind.i64.wrap (x_9 + 1))))))
    (some (.done (.go (x_3, x_4, x_5, x_6, x_7, x_8))))

def tree_Runner_chain (n : Nat) (f_tree_Runner_run : (Runner → Int → Tick → Option (Int × Runner × Tick))) : Runner → (List Int) → Int → Tick → Option (Int × Runner × Tick)
  | x_0, x_1, x_2, x_3 =>
    (loopN (tree_Runner_chain_L1 f_tree_Runner_run x_0 x_1 x_2) n (x_0.counters, x_0.active, x_3.actions, x_3.tests, x_3.status, x_3.ticked, 0) : Option (Out ((List Int) × (List Bool) × (List Int) × (List Bool) × (List Int) × (List Int)) (Int × Runner × Tick))).bind fun y_4 => (match y_4 with
    | .go (x_5, x_6, x_7, x_8, x_9, x_a) =>
    some ((x_2, (Runner.mk x_0.nodes x_5 x_6), (Tick.mk x_7 x_8 x_9 x_a)))
    | .done r => some r)

def tree_Runner_parallel_L1 (f_tree_Runner_run : (Runner → Int → Tick → Option (Int × Runner × Tick))) (x_0 : Runner) (x_1 : Node_2) : ((List Int) × (List Bool) × (List Int) × (List Bool) × (List Int) × (List Int) × Int × Int × Int) → Option (Out ((List Int) × (List Bool) × (List Int) × (List Bool) × (List Int) × (List Int) × Int × Int × Int) (Int × Int × (List Int) × (List Bool) × (List Int) × (List Bool) × (List Int) × (List Int)))
  | (x_2, x_3, x_4, x_5, x_6, x_7, x_8, x_9, x_a) =>
    cond (decide (x_a < (x_1.kids.length : Int)))
    (((idx x_1.kids x_a).bind fun x_b =>
    (f_tree_Runner_run (Runner.mk x_0.nodes x_2 x_3) x_b (Tick.mk x_4 x_5 x_6 x_7)).bind fun (x_c, x_d, x_e) =>
    cond (x_c == 2)
    (some ((x_d.counters, x_d.active, x_e.actions, x_e.tests, x_e.status, x_e.ticked, (IntKind.i64.wrap (x_8 + 1)), x_9)))
    (cond (x_c == 3)
    (some ((x_d.counters, x_d.active, x_e.actions, x_e.tests, x_e.status, x_e.ticked, x_8, (IntKind.i64.wrap (x_9 + 1)))))
    (some ((x_d.counters, x_d.active, x_e.actions, x_e.tests, x_e.status, x_e.ticked, x_8, x_9)))) : Option ((List Int) × (List Bool) × (List Int) × (List Bool) × (List Int) × (List Int) × Int × Int)).bind fun (x_f, x_g, x_h, x_i, x_j, x_k, x_l, x_m) =>
    some (.go (x_f, x_g, x_h, x_i, x_j, x_k, x_l, x_m, (IntKind.i64.wrap (x_a + 1)))))
    (some (.done (x_8, x_9, x_2, x_3, x_4, x_5, x_6, x_7)))

def tree_Runner_parallel (n : Nat) (f_tree_Runner_run : (Runner → Int → Tick → Option (Int × Runner × Tick))) : Runner → Node_2 → Tick → Option (Int × Runner × Tick)
  | x_0, x_1, x_2 =>
    (loopN (tree_Runner_parallel_L1 f_tree_Runner_run x_0 x_1) n (x_0.counters, x_0.active, x_2.actions, x_2.tests, x_2.status, x_2.ticked, 0, 0, 0) : Option (Int × Int × (List Int) × (List Bool) × (List Int) × (List Bool) × (List Int) × (List Int))).bind fun (x_3, x_4, x_5, x_6, x_7, x_8, x_9, x_a) =>
    cond (decide (x_3 ≥ x_1.count))
    (some ((2, (Runner.mk x_0.nodes x_5 x_6), (Tick.mk x_7 x_8 x_9 x_a))))
    (cond (decide (x_4 > (IntKind.i64.wrap ((x_1.kids.length : Int) - x_1.count))))
    (some ((3, (Runner.mk x_0.nodes x_5 x_6), (Tick.mk x_7 x_8 x_9 x_a))))
    (some ((1, (Runner.mk x_0.nodes x_5 x_6), (Tick.mk x_7 x_8 x_9 x_a)))))

def tree_Runner_decorate (n : Nat) (f_tree_Runner_run : (Runner → Int → Tick → Option (Int × Runner × Tick))) : Runner → Int → Tick → Option (Int × Runner × Tick)
  | x_0, x_1, x_2 =>
    (idx x_0.nodes x_1).bind fun x_3 =>
    (idx x_3.kids 0).bind fun x_4 =>
    (f_tree_Runner_run (Runner.mk x_0.nodes x_0.counters x_0.active) x_4 (Tick.mk x_2.actions x_2.tests x_2.status x_2.ticked)).bind fun (x_5, x_6, x_7) =>
    ((cond (x_3.kind == 6)
    (some ((x_5 != 1)))
    (some (false)) : Option Bool).bind fun x_8 =>
    cond x_8
    (some (.done ((IntKind.i64.wrap (5 - x_5)), (Runner.mk x_0.nodes x_6.counters x_6.active), (Tick.mk x_7.actions x_7.tests x_7.status x_7.ticked))))
    ((cond (x_3.kind == 7)
    (some ((x_5 == 3)))
    (some (false)) : Option Bool).bind fun x_9 =>
    cond x_9
    ((idx x_6.counters x_1).bind fun x_a =>
    (idx x_6.counters x_1).bind fun x_b =>
    (idx (upd x_6.counters x_1 (IntKind.i64.wrap (x_a + 1))) x_1).bind fun x_c =>
    cond (decide (x_c < x_3.count))
    (some (.done (1, (Runner.mk x_0.nodes (upd x_6.counters x_1 (IntKind.i64.wrap (x_a + 1))) x_6.active), (Tick.mk x_7.actions x_7.tests x_7.status x_7.ticked))))
    (some (.go (upd x_6.counters x_1 (IntKind.i64.wrap (x_a + 1))))))
    ((cond (x_3.kind == 8)
    (some ((x_5 == 1)))
    (some (false)) : Option Bool).bind fun x_d =>
    cond x_d
    ((idx x_6.counters x_1).bind fun x_e =>
    (idx x_6.counters x_1).bind fun x_f =>
    (idx (upd x_6.counters x_1 (IntKind.i64.wrap (x_e + 1))) x_1).bind fun x_g =>
    cond (x_g == x_3.count)
    (some (.done (3, (Runner.mk x_0.nodes (upd x_6.counters x_1 (IntKind.i64.wrap (x_e + 1))) x_6.active), (Tick.mk x_7.actions x_7.tests x_7.status x_7.ticked))))
    (some (.go (upd x_6.counters x_1 (IntKind.i64.wrap (x_e + 1))))))
    (some (.go x_6.counters)))) : Option (Out (List Int) (Int × Runner × Tick))).bind fun y_h => (match y_h with
    | .go x_i =>
    some ((x_5, (Runner.mk x_0.nodes x_i x_6.active), (Tick.mk x_7.actions x_7.tests x_7.status x_7.ticked)))
    | .done r => some r)

def tree_Runner_run_F (n : Nat) (self : Runner → Int → Tick → Option (Int × Runner × Tick)) : Runner → Int → Tick → Option (Int × Runner × Tick)
  | x_0, x_1, x_2 =>
    (idx x_0.nodes x_1).bind fun x_3 =>
    (cond (x_3.kind == 1)
    ((app x_2.ticked [x_1]).bind fun x_4 =>
    (cond (decide (x_3.name < (x_2.actions.length : Int)))
    ((idx x_2.actions x_3.name).bind fun x_5 =>
    cond (decide (x_5 ≥ 1))
    ((idx x_2.actions x_3.name).bind fun x_6 =>
    some ((decide (x_6 ≤ 3))))
    (some (false)))
    (some (false)) : Option Bool).bind fun x_7 =>
    cond x_7
    ((idx x_2.actions x_3.name).bind fun x_8 =>
    some ((x_2.actions, x_2.tests, x_2.status, x_4, x_8, x_0.counters, x_0.active)))
    (some ((x_2.actions, x_2.tests, x_2.status, x_4, 3, x_0.counters, x_0.active))))
    (cond (x_3.kind == 2)
    ((cond (decide (x_3.name < (x_2.tests.length : Int)))
    ((idx x_2.tests x_3.name).bind fun x_9 =>
    some (x_9))
    (some (false)) : Option Bool).bind fun x_a =>
    cond x_a
    (some ((x_2.actions, x_2.tests, x_2.status, x_2.ticked, 2, x_0.counters, x_0.active)))
    (some ((x_2.actions, x_2.tests, x_2.status, x_2.ticked, 3, x_0.counters, x_0.active))))
    (cond (x_3.kind == 3)
    ((tree_Runner_chain n self (Runner.mk x_0.nodes x_0.counters x_0.active) x_3.kids 2 (Tick.mk x_2.actions x_2.tests x_2.status x_2.ticked)).bind fun (x_b, x_c, x_d) =>
    some ((x_d.actions, x_d.tests, x_d.status, x_d.ticked, x_b, x_c.counters, x_c.active)))
    (cond (x_3.kind == 4)
    ((tree_Runner_chain n self (Runner.mk x_0.nodes x_0.counters x_0.active) x_3.kids 3 (Tick.mk x_2.actions x_2.tests x_2.status x_2.ticked)).bind fun (x_e, x_f, x_g) =>
    some ((x_g.actions, x_g.tests, x_g.status, x_g.ticked, x_e, x_f.counters, x_f.active)))
    (cond (x_3.kind == 5)
    ((tree_Runner_parallel n self (Runner.mk x_0.nodes x_0.counters x_0.active) (Node_2.mk x_3.kind x_3.name x_3.count x_3.kids) (Tick.mk x_2.actions x_2.tests x_2.status x_2.ticked)).bind fun (x_h, x_i, x_j) =>
    some ((x_j.actions, x_j.tests, x_j.status, x_j.ticked, x_h, x_i.counters, x_i.active)))
    ((tree_Runner_decorate n self (Runner.mk x_0.nodes x_0.counters x_0.active) x_1 (Tick.mk x_2.actions x_2.tests x_2.status x_2.ticked)).bind fun (x_k, x_l, x_m) =>
    some ((x_m.actions, x_m.tests, x_m.status, x_m.ticked, x_k, x_l.counters, x_l.active))))))) : Option ((List Int) × (List Bool) × (List Int) × (List Int) × Int × (List Int) × (List Bool))).bind fun (x_n, x_o, x_p, x_q, x_r, x_s, x_t) =>
    (idx x_p x_1).bind fun x_u =>
    some ((x_r, (Runner.mk x_0.nodes x_s x_t), (Tick.mk x_n x_o (upd x_p x_1 x_r) x_q)))
def tree_Runner_run : Nat → Runner → Int → Tick → Option (Int × Runner × Tick)
  | 0 => fun _ _ _ => none
  | n + 1 => tree_Runner_run_F n (tree_Runner_run n)

def tree_Runner_settle_L0 (self : (Runner → Int → Bool → Tick → Option (Runner × Tick))) (x_0 : Runner) (x_1 : Bool) (x_2 : Node_2) : ((List Int) × (List Bool) × (List Int) × (List Bool) × (List Int) × (List Int) × Int) → Option (Out ((List Int) × (List Bool) × (List Int) × (List Bool) × (List Int) × (List Int) × Int) (Runner × Tick))
  | (x_3, x_4, x_5, x_6, x_7, x_8, x_9) =>
    cond (decide (x_9 < (x_2.kids.length : Int)))
    ((idx x_2.kids x_9).bind fun x_a =>
    (self (Runner.mk x_0.nodes x_3 x_4) x_a x_1 (Tick.mk x_5 x_6 x_7 x_8)).bind fun (x_b, x_c) =>
    some (.go (x_b.counters, x_b.active, x_c.actions, x_c.tests, x_c.status, x_c.ticked, (IntKind.i64.wrap (x_9 + 1)))))
    (some (.done ((Runner.mk x_0.nodes x_3 x_4), (Tick.mk x_5 x_6 x_7 x_8))))

def tree_Runner_settle_F (n : Nat) (self : Runner → Int → Bool → Tick → Option (Runner × Tick)) : Runner → Int → Bool → Tick → Option (Runner × Tick)
  | x_0, x_1, x_2, x_3 =>
    (cond x_2
    ((idx x_3.status x_1).bind fun x_4 =>
    some ((x_4 == 1)))
    (some (false)) : Option Bool).bind fun x_5 =>
    (cond (!x_5)
    ((idx x_0.counters x_1).bind fun x_6 =>
    some ((upd x_0.counters x_1 0)))
    (some (x_0.counters)) : Option (List Int)).bind fun x_7 =>
    (cond x_5
    ((idx x_0.nodes x_1).bind fun x_8 =>
    (idx x_0.active x_1).bind fun x_9 =>
    some ((upd x_0.active x_1 (x_8.kind == 1))))
    ((idx x_0.active x_1).bind fun x_a =>
    some ((upd x_0.active x_1 false))) : Option (List Bool)).bind fun x_b =>
    (idx x_0.nodes x_1).bind fun x_c =>
    loopN (tree_Runner_settle_L0 self x_0 x_5 x_c) n (x_7, x_b, x_3.actions, x_3.tests, x_3.status, x_3.ticked, 0)
def tree_Runner_settle : Nat → Runner → Int → Bool → Tick → Option (Runner × Tick)
  | 0 => fun _ _ _ _ => none
  | n + 1 => tree_Runner_settle_F n (tree_Runner_settle n)

def tree_Runner_Tick_L1 (x_0 : Runner) (x_1 : (List Bool)) (x_2 : Runner) (x_3 : Tick) : ((List Int) × Int) → Option (Out ((List Int) × Int) (List Int))
  | (x_4, x_5) =>
    cond (decide (x_5 < (x_0.nodes.length : Int)))
    (((idx x_0.nodes x_5).bind fun x_6 =>
    cond (x_6.kind != 1)
    (some (x_4))
    (((idx x_1 x_5).bind fun x_7 =>
    cond x_7
    ((idx x_3.status x_5).bind fun x_8 =>
    cond (x_8 == 0)
    (some (true))
    ((idx x_3.status x_5).bind fun x_9 =>
    cond (x_9 == 1)
    ((idx x_2.active x_5).bind fun x_a =>
    some ((!x_a)))
    (some (false))))
    ((idx x_3.status x_5).bind fun x_b =>
    cond (x_b == 1)
    ((idx x_2.active x_5).bind fun x_c =>
    some ((!x_c)))
    (some (false))) : Option Bool).bind fun x_d =>
    cond x_d
    ((app x_4 [x_5]).bind fun x_e =>
    some (x_e))
    (some (x_4))) : Option (List Int)).bind fun x_f =>
    some (.go (x_f, (IntKind.i64.wrap (x_5 + 1)))))
    (some (.done x_4))

def tree_Runner_Tick (n : Nat) : Runner → (List Int) → (List Bool) → Option (Int × (List Int) × (List Int) × Runner)
  | x_0, x_1, x_2 =>
    (mk (x_0.nodes.length : Int) 0).bind fun x_3 =>
    (tree_Runner_run n (Runner.mk x_0.nodes x_0.counters x_0.active) 0 (Tick.mk x_1 x_2 x_3 [])).bind fun (x_4, x_5, x_6) =>
    (slices_Clonebool_bool_ n x_5.active).bind fun (x_7, x_8) =>
    (tree_Runner_settle n (Runner.mk x_0.nodes x_5.counters x_8) 0 true (Tick.mk x_6.actions x_6.tests x_6.status x_6.ticked)).bind fun (x_9, x_a) =>
    (loopN (tree_Runner_Tick_L1 x_0 x_7 x_9 x_a) n ([], 0) : Option (List Int)).bind fun x_b =>
    some ((x_4, x_a.ticked, x_b, (Runner.mk x_0.nodes x_9.counters x_9.active)))

def mission_Mission_Tick_L1 (x_0 : (List Int)) (x_1 : (List Int)) : ((List Bool) × Int × Int) → Option (Out ((List Bool) × Int × Int) ((List Bool) × Int))
  | (x_2, x_3, x_4) =>
    cond (decide (x_4 < (x_1.length : Int)))
    (((idx x_1 x_4).bind fun x_5 =>
    cond (((IntKind.i64.wrap (x_5 - 1)).tmod 8) == 4)
    ((cond (decide ((IntKind.i64.wrap ((IntKind.i64.wrap (x_5 - 1)).tdiv 8)) < (x_0.length : Int)))
    ((idx x_0 (IntKind.i64.wrap ((IntKind.i64.wrap (x_5 - 1)).tdiv 8))).bind fun x_6 =>
    some ((x_6 == 2)))
    (some (false)) : Option Bool).bind fun x_7 =>
    cond x_7
    ((idx x_2 (IntKind.i64.wrap ((IntKind.i64.wrap (x_5 - 1)).tdiv 8))).bind fun x_8 =>
    some (((upd x_2 (IntKind.i64.wrap ((IntKind.i64.wrap (x_5 - 1)).tdiv 8)) true), (IntKind.i64.wrap ((IntKind.i64.wrap (x_5 - 1)).tdiv 8)))))
    (some ((x_2, (IntKind.i64.wrap ((IntKind.i64.wrap (x_5 - 1)).tdiv 8))))))
    (cond (((IntKind.i64.wrap (x_5 - 1)).tmod 8) == 6)
    (some ((x_2, (IntKind.i64.wrap (32 + (IntKind.i64.wrap ((IntKind.i64.wrap (x_5 - 1)).tdiv 8)))))))
    (some ((x_2, x_3)))) : Option ((List Bool) × Int)).bind fun (x_9, x_a) =>
    some (.go (x_9, x_a, (IntKind.i64.wrap (x_4 + 1)))))
    (some (.done (x_2, x_3)))

def mission_Mission_Tick (n : Nat) : Mission → (List Int) → Option (Int × Int × Int × Mission)
  | x_0, x_1 =>
    cond (x_0.status != 1)
    (some ((0, 0, 9, (Mission.mk (Runner.mk x_0.run.nodes x_0.run.counters x_0.run.active) x_0.done x_0.status x_0.ticks))))
    ((slices_Clonebool_bool_ n x_0.done).bind fun (x_2, x_3) =>
    (tree_Runner_Tick n (Runner.mk x_0.run.nodes x_0.run.counters x_0.run.active) x_1 x_2).bind fun (x_4, x_5, x_6, x_7) =>
    (loopN (mission_Mission_Tick_L1 x_1 x_5) n (x_3, (-1), 0) : Option ((List Bool) × Int)).bind fun (x_8, x_9) =>
    some ((x_4, x_9, 0, (Mission.mk (Runner.mk x_0.run.nodes x_7.counters x_7.active) x_8 x_4 (IntKind.i64.wrap (x_0.ticks + 1))))))

def tree_letter (n : Nat) : Int → Option Int
  | x_0 =>
    (bidx (ByteArray.mk #[32, 97, 116, 115, 102, 112, 105, 114, 111]) x_0).bind fun x_1 =>
    some (x_1)

def strings_Builder_WriteByte (n : Nat) : Builder → Int → Option (Unit × Builder)
  | x_0, x_1 =>
    (strings_Builder_copyCheck n (Builder.mk () x_0.buf)).bind fun x_2 =>
    (app x_2.buf [x_1]).bind fun x_3 =>
    some (((), (Builder.mk () x_3)))

def strings_Builder_WriteString (n : Nat) : Builder → ByteArray → Option (Int × Unit × Builder)
  | x_0, x_1 =>
    (strings_Builder_copyCheck n (Builder.mk () x_0.buf)).bind fun x_2 =>
    (app x_2.buf (strNums x_1)).bind fun x_3 =>
    some (((x_1.size : Int), (), (Builder.mk () x_3)))

def tree_write_L1 (n : Nat) (self : (Builder → Node → Option Builder)) (x_0 : Node) : ((List Int) × Int) → Option (Out ((List Int) × Int) (List Int))
  | (x_1, x_2) =>
    cond (decide (x_2 < (x_0.Kids.length : Int)))
    ((idx x_0.Kids x_2).bind fun x_3 =>
    (strings_Builder_WriteByte n (Builder.mk () x_1) 32).bind fun (x_4, x_5) =>
    (self (Builder.mk () x_5.buf) (Node.mk x_3.Kind x_3.Name x_3.Count x_3.Kids)).bind fun x_6 =>
    some (.go (x_6.buf, (IntKind.i64.wrap (x_2 + 1)))))
    (some (.done x_1))

def tree_write_F (n : Nat) (self : Builder → Node → Option Builder) : Builder → Node → Option Builder
  | x_0, x_1 =>
    (cond (x_1.Kind == 1)
    (some (true))
    (some ((x_1.Kind == 2))) : Option Bool).bind fun x_2 =>
    cond x_2
    ((tree_letter n x_1.Kind).bind fun x_3 =>
    (strings_Builder_WriteByte n (Builder.mk () x_0.buf) x_3).bind fun (x_4, x_5) =>
    (strconv_Itoa n x_1.Name).bind fun x_6 =>
    (strings_Builder_WriteString n (Builder.mk () x_5.buf) x_6).bind fun (x_7, x_8, x_9) =>
    some ((Builder.mk () x_9.buf)))
    ((strings_Builder_WriteByte n (Builder.mk () x_0.buf) 40).bind fun (x_a, x_b) =>
    (tree_letter n x_1.Kind).bind fun x_c =>
    (strings_Builder_WriteByte n (Builder.mk () x_b.buf) x_c).bind fun (x_d, x_e) =>
    (cond (decide (x_1.Count > 0))
    ((strconv_Itoa n x_1.Count).bind fun x_f =>
    (strings_Builder_WriteString n (Builder.mk () x_e.buf) x_f).bind fun (x_g, x_h, x_i) =>
    some (x_i.buf))
    (some (x_e.buf)) : Option (List Int)).bind fun x_j =>
    (loopN (tree_write_L1 n self x_1) n (x_j, 0) : Option (List Int)).bind fun x_k =>
    (strings_Builder_WriteByte n (Builder.mk () x_k) 41).bind fun (x_l, x_m) =>
    some ((Builder.mk () x_m.buf)))
def tree_write : Nat → Builder → Node → Option Builder
  | 0 => fun _ _ => none
  | n + 1 => tree_write_F n (tree_write n)

def tree_Text (n : Nat) (t : Node) : Option ByteArray := (tree_Valid n t).bind fun ok => cond ok ((tree_write n (Builder.mk () []) t).bind fun b => strO b.buf) (some ByteArray.empty)

def top_missionAwake (n : Nat) : Option Bool :=
    (mission_New n [(Task.mk 2 (Cell.mk 0 0) 2 1)]).bind fun (x_0, x_1) =>
    (match x_0 with
    | none => ((mission_Build n []).bind fun (x_2, x_3) =>
    (cond (x_1 != 0)
    (some (()))
    (cond (x_3 != 0)
    (some (()))
    (some (()))) : Option Unit).bind fun _ =>
    some (false))
    | some x_4 => ((mission_Build n []).bind fun (x_5, x_6) =>
    (cond (x_1 != 0)
    (some (true))
    (cond (x_6 != 0)
    (some (true))
    (some (false))) : Option Bool).bind fun x_7 =>
    cond x_7
    (some (false))
    ((mission_Mission_Tick n (Mission.mk (Runner.mk x_4.run.nodes x_4.run.counters x_4.run.active) x_4.done x_4.status x_4.ticks) [1]).bind fun (x_8, x_9, x_a, x_b) =>
    (cond (x_8 == 1)
    (cond (x_9 == 0)
    (cond (x_a == 0)
    ((tree_Text n (Node.mk x_5.Kind x_5.Name x_5.Count x_5.Kids)).bind fun x_c =>
    some ((x_c.toList == (ByteArray.mk #[40, 115, 41]).toList)))
    (some (false)))
    (some (false)))
    (some (false)) : Option Bool).bind fun x_d =>
    some (x_d))))

def tree_parser_take (n : Nat) : Parser → Int → Option (Bool × Parser)
  | x_0, x_1 =>
    (cond (x_0.s.toList == (ByteArray.mk #[]).toList)
    (some (true))
    ((bidx x_0.s 0).bind fun x_2 =>
    some ((x_2 != x_1))) : Option Bool).bind fun x_3 =>
    cond x_3
    (some ((false, (Parser.mk x_0.s x_0.nodes))))
    ((scut x_0.s 1 (x_0.s.size : Int)).bind fun x_4 =>
    some ((true, (Parser.mk x_4 x_0.nodes))))

def tree_parser_number_L1 (x_0 : Parser) : Int → Option (Out Int Int)
  | x_1 =>
    (cond (decide (x_1 < (x_0.s.size : Int)))
    ((bidx x_0.s x_1).bind fun x_2 =>
    cond (decide (x_2 ≥ 48))
    ((bidx x_0.s x_1).bind fun x_3 =>
    some ((decide (x_3 ≤ 57))))
    (some (false)))
    (some (false)) : Option Bool).bind fun x_4 =>
    cond x_4
    (some (.go (IntKind.i64.wrap (x_1 + 1))))
    (some (.done x_1))

def tree_parser_number (n : Nat) : Parser → Option (Int × Bool × Parser)
  | x_0 =>
    (loopN (tree_parser_number_L1 x_0) n 0 : Option Int).bind fun x_1 =>
    (cond (x_1 == 0)
    (some (true))
    (cond (decide (x_1 > 4))
    (some (true))
    ((bidx x_0.s 0).bind fun x_2 =>
    cond (x_2 == 48)
    (some ((decide (x_1 > 1))))
    (some (false)))) : Option Bool).bind fun x_3 =>
    cond x_3
    (some ((0, false, (Parser.mk x_0.s x_0.nodes))))
    ((scut x_0.s 0 x_1).bind fun x_4 =>
    (strconv_Atoi n x_4).bind fun (x_5, x_6) =>
    (scut x_0.s x_1 (x_0.s.size : Int)).bind fun x_7 =>
    some ((x_5, true, (Parser.mk x_7 x_0.nodes))))

def tree_parser_node_L1 (n : Nat) (self : (Parser → Int → Option (Node × Bool × Parser))) (x_0 : Int) (x_1 : Bool) : (ByteArray × Int × (List Node) × Bool) → Option (Out (ByteArray × Int × (List Node) × Bool) (ByteArray × Int × (List Node) × Bool))
  | (x_2, x_3, x_4, x_5) =>
    (cond x_5
    (cond x_1
    ((tree_parser_take n (Parser.mk x_2 x_3) 32).bind fun (x_6, x_7) =>
    some ((x_7.s, x_7.nodes, x_6)))
    (some ((x_2, x_3, false))))
    (some ((x_2, x_3, false))) : Option (ByteArray × Int × Bool)).bind fun (x_8, x_9, x_a) =>
    cond x_a
    ((self (Parser.mk x_8 x_9) (IntKind.i64.wrap (x_0 - 1))).bind fun (x_b, x_c, x_d) =>
    cond x_c
    ((app x_4 [(Node.mk x_b.Kind x_b.Name x_b.Count x_b.Kids)]).bind fun x_e =>
    some (.go (x_d.s, x_d.nodes, x_e, x_c)))
    (some (.go (x_d.s, x_d.nodes, x_4, x_c))))
    (some (.done (x_8, x_9, x_4, x_5)))

def tree_parser_node_F (n : Nat) (self : Parser → Int → Option (Node × Bool × Parser)) : Parser → Int → Option (Node × Bool × Parser)
  | x_0, x_1 =>
    (cond (x_1 == 0)
    (some (true))
    (cond (decide ((IntKind.i64.wrap (x_0.nodes + 1)) > 64))
    (some (true))
    (some ((x_0.s.toList == (ByteArray.mk #[]).toList)))) : Option Bool).bind fun x_2 =>
    cond x_2
    (some (((Node.mk 0 0 0 []), false, (Parser.mk x_0.s (IntKind.i64.wrap (x_0.nodes + 1))))))
    ((tree_parser_take n (Parser.mk x_0.s (IntKind.i64.wrap (x_0.nodes + 1))) 40).bind fun (x_3, x_4) =>
    cond (x_4.s.toList == (ByteArray.mk #[]).toList)
    (some (((Node.mk 0 0 0 []), false, (Parser.mk x_4.s x_4.nodes))))
    ((bidx x_4.s 0).bind fun x_5 =>
    (strings_IndexByte n (ByteArray.mk #[32, 97, 116, 115, 102, 112, 105, 114, 111]) x_5).bind fun x_6 =>
    (scut x_4.s 1 (x_4.s.size : Int)).bind fun x_7 =>
    (cond (decide (x_6 < 1))
    (some (true))
    (some ((!(x_3 == (decide (x_6 ≥ 3)))))) : Option Bool).bind fun x_8 =>
    cond x_8
    (some (((Node.mk 0 0 0 []), false, (Parser.mk x_7 x_4.nodes))))
    (((cond (x_6 == 1)
    (some ((x_6 == 1)))
    (some ((x_6 == 2))) : Option Bool).bind fun x_9 =>
    cond x_9
    ((tree_parser_number n (Parser.mk x_7 x_4.nodes)).bind fun (x_a, x_b, x_c) =>
    some ((x_c.s, x_c.nodes, x_a, 0, x_b)))
    ((cond (x_6 == 5)
    (some ((x_6 == 5)))
    (cond (x_6 == 7)
    (some ((x_6 == 7)))
    (some ((x_6 == 8)))) : Option Bool).bind fun x_d =>
    cond x_d
    ((tree_parser_number n (Parser.mk x_7 x_4.nodes)).bind fun (x_e, x_f, x_g) =>
    some ((x_g.s, x_g.nodes, 0, x_e, x_f)))
    (some ((x_7, x_4.nodes, 0, 0, true)))) : Option (ByteArray × Int × Int × Int × Bool)).bind fun (x_h, x_i, x_j, x_k, x_l) =>
    (loopN (tree_parser_node_L1 n self x_1 x_3) n (x_h, x_i, [], x_l) : Option (ByteArray × Int × (List Node) × Bool)).bind fun (x_m, x_n, x_o, x_p) =>
    (cond x_p
    (cond (!x_3)
    (some ((x_6, x_j, x_k, x_o, true, x_m, x_n)))
    ((tree_parser_take n (Parser.mk x_m x_n) 41).bind fun (x_q, x_r) =>
    some ((x_6, x_j, x_k, x_o, x_q, x_r.s, x_r.nodes))))
    (some ((x_6, x_j, x_k, x_o, false, x_m, x_n))) : Option (Int × Int × Int × (List Node) × Bool × ByteArray × Int)).bind fun (x_s, x_t, x_u, x_v, x_w, x_x, x_y) =>
    some (((Node.mk x_s x_t x_u x_v), x_w, (Parser.mk x_x x_y))))))
def tree_parser_node : Nat → Parser → Int → Option (Node × Bool × Parser)
  | 0 => fun _ _ => none
  | n + 1 => tree_parser_node_F n (tree_parser_node n)

def tree_Parse (n : Nat) : ByteArray → Option (Node × Int)
  | x_0 =>
    cond (decide ((x_0.size : Int) > 4000))
    (some (((Node.mk 0 0 0 []), 6)))
    ((tree_parser_node n (Parser.mk x_0 0) 16).bind fun (x_1, x_2, x_3) =>
    (cond (!x_2)
    (some (true))
    (cond (!(x_3.s.toList == (ByteArray.mk #[]).toList))
    (some (true))
    ((tree_Valid n (Node.mk x_1.Kind x_1.Name x_1.Count x_1.Kids)).bind fun x_4 =>
    some ((!x_4)))) : Option Bool).bind fun x_5 =>
    cond x_5
    (some (((Node.mk 0 0 0 []), 3)))
    (some (((Node.mk x_1.Kind x_1.Name x_1.Count x_1.Kids), 0))))

def mission_Mission_Done (n : Nat) : Mission → Option ((List Bool) × Mission)
  | x_0 =>
    (slices_Clonebool_bool_ n x_0.done).bind fun (x_1, x_2) =>
    some ((x_1, (Mission.mk (Runner.mk x_0.run.nodes x_0.run.counters x_0.run.active) x_2 x_0.status x_0.ticks)))

def top_WholeMission_L25 (x_0 : (List Task)) (x_1 : (List (List Int))) (x_2 : Int) (x_3 : (List Int)) (x_4 : (List Int)) : ((List Bool) × Int × Int) → Option (Out ((List Bool) × Int × Int) (Out ((List Bool) × Int) (Out ((List Node_2) × (List Int) × (List Bool) × (List Bool) × Int × Int × (List Int) × (List Bool) × (List Int) × (List Bool) × (List Bool) × Bool) (Out ((List Node_2) × (List Int) × (List Bool) × (List Bool) × Int × Int × (List Int) × (List Bool) × (List Int) × (List Bool) × (List Bool) × Bool × Int) (Out ((List Node_2) × (List Int) × (List Bool) × (List Bool) × Int × Int × (List Bool)) Bool)))))
  | (x_5, x_6, x_7) =>
    cond (decide (x_7 < (x_3.length : Int)))
    (((idx x_3 x_7).bind fun x_8 =>
    (idx x_3 x_7).bind fun x_9 =>
    ((idx x_3 x_7).bind fun x_a =>
    cond (decide (x_a < 1))
    (some (true))
    (cond (decide ((IntKind.i64.wrap ((IntKind.i64.wrap (x_8 - 1)).tdiv 8)) ≥ (x_0.length : Int)))
    (some (true))
    (cond (((IntKind.i64.wrap (x_9 - 1)).tmod 8) != 4)
    (cond (((IntKind.i64.wrap (x_9 - 1)).tmod 8) != 6)
    (some (true))
    ((idx x_3 x_7).bind fun x_b =>
    (idx x_4 x_7).bind fun x_c =>
    some ((x_b != x_c))))
    ((idx x_3 x_7).bind fun x_d =>
    (idx x_4 x_7).bind fun x_e =>
    some ((x_d != x_e))))) : Option Bool).bind fun x_f =>
    cond x_f
    (some (.done (.done (.done (.done (.done (.done false)))))))
    ((cond (((IntKind.i64.wrap (x_9 - 1)).tmod 8) == 6)
    (some ((IntKind.i64.wrap (32 + (IntKind.i64.wrap ((IntKind.i64.wrap (x_8 - 1)).tdiv 8))))))
    (some ((IntKind.i64.wrap ((IntKind.i64.wrap (x_8 - 1)).tdiv 8)))) : Option Int).bind fun x_g =>
    ((idx x_1 x_2).bind fun x_h =>
    cond (decide (x_g < (x_h.length : Int)))
    (cond (decide (x_g < 32))
    ((idx x_1 x_2).bind fun x_i =>
    (idx x_i x_g).bind fun x_j =>
    some ((x_j == 2)))
    (some (false)))
    (some (false)) : Option Bool).bind fun x_k =>
    cond x_k
    ((idx x_5 x_g).bind fun x_l =>
    some (.go ((upd x_5 x_g true), x_g)))
    (some (.go (x_5, x_g)))) : Option (Out ((List Bool) × Int) (Out ((List Bool) × Int × Int) (Out ((List Bool) × Int) (Out ((List Node_2) × (List Int) × (List Bool) × (List Bool) × Int × Int × (List Int) × (List Bool) × (List Int) × (List Bool) × (List Bool) × Bool) (Out ((List Node_2) × (List Int) × (List Bool) × (List Bool) × Int × Int × (List Int) × (List Bool) × (List Int) × (List Bool) × (List Bool) × Bool × Int) (Out ((List Node_2) × (List Int) × (List Bool) × (List Bool) × Int × Int × (List Bool)) Bool))))))).bind fun y_m => (match y_m with
    | .go (x_n, x_o) =>
    some (.go (x_n, x_o, (IntKind.i64.wrap (x_7 + 1))))
    | .done r => some r))
    (some (.done (.go (x_5, x_6))))

def top_WholeMission_L21 (n : Nat) (x_0 : (List Task)) (x_1 : (List (List Int))) (x_2 : Runner) (x_3 : Runner) : ((List Node_2) × (List Int) × (List Bool) × (List Bool) × Int × Int × (List Int) × (List Bool) × (List Int) × (List Bool) × (List Bool) × Bool × Int) → Option (Out ((List Node_2) × (List Int) × (List Bool) × (List Bool) × Int × Int × (List Int) × (List Bool) × (List Int) × (List Bool) × (List Bool) × Bool × Int) (Out ((List Node_2) × (List Int) × (List Bool) × (List Bool) × Int × Int × (List Bool)) Bool))
  | (x_4, x_5, x_6, x_7, x_8, x_9, x_a, x_b, x_c, x_d, x_e, x_f, x_g) =>
    cond (decide (x_g < (x_1.length : Int)))
    (((idx x_1 x_g).bind fun x_h =>
    cond (decide ((x_h.length : Int) > 70))
    (some (.done (.done (.done true))))
    ((idx x_1 x_g).bind fun x_i =>
    (mission_Mission_Tick n (Mission.mk (Runner.mk x_4 x_5 x_6) x_7 x_8 x_9) x_i).bind fun (x_j, x_k, x_l, x_m) =>
    cond x_f
    (cond (x_l != 9)
    (some (.done (.done (.done false))))
    (some (.go (x_m.run.nodes, x_m.run.counters, x_m.run.active, x_m.done, x_m.status, x_m.ticks, x_a, x_b, x_c, x_d, x_e, x_f))))
    ((idx x_1 x_g).bind fun x_n =>
    (tree_Runner_Tick n (Runner.mk x_2.nodes x_a x_b) x_n x_e).bind fun (x_o, x_p, x_q, x_r) =>
    (idx x_1 x_g).bind fun x_s =>
    (tree_Runner_Tick n (Runner.mk x_3.nodes x_c x_d) x_s x_e).bind fun (x_t, x_u, x_v, x_w) =>
    (cond (x_l != 0)
    (some (true))
    (cond (x_o != x_j)
    (some (true))
    (cond (x_t != x_o)
    (some (true))
    (some (((x_p.length : Int) != (x_u.length : Int)))))) : Option Bool).bind fun x_x =>
    cond x_x
    (some (.done (.done (.done false))))
    ((loopN (top_WholeMission_L25 x_0 x_1 x_g x_p x_u) n (x_e, (-1), 0) : Option (Out ((List Bool) × Int) (Out ((List Node_2) × (List Int) × (List Bool) × (List Bool) × Int × Int × (List Int) × (List Bool) × (List Int) × (List Bool) × (List Bool) × Bool) (Out ((List Node_2) × (List Int) × (List Bool) × (List Bool) × Int × Int × (List Int) × (List Bool) × (List Int) × (List Bool) × (List Bool) × Bool × Int) (Out ((List Node_2) × (List Int) × (List Bool) × (List Bool) × Int × Int × (List Bool)) Bool))))).bind fun y_y => (match y_y with
    | .go (x_z, x_10) =>
    (cond (x_10 != x_k)
    (some (.done (.done (.done false))))
    (some (.go (x_m.run.nodes, x_m.run.counters, x_m.run.active, x_m.done, x_m.status, x_m.ticks, x_r.counters, x_r.active, x_w.counters, x_w.active, x_z, (x_j != 1)))))
    | .done r => some r)))) : Option (Out ((List Node_2) × (List Int) × (List Bool) × (List Bool) × Int × Int × (List Int) × (List Bool) × (List Int) × (List Bool) × (List Bool) × Bool) (Out ((List Node_2) × (List Int) × (List Bool) × (List Bool) × Int × Int × (List Int) × (List Bool) × (List Int) × (List Bool) × (List Bool) × Bool × Int) (Out ((List Node_2) × (List Int) × (List Bool) × (List Bool) × Int × Int × (List Bool)) Bool)))).bind fun y_11 => (match y_11 with
    | .go (x_12, x_13, x_14, x_15, x_16, x_17, x_18, x_19, x_1a, x_1b, x_1c, x_1d) =>
    some (.go (x_12, x_13, x_14, x_15, x_16, x_17, x_18, x_19, x_1a, x_1b, x_1c, x_1d, (IntKind.i64.wrap (x_g + 1))))
    | .done r => some r))
    (some (.done (.go (x_4, x_5, x_6, x_7, x_8, x_9, x_e))))

def top_WholeMission_L27 (x_0 : (List Task)) (x_1 : (List Bool)) (x_2 : (List Bool)) : Int → Option (Out Int (Out Unit Bool))
  | x_3 =>
    cond (decide (x_3 < (x_0.length : Int)))
    ((cond (decide (x_3 ≥ (x_2.length : Int)))
    (some (true))
    ((idx x_2 x_3).bind fun x_4 =>
    (idx x_1 x_3).bind fun x_5 =>
    some ((!(x_4 == x_5)))) : Option Bool).bind fun x_6 =>
    cond x_6
    (some (.done (.done false)))
    (some (.go (IntKind.i64.wrap (x_3 + 1)))))
    (some (.done (.go ())))

def top_WholeMission (n : Nat) : (List Task) → (List (List Int)) → Option Bool
  | x_0, x_1 =>
    ((top_missionAwake n ).bind fun x_2 =>
    cond (!x_2)
    (some (true))
    (cond (decide ((x_0.length : Int) > 8))
    (some (true))
    (some ((decide ((x_1.length : Int) > 30))))) : Option Bool).bind fun x_3 =>
    cond x_3
    ((top_missionAwake n ).bind fun x_4 =>
    some (x_4))
    ((mission_New n x_0).bind fun (x_5, x_6) =>
    (match x_5 with
    | none => ((mission_Build n x_0).bind fun (x_7, x_8) =>
    cond (x_6 != x_8)
    (some (false))
    (cond (x_6 != 0)
    (some (true))
    (none)))
    | some x_9 => ((mission_Build n x_0).bind fun (x_a, x_b) =>
    cond (x_6 != x_b)
    (some (false))
    (cond (x_6 != 0)
    (some (false))
    ((tree_Text n (Node.mk x_a.Kind x_a.Name x_a.Count x_a.Kids)).bind fun x_c =>
    (tree_Parse n x_c).bind fun (x_d, x_e) =>
    (tree_New n (Node.mk x_a.Kind x_a.Name x_a.Count x_a.Kids)).bind fun (x_f, x_g) =>
    (match x_f with
    | none => (none)
    | some x_h => ((tree_New n (Node.mk x_d.Kind x_d.Name x_d.Count x_d.Kids)).bind fun (x_i, x_j) =>
    (match x_i with
    | none => (none)
    | some x_k => ((cond (x_e != 0)
    (some (true))
    (cond (x_g != 0)
    (some (true))
    (some ((x_j != 0)))) : Option Bool).bind fun x_l =>
    cond x_l
    (some (false))
    ((mk 64 false).bind fun x_m =>
    (loopN (top_WholeMission_L21 n x_0 x_1 x_h x_k) n (x_9.run.nodes, x_9.run.counters, x_9.run.active, x_9.done, x_9.status, x_9.ticks, x_h.counters, x_h.active, x_k.counters, x_k.active, x_m, false, 0) : Option (Out ((List Node_2) × (List Int) × (List Bool) × (List Bool) × Int × Int × (List Bool)) Bool)).bind fun y_n => (match y_n with
    | .go (x_o, x_p, x_q, x_r, x_s, x_t, x_u) =>
    (mission_Mission_Done n (Mission.mk (Runner.mk x_o x_p x_q) x_r x_s x_t)).bind fun (x_v, x_w) =>
    (loopN (top_WholeMission_L27 x_0 x_u x_v) n 0 : Option (Out Unit Bool)).bind fun y_x => (match y_x with
    | .go _ =>
    some (((x_v.length : Int) == (x_0.length : Int)))
    | .done r => some r)
    | .done r => some r)))))))))))

end Go.Proofs.YtcdboppghnchpaaDoor
