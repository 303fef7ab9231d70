/-
  What the functions of the program compute, as plain Lean functions.
-/
import Derived.Test.YtknnmbcaoekgmaaDoorCoreB
import Derived.Lib.Atoi
import Derived.Lib.Bytealg
namespace Go.Proofs.YtknnmbcaoekgmaaDoor
open Go Go.Proofs.YtknnmbcaoekgmaaDoor.Gw Go.RowKit
set_option linter.unusedVariables false
def pow10 : List Int := [1, 10, 100, 1000, 10000, 100000, 1000000, 10000000, 100000000, 1000000000, 10000000000, 100000000000, 1000000000000, 10000000000000, 100000000000000, 1000000000000000, 10000000000000000, 100000000000000000, 1000000000000000000, 10000000000000000000]
structure Node where
  Kind : Int
  Name : Int
  Count : Int
  Kids : (List Node)
structure Node_2 where
  kind : Int
  name : Int
  count : Int
  kids : (List Int)
structure Runner where
  nodes : (List Node_2)
  counters : (List Int)
  active : (List Bool)
structure Tick where
  actions : (List Int)
  tests : (List Bool)
  status : (List Int)
  ticked : (List Int)
structure Builder where
  addr : Unit
  buf : (List Int)
structure Parser where
  s : ByteArray
  nodes : Int

def addN_L (self : List Node_2 → Node → Option (Int × List Node_2)) (ts : List Node) (k : Int) : (Int × List Node_2) → Option (Out (Int × List Node_2) (List Node_2))
  | (i, ns) =>
    cond (decide (i < (ts.length : Int)))
    ((idx ts i).bind fun t => (self ns t).bind fun (j, ns1) => (idx ns1 k).bind fun nd => (app nd.kids [j]).bind fun ks => some (.go ((IntKind.i64.wrap (i + 1)), upd ns1 k (Node_2.mk nd.kind nd.name nd.count ks))))
    (some (.done ns))
def addN_F (n : Nat) (self : List Node_2 → Node → Option (Int × List Node_2)) : List Node_2 → Node → Option (Int × List Node_2)
  | ns, t => (app ns [Node_2.mk t.Kind t.Name t.Count []]).bind fun ns1 => (loopN (addN_L self t.Kids (ns.length : Int)) n (0, ns1)).bind fun ns2 => some ((ns.length : Int), ns2)
def addN : Nat → List Node_2 → Node → Option (Int × List Node_2)
  | 0 => fun _ _ => none
  | n + 1 => addN_F n (addN n)
def tree_Runner_add (n : Nat) (r : Runner) (t : Node) : Option (Int × Runner) := (addN n r.nodes t).bind fun (i, ns) => some (i, Runner.mk ns [] [])
def strings_Builder_copyCheck (n : Nat) (b : Builder) : Option Builder := some b
def strconv_Itoa (n : Nat) (x : Int) : Option ByteArray := if -9223372036854775808 ≤ x ∧ x ≤ 9223372036854775807 then some ⟨(Lib.itoa x).toArray⟩ else none
def strconv_Atoi (n : Nat) (s : ByteArray) : Option (Int × Unit) := if s.size ≤ 18 then (Lib.atoi s.data.toList).map fun z => (z, ()) else none
def strings_IndexByte (n : Nat) (s : ByteArray) (c : Int) : Option Int := some (Lib.indexByte s.data.toList c.toNat.toUInt8)
def law41_action (n : Nat) : Int → Option Node
  | x1 =>
    some ((Node.mk 1 x1 0 []))

def tree_size_L1 (self : (Node → Int → Option Int)) (x6 : Node) (x9 : Int) : (Int × Int) → Option (Out (Int × Int) Int)
  | (x85, x86) =>
    cond (decide (x86 < (x6.Kids.length : Int)))
    ((idx x6.Kids x86).bind fun x107 =>
    cond (decide (x85 ≥ x9))
    (some (.done x85))
    ((self (Node.mk x107.Kind x107.Name x107.Count x107.Kids) (IntKind.i64.wrap (x9 - x85))).bind fun x119 =>
    some (.go ((IntKind.i64.wrap (x85 + x119)), (IntKind.i64.wrap (x86 + 1))))))
    (some (.done x85))

def tree_size_F (n : Nat) (self : Node → Int → Option Int) : Node → Int → Option Int
  | x6, x9 =>
    (loopN (tree_size_L1 self x6 x9) n (1, 0) : Option Int).bind fun x67 =>
    some (x67)
def tree_size : Nat → Node → Int → Option Int
  | 0 => fun _ _ => none
  | n + 1 => tree_size_F n (tree_size n)

def tree_Size (n : Nat) : Node → Option Int
  | x123 =>
    (tree_size n (Node.mk x123.Kind x123.Name x123.Count x123.Kids) 65).bind fun x131 =>
    some (x131)

def tree_fits (n : Nat) : Node → Option Bool
  | x134 =>
    (cond (x134.Kind == 1)
    (some ((x134.Kind == 1)))
    (some ((x134.Kind == 2))) : Option Bool).bind fun x143 =>
    cond x143
    ((cond (decide (x134.Name ≥ 0))
    (cond (decide (x134.Name < 64))
    (cond (x134.Count == 0)
    (some (((x134.Kids.length : Int) == 0)))
    (some (false)))
    (some (false)))
    (some (false)) : Option Bool).bind fun x146 =>
    some (x146))
    ((cond (x134.Kind == 3)
    (some ((x134.Kind == 3)))
    (some ((x134.Kind == 4))) : Option Bool).bind fun x149 =>
    cond x149
    ((cond (x134.Name == 0)
    (some ((x134.Count == 0)))
    (some (false)) : Option Bool).bind fun x152 =>
    some (x152))
    (cond (x134.Kind == 5)
    ((cond (x134.Name == 0)
    (cond (decide (x134.Count ≥ 1))
    (some ((decide (x134.Count ≤ (x134.Kids.length : Int)))))
    (some (false)))
    (some (false)) : Option Bool).bind fun x155 =>
    some (x155))
    (cond (x134.Kind == 6)
    ((cond (x134.Name == 0)
    (cond (x134.Count == 0)
    (some (((x134.Kids.length : Int) == 1)))
    (some (false)))
    (some (false)) : Option Bool).bind fun x158 =>
    some (x158))
    ((cond (x134.Kind == 7)
    (some ((x134.Kind == 7)))
    (some ((x134.Kind == 8))) : Option Bool).bind fun x161 =>
    cond x161
    ((cond (x134.Name == 0)
    (cond (decide (x134.Count ≥ 1))
    (cond (decide (x134.Count ≤ 1000))
    (some (((x134.Kids.length : Int) == 1)))
    (some (false)))
    (some (false)))
    (some (false)) : Option Bool).bind fun x164 =>
    some (x164))
    (some (false))))))

def tree_valid_L1 (self : (Node → Int → Option Bool)) (x167 : Node) (x170 : Int) : Int → Option (Out Int (Out Unit Bool))
  | x253 =>
    cond (decide (x253 < (x167.Kids.length : Int)))
    ((idx x167.Kids x253).bind fun x273 =>
    (self (Node.mk x273.Kind x273.Name x273.Count x273.Kids) (IntKind.i64.wrap (x170 - 1))).bind fun x284 =>
    cond (!x284)
    (some (.done (.done false)))
    (some (.go (IntKind.i64.wrap (x253 + 1)))))
    (some (.done (.go ())))

def tree_valid_F (n : Nat) (self : Node → Int → Option Bool) : Node → Int → Option Bool
  | x167, x170 =>
    (cond (x170 == 0)
    (some (true))
    ((tree_fits n (Node.mk x167.Kind x167.Name x167.Count x167.Kids)).bind fun x183 =>
    some ((!x183))) : Option Bool).bind fun x179 =>
    cond x179
    (some (false))
    ((loopN (tree_valid_L1 self x167 x170) n 0 : Option (Out Unit Bool)).bind fun y237 => (match y237 with
    | .go _ =>
    some (true)
    | .done r => some r))
def tree_valid : Nat → Node → Int → Option Bool
  | 0 => fun _ _ => none
  | n + 1 => tree_valid_F n (tree_valid n)

def tree_Valid (n : Nat) : Node → Option Bool
  | x289 =>
    ((tree_Size n (Node.mk x289.Kind x289.Name x289.Count x289.Kids)).bind fun x307 =>
    cond (decide (x307 ≤ 64))
    ((tree_valid n (Node.mk x289.Kind x289.Name x289.Count x289.Kids) 16).bind fun x310 =>
    some (x310))
    (some (false)) : Option Bool).bind fun x303 =>
    some (x303)

def tree_New (n : Nat) : Node → Option ((Option Runner) × Int)
  | x384 =>
    (tree_Valid n (Node.mk x384.Kind x384.Name x384.Count x384.Kids)).bind fun x394 =>
    cond (!x394)
    (some ((none, 1)))
    ((tree_Runner_add n (Runner.mk [] [] []) (Node.mk x384.Kind x384.Name x384.Count x384.Kids)).bind fun (x399, x400) =>
    ((mk (x400.nodes.length : Int) 0).bind fun x530 =>
    (mk (x400.nodes.length : Int) false).bind fun x536 =>
    some ((x530, x536)) : Option ((List Int) × (List Bool))).bind fun (x483, x487) =>
    some (((some (Runner.mk x400.nodes x483 x487)), 0)))

def tree_Runner_chain_L1 (f_tree_Runner_run : (Runner → Int → Tick → Option (Int × Runner × Tick))) (x570 : (List Int)) (x573 : Int) : ((List Node_2) × (List Int) × (List Bool) × (List Int) × (List Bool) × (List Int) × (List Int) × Int) → Option (Out ((List Node_2) × (List Int) × (List Bool) × (List Int) × (List Bool) × (List Int) × (List Int) × Int) (Out ((List Node_2) × (List Int) × (List Bool) × (List Int) × (List Bool) × (List Int) × (List Int)) (Int × Runner × Tick)))
  | (x827, x830, x834, x838, x841, x844, x848, x852) =>
    cond (decide (x852 < (x570.length : Int)))
    ((idx x570 x852).bind fun x920 =>
    (f_tree_Runner_run (Runner.mk x827 x830 x834) x920 (Tick.mk x838 x841 x844 x848)).bind fun (x926, x927, x928) =>
    cond (x926 != x573)
    (some (.done (.done (x926, (Runner.mk x927.nodes x927.counters x927.active), (Tick.mk x928.actions x928.tests x928.status x928.ticked)))))
    (some (.go (x927.nodes, x927.counters, x927.active, x928.actions, x928.tests, x928.status, x928.ticked, (IntKind.i64.wrap (x852 + 1))))))
    (some (.done (.go (x827, x830, x834, x838, x841, x844, x848))))

def tree_Runner_chain (n : Nat) (f_tree_Runner_run : (Runner → Int → Tick → Option (Int × Runner × Tick))) : Runner → (List Int) → Int → Tick → Option (Int × Runner × Tick)
  | x566, x570, x573, x574 =>
    (loopN (tree_Runner_chain_L1 f_tree_Runner_run x570 x573) n (x566.nodes, x566.counters, x566.active, x574.actions, x574.tests, x574.status, x574.ticked, 0) : Option (Out ((List Node_2) × (List Int) × (List Bool) × (List Int) × (List Bool) × (List Int) × (List Int)) (Int × Runner × Tick))).bind fun y790 => (match y790 with
    | .go (x763, x766, x770, x774, x777, x780, x784) =>
    some ((x573, (Runner.mk x763 x766 x770), (Tick.mk x774 x777 x780 x784)))
    | .done r => some r)

def tree_Runner_parallel_L1 (f_tree_Runner_run : (Runner → Int → Tick → Option (Int × Runner × Tick))) (x961 : Node_2) : ((List Node_2) × (List Int) × (List Bool) × (List Int) × (List Bool) × (List Int) × (List Int) × Int × Int × Int) → Option (Out ((List Node_2) × (List Int) × (List Bool) × (List Int) × (List Bool) × (List Int) × (List Int) × Int × Int × Int) (Int × Int × (List Node_2) × (List Int) × (List Bool) × (List Int) × (List Bool) × (List Int) × (List Int)))
  | (x_0, x_1, x_2, x_3, x_4, x_5, x_6, x_7, x_8, x_9) =>
    cond (decide (x_9 < (x961.kids.length : Int)))
    (((idx x961.kids x_9).bind fun x_a =>
    (f_tree_Runner_run (Runner.mk x_0 x_1 x_2) x_a (Tick.mk x_3 x_4 x_5 x_6)).bind fun (x_b, x_c, x_d) =>
    cond (x_b == 2)
    (some ((x_c.nodes, x_c.counters, x_c.active, x_d.actions, x_d.tests, x_d.status, x_d.ticked, (IntKind.i64.wrap (x_7 + 1)), x_8)))
    (cond (x_b == 3)
    (some ((x_c.nodes, x_c.counters, x_c.active, x_d.actions, x_d.tests, x_d.status, x_d.ticked, x_7, (IntKind.i64.wrap (x_8 + 1)))))
    (some ((x_c.nodes, x_c.counters, x_c.active, x_d.actions, x_d.tests, x_d.status, x_d.ticked, x_7, x_8)))) : Option ((List Node_2) × (List Int) × (List Bool) × (List Int) × (List Bool) × (List Int) × (List Int) × Int × Int)).bind fun (x_e, x_f, x_g, x_h, x_i, x_j, x_k, x_l, x_m) =>
    some (.go (x_e, x_f, x_g, x_h, x_i, x_j, x_k, x_l, x_m, (IntKind.i64.wrap (x_9 + 1)))))
    (some (.done (x_7, x_8, x_0, x_1, x_2, x_3, x_4, x_5, x_6)))

def tree_Runner_parallel (n : Nat) (f_tree_Runner_run : (Runner → Int → Tick → Option (Int × Runner × Tick))) : Runner → Node_2 → Tick → Option (Int × Runner × Tick)
  | x957, x961, x964 =>
    (loopN (tree_Runner_parallel_L1 f_tree_Runner_run x961) n (x957.nodes, x957.counters, x957.active, x964.actions, x964.tests, x964.status, x964.ticked, 0, 0, 0) : Option (Int × Int × (List Node_2) × (List Int) × (List Bool) × (List Int) × (List Bool) × (List Int) × (List Int))).bind fun (x_0, x_1, x_2, x_3, x_4, x_5, x_6, x_7, x_8) =>
    cond (decide (x_0 ≥ x961.count))
    (some ((2, (Runner.mk x_2 x_3 x_4), (Tick.mk x_5 x_6 x_7 x_8))))
    (cond (decide (x_1 > (IntKind.i64.wrap ((x961.kids.length : Int) - x961.count))))
    (some ((3, (Runner.mk x_2 x_3 x_4), (Tick.mk x_5 x_6 x_7 x_8))))
    (some ((1, (Runner.mk x_2 x_3 x_4), (Tick.mk x_5 x_6 x_7 x_8)))))

def tree_Runner_decorate (n : Nat) (f_tree_Runner_run : (Runner → Int → Tick → Option (Int × Runner × Tick))) : Runner → Int → Tick → Option (Int × Runner × Tick)
  | x_0, x_1, x_2 =>
    (idx x_0.nodes x_1).bind fun x_3 =>
    (idx x_3.kids 0).bind fun x_4 =>
    (f_tree_Runner_run (Runner.mk x_0.nodes x_0.counters x_0.active) x_4 (Tick.mk x_2.actions x_2.tests x_2.status x_2.ticked)).bind fun (x_5, x_6, x_7) =>
    ((cond (x_3.kind == 6)
    (some ((x_5 != 1)))
    (some (false)) : Option Bool).bind fun x_8 =>
    cond x_8
    (some (.done ((IntKind.i64.wrap (5 - x_5)), (Runner.mk x_6.nodes x_6.counters x_6.active), (Tick.mk x_7.actions x_7.tests x_7.status x_7.ticked))))
    ((cond (x_3.kind == 7)
    (some ((x_5 == 3)))
    (some (false)) : Option Bool).bind fun x_9 =>
    cond x_9
    ((idx x_6.counters x_1).bind fun x_a =>
    (idx x_6.counters x_1).bind fun x_b =>
    (idx (upd x_6.counters x_1 (IntKind.i64.wrap (x_a + 1))) x_1).bind fun x_c =>
    cond (decide (x_c < x_3.count))
    (some (.done (1, (Runner.mk x_6.nodes (upd x_6.counters x_1 (IntKind.i64.wrap (x_a + 1))) x_6.active), (Tick.mk x_7.actions x_7.tests x_7.status x_7.ticked))))
    (some (.go (upd x_6.counters x_1 (IntKind.i64.wrap (x_a + 1))))))
    ((cond (x_3.kind == 8)
    (some ((x_5 == 1)))
    (some (false)) : Option Bool).bind fun x_d =>
    cond x_d
    ((idx x_6.counters x_1).bind fun x_e =>
    (idx x_6.counters x_1).bind fun x_f =>
    (idx (upd x_6.counters x_1 (IntKind.i64.wrap (x_e + 1))) x_1).bind fun x_g =>
    cond (x_g == x_3.count)
    (some (.done (3, (Runner.mk x_6.nodes (upd x_6.counters x_1 (IntKind.i64.wrap (x_e + 1))) x_6.active), (Tick.mk x_7.actions x_7.tests x_7.status x_7.ticked))))
    (some (.go (upd x_6.counters x_1 (IntKind.i64.wrap (x_e + 1))))))
    (some (.go x_6.counters)))) : Option (Out (List Int) (Int × Runner × Tick))).bind fun y_h => (match y_h with
    | .go x_i =>
    some ((x_5, (Runner.mk x_6.nodes x_i x_6.active), (Tick.mk x_7.actions x_7.tests x_7.status x_7.ticked)))
    | .done r => some r)

def tree_Runner_run_F (n : Nat) (self : Runner → Int → Tick → Option (Int × Runner × Tick)) : Runner → Int → Tick → Option (Int × Runner × Tick)
  | x_0, x_1, x_2 =>
    (idx x_0.nodes x_1).bind fun x_3 =>
    (cond (x_3.kind == 1)
    ((app x_2.ticked [x_1]).bind fun x_4 =>
    (cond (decide (x_3.name < (x_2.actions.length : Int)))
    ((idx x_2.actions x_3.name).bind fun x_5 =>
    cond (decide (x_5 ≥ 1))
    ((idx x_2.actions x_3.name).bind fun x_6 =>
    some ((decide (x_6 ≤ 3))))
    (some (false)))
    (some (false)) : Option Bool).bind fun x_7 =>
    cond x_7
    ((idx x_2.actions x_3.name).bind fun x_8 =>
    some ((x_2.actions, x_2.tests, x_2.status, x_4, x_8, x_0.nodes, x_0.counters, x_0.active)))
    (some ((x_2.actions, x_2.tests, x_2.status, x_4, 3, x_0.nodes, x_0.counters, x_0.active))))
    (cond (x_3.kind == 2)
    ((cond (decide (x_3.name < (x_2.tests.length : Int)))
    ((idx x_2.tests x_3.name).bind fun x_9 =>
    some (x_9))
    (some (false)) : Option Bool).bind fun x_a =>
    cond x_a
    (some ((x_2.actions, x_2.tests, x_2.status, x_2.ticked, 2, x_0.nodes, x_0.counters, x_0.active)))
    (some ((x_2.actions, x_2.tests, x_2.status, x_2.ticked, 3, x_0.nodes, x_0.counters, x_0.active))))
    (cond (x_3.kind == 3)
    ((tree_Runner_chain n self (Runner.mk x_0.nodes x_0.counters x_0.active) x_3.kids 2 (Tick.mk x_2.actions x_2.tests x_2.status x_2.ticked)).bind fun (x_b, x_c, x_d) =>
    some ((x_d.actions, x_d.tests, x_d.status, x_d.ticked, x_b, x_c.nodes, x_c.counters, x_c.active)))
    (cond (x_3.kind == 4)
    ((tree_Runner_chain n self (Runner.mk x_0.nodes x_0.counters x_0.active) x_3.kids 3 (Tick.mk x_2.actions x_2.tests x_2.status x_2.ticked)).bind fun (x_e, x_f, x_g) =>
    some ((x_g.actions, x_g.tests, x_g.status, x_g.ticked, x_e, x_f.nodes, x_f.counters, x_f.active)))
    (cond (x_3.kind == 5)
    ((tree_Runner_parallel n self (Runner.mk x_0.nodes x_0.counters x_0.active) (Node_2.mk x_3.kind x_3.name x_3.count x_3.kids) (Tick.mk x_2.actions x_2.tests x_2.status x_2.ticked)).bind fun (x_h, x_i, x_j) =>
    some ((x_j.actions, x_j.tests, x_j.status, x_j.ticked, x_h, x_i.nodes, x_i.counters, x_i.active)))
    ((tree_Runner_decorate n self (Runner.mk x_0.nodes x_0.counters x_0.active) x_1 (Tick.mk x_2.actions x_2.tests x_2.status x_2.ticked)).bind fun (x_k, x_l, x_m) =>
    some ((x_m.actions, x_m.tests, x_m.status, x_m.ticked, x_k, x_l.nodes, x_l.counters, x_l.active))))))) : Option ((List Int) × (List Bool) × (List Int) × (List Int) × Int × (List Node_2) × (List Int) × (List Bool))).bind fun (x_n, x_o, x_p, x_q, x_r, x_s, x_t, x_u) =>
    (idx x_p x_1).bind fun x_v =>
    some ((x_r, (Runner.mk x_s x_t x_u), (Tick.mk x_n x_o (upd x_p x_1 x_r) x_q)))
def tree_Runner_run : Nat → Runner → Int → Tick → Option (Int × Runner × Tick)
  | 0 => fun _ _ _ => none
  | n + 1 => tree_Runner_run_F n (tree_Runner_run n)

def slices_Clonebool_bool_ (n : Nat) : (List Bool) → Option ((List Bool) × (List Bool))
  | x_0 =>
    (app ([] : List Bool) x_0).bind fun x_1 =>
    some ((x_1, x_0))

def tree_Runner_settle_L0 (self : (Runner → Int → Bool → Tick → Option (Runner × Tick))) (x_0 : Bool) (x_1 : Node_2) : ((List Node_2) × (List Int) × (List Bool) × (List Int) × (List Bool) × (List Int) × (List Int) × Int) → Option (Out ((List Node_2) × (List Int) × (List Bool) × (List Int) × (List Bool) × (List Int) × (List Int) × Int) (Runner × Tick))
  | (x_2, x_3, x_4, x_5, x_6, x_7, x_8, x_9) =>
    cond (decide (x_9 < (x_1.kids.length : Int)))
    ((idx x_1.kids x_9).bind fun x_a =>
    (self (Runner.mk x_2 x_3 x_4) x_a x_0 (Tick.mk x_5 x_6 x_7 x_8)).bind fun (x_b, x_c) =>
    some (.go (x_b.nodes, x_b.counters, x_b.active, x_c.actions, x_c.tests, x_c.status, x_c.ticked, (IntKind.i64.wrap (x_9 + 1)))))
    (some (.done ((Runner.mk x_2 x_3 x_4), (Tick.mk x_5 x_6 x_7 x_8))))

def tree_Runner_settle_F (n : Nat) (self : Runner → Int → Bool → Tick → Option (Runner × Tick)) : Runner → Int → Bool → Tick → Option (Runner × Tick)
  | x_0, x_1, x_2, x_3 =>
    (cond x_2
    ((idx x_3.status x_1).bind fun x_4 =>
    some ((x_4 == 1)))
    (some (false)) : Option Bool).bind fun x_5 =>
    (cond (!x_5)
    ((idx x_0.counters x_1).bind fun x_6 =>
    some ((upd x_0.counters x_1 0)))
    (some (x_0.counters)) : Option (List Int)).bind fun x_7 =>
    (cond x_5
    ((idx x_0.nodes x_1).bind fun x_8 =>
    (idx x_0.active x_1).bind fun x_9 =>
    some ((upd x_0.active x_1 (x_8.kind == 1))))
    ((idx x_0.active x_1).bind fun x_a =>
    some ((upd x_0.active x_1 false))) : Option (List Bool)).bind fun x_b =>
    (idx x_0.nodes x_1).bind fun x_c =>
    loopN (tree_Runner_settle_L0 self x_5 x_c) n (x_0.nodes, x_7, x_b, x_3.actions, x_3.tests, x_3.status, x_3.ticked, 0)
def tree_Runner_settle : Nat → Runner → Int → Bool → Tick → Option (Runner × Tick)
  | 0 => fun _ _ _ _ => none
  | n + 1 => tree_Runner_settle_F n (tree_Runner_settle n)

def tree_Runner_Tick_L1 (x_0 : (List Bool)) (x_1 : Runner) (x_2 : Tick) : ((List Int) × Int) → Option (Out ((List Int) × Int) (List Int))
  | (x_3, x_4) =>
    cond (decide (x_4 < (x_1.nodes.length : Int)))
    (((idx x_1.nodes x_4).bind fun x_5 =>
    cond (x_5.kind != 1)
    (some (x_3))
    (((idx x_0 x_4).bind fun x_6 =>
    cond x_6
    ((idx x_2.status x_4).bind fun x_7 =>
    cond (x_7 == 0)
    (some (true))
    ((idx x_2.status x_4).bind fun x_8 =>
    cond (x_8 == 1)
    ((idx x_1.active x_4).bind fun x_9 =>
    some ((!x_9)))
    (some (false))))
    ((idx x_2.status x_4).bind fun x_a =>
    cond (x_a == 1)
    ((idx x_1.active x_4).bind fun x_b =>
    some ((!x_b)))
    (some (false))) : Option Bool).bind fun x_c =>
    cond x_c
    ((app x_3 [x_4]).bind fun x_d =>
    some (x_d))
    (some (x_3))) : Option (List Int)).bind fun x_e =>
    some (.go (x_e, (IntKind.i64.wrap (x_4 + 1)))))
    (some (.done x_3))

def tree_Runner_Tick (n : Nat) : Runner → (List Int) → (List Bool) → Option (Int × (List Int) × (List Int) × Runner)
  | x_0, x_1, x_2 =>
    (mk (x_0.nodes.length : Int) 0).bind fun x_3 =>
    (tree_Runner_run n (Runner.mk x_0.nodes x_0.counters x_0.active) 0 (Tick.mk x_1 x_2 x_3 [])).bind fun (x_4, x_5, x_6) =>
    (slices_Clonebool_bool_ n x_5.active).bind fun (x_7, x_8) =>
    (tree_Runner_settle n (Runner.mk x_5.nodes x_5.counters x_8) 0 true (Tick.mk x_6.actions x_6.tests x_6.status x_6.ticked)).bind fun (x_9, x_a) =>
    (loopN (tree_Runner_Tick_L1 x_7 x_9 x_a) n ([], 0) : Option (List Int)).bind fun x_b =>
    some ((x_4, x_a.ticked, x_b, (Runner.mk x_9.nodes x_9.counters x_9.active)))

def base_Ints_L1 (x_0 : (List Int)) (x_1 : (List Int)) : Int → Option (Out Int (Out Unit Bool))
  | x_2 =>
    cond (decide (x_2 < (x_0.length : Int)))
    ((idx x_0 x_2).bind fun x_3 =>
    (idx x_1 x_2).bind fun x_4 =>
    cond (x_3 != x_4)
    (some (.done (.done false)))
    (some (.go (IntKind.i64.wrap (x_2 + 1)))))
    (some (.done (.go ())))

def base_Ints (n : Nat) : (List Int) → (List Int) → Option Bool
  | x_0, x_1 =>
    cond ((x_0.length : Int) != (x_1.length : Int))
    (some (false))
    ((loopN (base_Ints_L1 x_0 x_1) n 0 : Option (Out Unit Bool)).bind fun y_2 => (match y_2 with
    | .go _ =>
    some (true)
    | .done r => some r))

def tree_Runner_Active_L1 (x_0 : Runner) : ((List Int) × Int) → Option (Out ((List Int) × Int) (List Int))
  | (x_1, x_2) =>
    cond (decide (x_2 < (x_0.active.length : Int)))
    (((idx x_0.active x_2).bind fun x_3 =>
    cond x_3
    ((app x_1 [x_2]).bind fun x_4 =>
    some (x_4))
    (some (x_1)) : Option (List Int)).bind fun x_5 =>
    some (.go (x_5, (IntKind.i64.wrap (x_2 + 1)))))
    (some (.done x_1))

def tree_Runner_Active (n : Nat) : Runner → Option ((List Int) × Runner)
  | x_0 =>
    (loopN (tree_Runner_Active_L1 x_0) n ([], 0) : Option (List Int)).bind fun x_1 =>
    some ((x_1, (Runner.mk x_0.nodes x_0.counters x_0.active)))

def law41_awake (n : Nat) : Option Bool :=
    (law41_action n 0).bind fun x_0 =>
    (law41_action n 1).bind fun x_1 =>
    (tree_New n (Node.mk 3 0 0 [x_0, x_1])).bind fun (x_2, x_3) =>
    (match x_2 with
    | none => (none)
    | some x_4 => ((tree_Runner_Tick n (Runner.mk x_4.nodes x_4.counters x_4.active) [2, 1] []).bind fun (x_5, x_6, x_7, x_8) =>
    (cond (x_3 == 0)
    (cond (x_5 == 1)
    ((base_Ints n x_6 [1, 2]).bind fun x_9 =>
    cond x_9
    (cond ((x_7.length : Int) == 0)
    ((tree_Runner_Active n (Runner.mk x_8.nodes x_8.counters x_8.active)).bind fun (x_a, x_b) =>
    (base_Ints n x_a [2]).bind fun x_c =>
    some (x_c))
    (some (false)))
    (some (false)))
    (some (false)))
    (some (false)) : Option Bool).bind fun x_d =>
    some (x_d)))

def ref41_size_L1 (self : (Node → Int → Option Int)) (x_0 : Node) (x_1 : Int) : (Int × Int) → Option (Out (Int × Int) Int)
  | (x_2, x_3) =>
    (cond (decide (x_3 < (x_0.Kids.length : Int)))
    (some ((decide (x_2 < x_1))))
    (some (false)) : Option Bool).bind fun x_4 =>
    cond x_4
    ((idx x_0.Kids x_3).bind fun x_5 =>
    (self (Node.mk x_5.Kind x_5.Name x_5.Count x_5.Kids) (IntKind.i64.wrap (x_1 - x_2))).bind fun x_6 =>
    some (.go ((IntKind.i64.wrap (x_2 + x_6)), (IntKind.i64.wrap (x_3 + 1)))))
    (some (.done x_2))

def ref41_size_F (n : Nat) (self : Node → Int → Option Int) : Node → Int → Option Int
  | x_0, x_1 =>
    (loopN (ref41_size_L1 self x_0 x_1) n (1, 0) : Option Int).bind fun x_2 =>
    some (x_2)
def ref41_size : Nat → Node → Int → Option Int
  | 0 => fun _ _ => none
  | n + 1 => ref41_size_F n (ref41_size n)

def ref41_Size (n : Nat) : Node → Option Int
  | x_0 =>
    (ref41_size n (Node.mk x_0.Kind x_0.Name x_0.Count x_0.Kids) 65).bind fun x_1 =>
    some (x_1)

def law41_few (n : Nat) : Node → Option Bool
  | x_0 =>
    (ref41_Size n (Node.mk x_0.Kind x_0.Name x_0.Count x_0.Kids)).bind fun x_1 =>
    some ((decide (x_1 ≤ 64)))

def tree_letter (n : Nat) : Int → Option Int
  | x_0 =>
    (bidx (ByteArray.mk #[32, 97, 116, 115, 102, 112, 105, 114, 111]) x_0).bind fun x_1 =>
    some (x_1)

def strings_Builder_WriteByte (n : Nat) : Builder → Int → Option (Unit × Builder)
  | x_0, x_1 =>
    (strings_Builder_copyCheck n (Builder.mk () x_0.buf)).bind fun x_2 =>
    (app x_2.buf [x_1]).bind fun x_3 =>
    some (((), (Builder.mk () x_3)))

def strings_Builder_WriteString (n : Nat) : Builder → ByteArray → Option (Int × Unit × Builder)
  | x_0, x_1 =>
    (strings_Builder_copyCheck n (Builder.mk () x_0.buf)).bind fun x_2 =>
    (app x_2.buf (strNums x_1)).bind fun x_3 =>
    some (((x_1.size : Int), (), (Builder.mk () x_3)))

def tree_write_L1 (n : Nat) (self : (Builder → Node → Option Builder)) (x_0 : Node) : ((List Int) × Int) → Option (Out ((List Int) × Int) (List Int))
  | (x_1, x_2) =>
    cond (decide (x_2 < (x_0.Kids.length : Int)))
    ((idx x_0.Kids x_2).bind fun x_3 =>
    (strings_Builder_WriteByte n (Builder.mk () x_1) 32).bind fun (x_4, x_5) =>
    (self (Builder.mk () x_5.buf) (Node.mk x_3.Kind x_3.Name x_3.Count x_3.Kids)).bind fun x_6 =>
    some (.go (x_6.buf, (IntKind.i64.wrap (x_2 + 1)))))
    (some (.done x_1))

def tree_write_F (n : Nat) (self : Builder → Node → Option Builder) : Builder → Node → Option Builder
  | x_0, x_1 =>
    (cond (x_1.Kind == 1)
    (some (true))
    (some ((x_1.Kind == 2))) : Option Bool).bind fun x_2 =>
    cond x_2
    ((tree_letter n x_1.Kind).bind fun x_3 =>
    (strings_Builder_WriteByte n (Builder.mk () x_0.buf) x_3).bind fun (x_4, x_5) =>
    (strconv_Itoa n x_1.Name).bind fun x_6 =>
    (strings_Builder_WriteString n (Builder.mk () x_5.buf) x_6).bind fun (x_7, x_8, x_9) =>
    some ((Builder.mk () x_9.buf)))
    ((strings_Builder_WriteByte n (Builder.mk () x_0.buf) 40).bind fun (x_a, x_b) =>
    (tree_letter n x_1.Kind).bind fun x_c =>
    (strings_Builder_WriteByte n (Builder.mk () x_b.buf) x_c).bind fun (x_d, x_e) =>
    (cond (decide (x_1.Count > 0))
    ((strconv_Itoa n x_1.Count).bind fun x_f =>
    (strings_Builder_WriteString n (Builder.mk () x_e.buf) x_f).bind fun (x_g, x_h, x_i) =>
    some (x_i.buf))
    (some (x_e.buf)) : Option (List Int)).bind fun x_j =>
    (loopN (tree_write_L1 n self x_1) n (x_j, 0) : Option (List Int)).bind fun x_k =>
    (strings_Builder_WriteByte n (Builder.mk () x_k) 41).bind fun (x_l, x_m) =>
    some ((Builder.mk () x_m.buf)))
def tree_write : Nat → Builder → Node → Option Builder
  | 0 => fun _ _ => none
  | n + 1 => tree_write_F n (tree_write n)

def tree_Text (n : Nat) (t : Node) : Option ByteArray := (tree_Valid n t).bind fun ok => cond ok ((tree_write n (Builder.mk () []) t).bind fun b => strO b.buf) (some ByteArray.empty)

def ref41_between (n : Nat) : Int → Int → Int → Option Bool
  | x_0, x_1, x_2 =>
    (cond (decide (x_0 ≥ x_1))
    (some ((decide (x_0 ≤ x_2))))
    (some (false)) : Option Bool).bind fun x_3 =>
    some (x_3)

def ref41_single (n : Nat) : Node → Option Bool
  | x_0 =>
    (cond (x_0.Kind == 1)
    (some ((x_0.Kind == 1)))
    (some ((x_0.Kind == 2))) : Option Bool).bind fun x_1 =>
    cond x_1
    ((cond ((x_0.Kids.length : Int) == 0)
    ((ref41_between n x_0.Name 0 63).bind fun x_2 =>
    cond x_2
    (some ((x_0.Count == 0)))
    (some (false)))
    (some (false)) : Option Bool).bind fun x_3 =>
    some (x_3))
    ((cond (x_0.Kind == 3)
    (some ((x_0.Kind == 3)))
    (some ((x_0.Kind == 4))) : Option Bool).bind fun x_4 =>
    cond x_4
    ((cond (x_0.Name == 0)
    (some ((x_0.Count == 0)))
    (some (false)) : Option Bool).bind fun x_5 =>
    some (x_5))
    (cond (x_0.Kind == 5)
    ((cond (decide ((x_0.Kids.length : Int) ≥ 1))
    (cond (x_0.Name == 0)
    ((ref41_between n x_0.Count 1 (x_0.Kids.length : Int)).bind fun x_6 =>
    some (x_6))
    (some (false)))
    (some (false)) : Option Bool).bind fun x_7 =>
    some (x_7))
    (cond (x_0.Kind == 6)
    ((cond ((x_0.Kids.length : Int) == 1)
    (cond (x_0.Name == 0)
    (some ((x_0.Count == 0)))
    (some (false)))
    (some (false)) : Option Bool).bind fun x_8 =>
    some (x_8))
    ((cond (x_0.Kind == 7)
    (some ((x_0.Kind == 7)))
    (some ((x_0.Kind == 8))) : Option Bool).bind fun x_9 =>
    cond x_9
    ((cond ((x_0.Kids.length : Int) == 1)
    (cond (x_0.Name == 0)
    ((ref41_between n x_0.Count 1 1000).bind fun x_a =>
    some (x_a))
    (some (false)))
    (some (false)) : Option Bool).bind fun x_b =>
    some (x_b))
    (some (false))))))

def ref41_valid_L1 (self : (Node → Int → Option Bool)) (x_0 : Node) (x_1 : Int) : Int → Option (Out Int (Out Unit Bool))
  | x_2 =>
    cond (decide (x_2 < (x_0.Kids.length : Int)))
    ((idx x_0.Kids x_2).bind fun x_3 =>
    (self (Node.mk x_3.Kind x_3.Name x_3.Count x_3.Kids) (IntKind.i64.wrap (x_1 - 1))).bind fun x_4 =>
    cond (!x_4)
    (some (.done (.done false)))
    (some (.go (IntKind.i64.wrap (x_2 + 1)))))
    (some (.done (.go ())))

def ref41_valid_F (n : Nat) (self : Node → Int → Option Bool) : Node → Int → Option Bool
  | x_0, x_1 =>
    (cond (x_1 == 0)
    (some (true))
    ((ref41_single n (Node.mk x_0.Kind x_0.Name x_0.Count x_0.Kids)).bind fun x_2 =>
    some ((!x_2))) : Option Bool).bind fun x_3 =>
    cond x_3
    (some (false))
    ((loopN (ref41_valid_L1 self x_0 x_1) n 0 : Option (Out Unit Bool)).bind fun y_4 => (match y_4 with
    | .go _ =>
    some (true)
    | .done r => some r))
def ref41_valid : Nat → Node → Int → Option Bool
  | 0 => fun _ _ => none
  | n + 1 => ref41_valid_F n (ref41_valid n)

def ref41_Valid (n : Nat) : Node → Option Bool
  | x_0 =>
    ((ref41_Size n (Node.mk x_0.Kind x_0.Name x_0.Count x_0.Kids)).bind fun x_1 =>
    cond (decide (x_1 ≤ 64))
    ((ref41_valid n (Node.mk x_0.Kind x_0.Name x_0.Count x_0.Kids) 16).bind fun x_2 =>
    some (x_2))
    (some (false)) : Option Bool).bind fun x_3 =>
    some (x_3)

def ref41_Number_F (n : Nat) (self : Int → Option ByteArray) : Int → Option ByteArray
  | x_0 =>
    cond (decide (x_0 < 10))
    (some ((strOfNums [(IntKind.u8.wrap (IntKind.i64.wrap (48 + (x_0.tmod 10))))])))
    ((self (IntKind.i64.wrap (x_0.tdiv 10))).bind fun x_1 =>
    (need (decide (x_1.size + (strOfNums [(IntKind.u8.wrap (IntKind.i64.wrap (48 + (x_0.tmod 10))))]).size ≤ 9223372036854775807))).bind fun _ =>
    some ((x_1 ++ (strOfNums [(IntKind.u8.wrap (IntKind.i64.wrap (48 + (x_0.tmod 10))))]))))
def ref41_Number : Nat → Int → Option ByteArray
  | 0 => fun _ => none
  | n + 1 => ref41_Number_F n (ref41_Number n)

def ref41_text_L1 (self : (Node → Option ByteArray)) (x_0 : Node) : (ByteArray × Int) → Option (Out (ByteArray × Int) ByteArray)
  | (x_1, x_2) =>
    cond (decide (x_2 < (x_0.Kids.length : Int)))
    ((idx x_0.Kids x_2).bind fun x_3 =>
    (self (Node.mk x_3.Kind x_3.Name x_3.Count x_3.Kids)).bind fun x_4 =>
    (need (decide ((ByteArray.mk #[32]).size + x_4.size ≤ 9223372036854775807))).bind fun _ =>
    (need (decide (x_1.size + ((ByteArray.mk #[32]) ++ x_4).size ≤ 9223372036854775807))).bind fun _ =>
    some (.go ((x_1 ++ ((ByteArray.mk #[32]) ++ x_4)), (IntKind.i64.wrap (x_2 + 1)))))
    (some (.done x_1))

def ref41_text_F (n : Nat) (self : Node → Option ByteArray) : Node → Option ByteArray
  | x_0 =>
    cond (x_0.Kind == 1)
    ((ref41_Number n x_0.Name).bind fun x_1 =>
    (need (decide ((ByteArray.mk #[97]).size + x_1.size ≤ 9223372036854775807))).bind fun _ =>
    some (((ByteArray.mk #[97]) ++ x_1)))
    (cond (x_0.Kind == 2)
    ((ref41_Number n x_0.Name).bind fun x_2 =>
    (need (decide ((ByteArray.mk #[116]).size + x_2.size ≤ 9223372036854775807))).bind fun _ =>
    some (((ByteArray.mk #[116]) ++ x_2)))
    ((bidx (ByteArray.mk #[32, 32, 32, 115, 102, 112, 105, 114, 111]) x_0.Kind).bind fun x_3 =>
    (need (decide ((ByteArray.mk #[40]).size + (strOfNums [x_3]).size ≤ 9223372036854775807))).bind fun _ =>
    (cond (decide (x_0.Count > 0))
    ((ref41_Number n x_0.Count).bind fun x_4 =>
    (need (decide (((ByteArray.mk #[40]) ++ (strOfNums [x_3])).size + x_4.size ≤ 9223372036854775807))).bind fun _ =>
    some ((((ByteArray.mk #[40]) ++ (strOfNums [x_3])) ++ x_4)))
    (some (((ByteArray.mk #[40]) ++ (strOfNums [x_3])))) : Option ByteArray).bind fun x_5 =>
    (loopN (ref41_text_L1 self x_0) n (x_5, 0) : Option ByteArray).bind fun x_6 =>
    (need (decide (x_6.size + (ByteArray.mk #[41]).size ≤ 9223372036854775807))).bind fun _ =>
    some ((x_6 ++ (ByteArray.mk #[41])))))
def ref41_text : Nat → Node → Option ByteArray
  | 0 => fun _ => none
  | n + 1 => ref41_text_F n (ref41_text n)

def ref41_Text (n : Nat) : Node → Option ByteArray
  | x_0 =>
    (ref41_Valid n (Node.mk x_0.Kind x_0.Name x_0.Count x_0.Kids)).bind fun x_1 =>
    cond (!x_1)
    (some ((ByteArray.mk #[])))
    ((ref41_text n (Node.mk x_0.Kind x_0.Name x_0.Count x_0.Kids)).bind fun x_2 =>
    some (x_2))

def tree_parser_take (n : Nat) : Parser → Int → Option (Bool × Parser)
  | x_0, x_1 =>
    (cond (x_0.s.toList == (ByteArray.mk #[]).toList)
    (some (true))
    ((bidx x_0.s 0).bind fun x_2 =>
    some ((x_2 != x_1))) : Option Bool).bind fun x_3 =>
    cond x_3
    (some ((false, (Parser.mk x_0.s x_0.nodes))))
    ((scut x_0.s 1 (x_0.s.size : Int)).bind fun x_4 =>
    some ((true, (Parser.mk x_4 x_0.nodes))))

def tree_parser_number_L1 (x_0 : Parser) : Int → Option (Out Int Int)
  | x_1 =>
    (cond (decide (x_1 < (x_0.s.size : Int)))
    ((bidx x_0.s x_1).bind fun x_2 =>
    cond (decide (x_2 ≥ 48))
    ((bidx x_0.s x_1).bind fun x_3 =>
    some ((decide (x_3 ≤ 57))))
    (some (false)))
    (some (false)) : Option Bool).bind fun x_4 =>
    cond x_4
    (some (.go (IntKind.i64.wrap (x_1 + 1))))
    (some (.done x_1))

def tree_parser_number (n : Nat) : Parser → Option (Int × Bool × Parser)
  | x_0 =>
    (loopN (tree_parser_number_L1 x_0) n 0 : Option Int).bind fun x_1 =>
    (cond (x_1 == 0)
    (some (true))
    (cond (decide (x_1 > 4))
    (some (true))
    ((bidx x_0.s 0).bind fun x_2 =>
    cond (x_2 == 48)
    (some ((decide (x_1 > 1))))
    (some (false)))) : Option Bool).bind fun x_3 =>
    cond x_3
    (some ((0, false, (Parser.mk x_0.s x_0.nodes))))
    ((scut x_0.s 0 x_1).bind fun x_4 =>
    (strconv_Atoi n x_4).bind fun (x_5, x_6) =>
    (scut x_0.s x_1 (x_0.s.size : Int)).bind fun x_7 =>
    some ((x_5, true, (Parser.mk x_7 x_0.nodes))))

def tree_parser_node_L1 (n : Nat) (self : (Parser → Int → Option (Node × Bool × Parser))) (x_0 : Int) (x_1 : Bool) : (ByteArray × Int × (List Node) × Bool) → Option (Out (ByteArray × Int × (List Node) × Bool) (ByteArray × Int × (List Node) × Bool))
  | (x_2, x_3, x_4, x_5) =>
    (cond x_5
    (cond x_1
    ((tree_parser_take n (Parser.mk x_2 x_3) 32).bind fun (x_6, x_7) =>
    some ((x_7.s, x_7.nodes, x_6)))
    (some ((x_2, x_3, false))))
    (some ((x_2, x_3, false))) : Option (ByteArray × Int × Bool)).bind fun (x_8, x_9, x_a) =>
    cond x_a
    ((self (Parser.mk x_8 x_9) (IntKind.i64.wrap (x_0 - 1))).bind fun (x_b, x_c, x_d) =>
    cond x_c
    ((app x_4 [(Node.mk x_b.Kind x_b.Name x_b.Count x_b.Kids)]).bind fun x_e =>
    some (.go (x_d.s, x_d.nodes, x_e, x_c)))
    (some (.go (x_d.s, x_d.nodes, x_4, x_c))))
    (some (.done (x_8, x_9, x_4, x_5)))

def tree_parser_node_F (n : Nat) (self : Parser → Int → Option (Node × Bool × Parser)) : Parser → Int → Option (Node × Bool × Parser)
  | x_0, x_1 =>
    (cond (x_1 == 0)
    (some (true))
    (cond (decide ((IntKind.i64.wrap (x_0.nodes + 1)) > 64))
    (some (true))
    (some ((x_0.s.toList == (ByteArray.mk #[]).toList)))) : Option Bool).bind fun x_2 =>
    cond x_2
    (some (((Node.mk 0 0 0 []), false, (Parser.mk x_0.s (IntKind.i64.wrap (x_0.nodes + 1))))))
    ((tree_parser_take n (Parser.mk x_0.s (IntKind.i64.wrap (x_0.nodes + 1))) 40).bind fun (x_3, x_4) =>
    cond (x_4.s.toList == (ByteArray.mk #[]).toList)
    (some (((Node.mk 0 0 0 []), false, (Parser.mk x_4.s x_4.nodes))))
    ((bidx x_4.s 0).bind fun x_5 =>
    (strings_IndexByte n (ByteArray.mk #[32, 97, 116, 115, 102, 112, 105, 114, 111]) x_5).bind fun x_6 =>
    (scut x_4.s 1 (x_4.s.size : Int)).bind fun x_7 =>
    (cond (decide (x_6 < 1))
    (some (true))
    (some ((!(x_3 == (decide (x_6 ≥ 3)))))) : Option Bool).bind fun x_8 =>
    cond x_8
    (some (((Node.mk 0 0 0 []), false, (Parser.mk x_7 x_4.nodes))))
    (((cond (x_6 == 1)
    (some ((x_6 == 1)))
    (some ((x_6 == 2))) : Option Bool).bind fun x_9 =>
    cond x_9
    ((tree_parser_number n (Parser.mk x_7 x_4.nodes)).bind fun (x_a, x_b, x_c) =>
    some ((x_c.s, x_c.nodes, x_a, 0, x_b)))
    ((cond (x_6 == 5)
    (some ((x_6 == 5)))
    (cond (x_6 == 7)
    (some ((x_6 == 7)))
    (some ((x_6 == 8)))) : Option Bool).bind fun x_d =>
    cond x_d
    ((tree_parser_number n (Parser.mk x_7 x_4.nodes)).bind fun (x_e, x_f, x_g) =>
    some ((x_g.s, x_g.nodes, 0, x_e, x_f)))
    (some ((x_7, x_4.nodes, 0, 0, true)))) : Option (ByteArray × Int × Int × Int × Bool)).bind fun (x_h, x_i, x_j, x_k, x_l) =>
    (loopN (tree_parser_node_L1 n self x_1 x_3) n (x_h, x_i, [], x_l) : Option (ByteArray × Int × (List Node) × Bool)).bind fun (x_m, x_n, x_o, x_p) =>
    (cond x_p
    (cond (!x_3)
    (some ((x_6, x_j, x_k, x_o, true, x_m, x_n)))
    ((tree_parser_take n (Parser.mk x_m x_n) 41).bind fun (x_q, x_r) =>
    some ((x_6, x_j, x_k, x_o, x_q, x_r.s, x_r.nodes))))
    (some ((x_6, x_j, x_k, x_o, false, x_m, x_n))) : Option (Int × Int × Int × (List Node) × Bool × ByteArray × Int)).bind fun (x_s, x_t, x_u, x_v, x_w, x_x, x_y) =>
    some (((Node.mk x_s x_t x_u x_v), x_w, (Parser.mk x_x x_y))))))
def tree_parser_node : Nat → Parser → Int → Option (Node × Bool × Parser)
  | 0 => fun _ _ => none
  | n + 1 => tree_parser_node_F n (tree_parser_node n)

def tree_Parse (n : Nat) : ByteArray → Option (Node × Int)
  | x_0 =>
    cond (decide ((x_0.size : Int) > 4000))
    (some (((Node.mk 0 0 0 []), 6)))
    ((tree_parser_node n (Parser.mk x_0 0) 16).bind fun (x_1, x_2, x_3) =>
    (cond (!x_2)
    (some (true))
    (cond (!(x_3.s.toList == (ByteArray.mk #[]).toList))
    (some (true))
    ((tree_Valid n (Node.mk x_1.Kind x_1.Name x_1.Count x_1.Kids)).bind fun x_4 =>
    some ((!x_4)))) : Option Bool).bind fun x_5 =>
    cond x_5
    (some (((Node.mk 0 0 0 []), 3)))
    (some (((Node.mk x_1.Kind x_1.Name x_1.Count x_1.Kids), 0))))

def ref41_Same_L1 (self : (Node → Node → Option Bool)) (x_0 : Node) (x_1 : Node) : Int → Option (Out Int (Out Unit Bool))
  | x_2 =>
    cond (decide (x_2 < (x_0.Kids.length : Int)))
    ((idx x_0.Kids x_2).bind fun x_3 =>
    (idx x_1.Kids x_2).bind fun x_4 =>
    (self (Node.mk x_3.Kind x_3.Name x_3.Count x_3.Kids) (Node.mk x_4.Kind x_4.Name x_4.Count x_4.Kids)).bind fun x_5 =>
    cond (!x_5)
    (some (.done (.done false)))
    (some (.go (IntKind.i64.wrap (x_2 + 1)))))
    (some (.done (.go ())))

def ref41_Same_F (n : Nat) (self : Node → Node → Option Bool) : Node → Node → Option Bool
  | x_0, x_1 =>
    (cond (x_0.Kind != x_1.Kind)
    (some (true))
    (cond (x_0.Name != x_1.Name)
    (some (true))
    (cond (x_0.Count != x_1.Count)
    (some (true))
    (some (((x_0.Kids.length : Int) != (x_1.Kids.length : Int)))))) : Option Bool).bind fun x_2 =>
    cond x_2
    (some (false))
    ((loopN (ref41_Same_L1 self x_0 x_1) n 0 : Option (Out Unit Bool)).bind fun y_3 => (match y_3 with
    | .go _ =>
    some (true)
    | .done r => some r))
def ref41_Same : Nat → Node → Node → Option Bool
  | 0 => fun _ _ => none
  | n + 1 => ref41_Same_F n (ref41_Same n)

def ref41_number_L1 (x_0 : ByteArray) : (Int × Int) → Option (Out (Int × Int) (Int × Int))
  | (x_1, x_2) =>
    (cond (decide (x_1 < (x_0.size : Int)))
    ((bidx x_0 x_1).bind fun x_3 =>
    cond (decide (x_3 ≥ 48))
    ((bidx x_0 x_1).bind fun x_4 =>
    some ((decide (x_4 ≤ 57))))
    (some (false)))
    (some (false)) : Option Bool).bind fun x_5 =>
    cond x_5
    ((bidx x_0 x_1).bind fun x_6 =>
    some (.go ((IntKind.i64.wrap (x_1 + 1)), (if 100000 < (IntKind.i64.wrap ((IntKind.i64.wrap (10 * x_2)) + (IntKind.i64.wrap (IntKind.u8.wrap (x_6 - 48))))) then 100000 else (IntKind.i64.wrap ((IntKind.i64.wrap (10 * x_2)) + (IntKind.i64.wrap (IntKind.u8.wrap (x_6 - 48)))))))))
    (some (.done (x_1, x_2)))

def ref41_number (n : Nat) : ByteArray → Int → Option (Int × Int)
  | x_0, x_1 =>
    (loopN (ref41_number_L1 x_0) n (x_1, 0) : Option (Int × Int)).bind fun (x_2, x_3) =>
    some ((x_3, x_2))

def ref41_kind_L1 (x_0 : Int) : Int → Option (Out Int (Out Unit Int))
  | x_1 =>
    cond (decide (x_1 < 9))
    ((bidx (ByteArray.mk #[32, 32, 32, 115, 102, 112, 105, 114, 111]) x_1).bind fun x_2 =>
    cond (x_2 == x_0)
    (some (.done (.done x_1)))
    (some (.go (IntKind.i64.wrap (x_1 + 1)))))
    (some (.done (.go ())))

def ref41_kind (n : Nat) : Int → Option Int
  | x_0 =>
    (loopN (ref41_kind_L1 x_0) n 3 : Option (Out Unit Int)).bind fun y_1 => (match y_1 with
    | .go _ =>
    some (0)
    | .done r => some r)

def ref41_read_L1 (self : (ByteArray → Int → Option (Node × Int × Bool))) (x_0 : ByteArray) : (Int × (List Node)) → Option (Out (Int × (List Node)) (Out (Int × (List Node)) (Node × Int × Bool)))
  | (x_1, x_2) =>
    (cond (decide (x_1 < (x_0.size : Int)))
    ((bidx x_0 x_1).bind fun x_3 =>
    some ((x_3 == 32)))
    (some (false)) : Option Bool).bind fun x_4 =>
    cond x_4
    ((self x_0 (IntKind.i64.wrap (x_1 + 1))).bind fun (x_5, x_6, x_7) =>
    cond (!x_7)
    (some (.done (.done ((Node.mk 0 0 0 []), x_1, false))))
    ((app x_2 [(Node.mk x_5.Kind x_5.Name x_5.Count x_5.Kids)]).bind fun x_8 =>
    some (.go (x_6, x_8))))
    (some (.done (.go (x_1, x_2))))

def ref41_read_F (n : Nat) (self : ByteArray → Int → Option (Node × Int × Bool)) : ByteArray → Int → Option (Node × Int × Bool)
  | x_0, x_1 =>
    cond (decide (x_1 ≥ (x_0.size : Int)))
    (some (((Node.mk 0 0 0 []), x_1, false)))
    (((bidx x_0 x_1).bind fun x_2 =>
    cond (x_2 == 97)
    (some (true))
    ((bidx x_0 x_1).bind fun x_3 =>
    some ((x_3 == 116))) : Option Bool).bind fun x_4 =>
    cond x_4
    ((ref41_number n x_0 (IntKind.i64.wrap (x_1 + 1))).bind fun (x_5, x_6) =>
    ((bidx x_0 x_1).bind fun x_7 =>
    cond (x_7 == 116)
    (some (2))
    (some (1)) : Option Int).bind fun x_8 =>
    some (((Node.mk x_8 x_5 0 []), x_6, true)))
    (((bidx x_0 x_1).bind fun x_9 =>
    cond (x_9 != 40)
    (some (true))
    (cond (decide ((IntKind.i64.wrap (x_1 + 1)) ≥ (x_0.size : Int)))
    (some (true))
    ((bidx x_0 (IntKind.i64.wrap (x_1 + 1))).bind fun x_a =>
    (ref41_kind n x_a).bind fun x_b =>
    some ((x_b == 0)))) : Option Bool).bind fun x_c =>
    cond x_c
    (some (((Node.mk 0 0 0 []), x_1, false)))
    ((bidx x_0 (IntKind.i64.wrap (x_1 + 1))).bind fun x_d =>
    (ref41_kind n x_d).bind fun x_e =>
    (ref41_number n x_0 (IntKind.i64.wrap (x_1 + 2))).bind fun (x_f, x_g) =>
    (loopN (ref41_read_L1 self x_0) n (x_g, []) : Option (Out (Int × (List Node)) (Node × Int × Bool))).bind fun y_h => (match y_h with
    | .go (x_i, x_j) =>
    (cond (decide (x_i < (x_0.size : Int)))
    ((bidx x_0 x_i).bind fun x_k =>
    some ((x_e, x_f, x_j, (IntKind.i64.wrap (x_i + 1)), (x_k == 41))))
    (some ((x_e, x_f, x_j, (IntKind.i64.wrap (x_i + 1)), false))) : Option (Int × Int × (List Node) × Int × Bool)).bind fun (x_l, x_m, x_n, x_o, x_p) =>
    some (((Node.mk x_l 0 x_m x_n), x_o, x_p))
    | .done r => some r))))
def ref41_read : Nat → ByteArray → Int → Option (Node × Int × Bool)
  | 0 => fun _ _ => none
  | n + 1 => ref41_read_F n (ref41_read n)

def ref41_Parse (n : Nat) : ByteArray → Option (Node × Int)
  | x_0 =>
    cond (decide ((x_0.size : Int) > 4000))
    (some (((Node.mk 0 0 0 []), 6)))
    ((ref41_read n x_0 0).bind fun (x_1, x_2, x_3) =>
    (cond (!x_3)
    (some (true))
    (cond (x_2 != (x_0.size : Int))
    (some (true))
    ((ref41_Text n (Node.mk x_1.Kind x_1.Name x_1.Count x_1.Kids)).bind fun x_4 =>
    some ((!(x_4.toList == x_0.toList))))) : Option Bool).bind fun x_5 =>
    cond x_5
    (some (((Node.mk 0 0 0 []), 3)))
    (some (((Node.mk x_1.Kind x_1.Name x_1.Count x_1.Kids), 0))))

def law41_TreeParses (n : Nat) : ByteArray → Option Bool
  | x_0 =>
    ((law41_awake n ).bind fun x_1 =>
    cond (!x_1)
    (some (true))
    (some ((decide ((x_0.size : Int) > 5000)))) : Option Bool).bind fun x_2 =>
    cond x_2
    ((law41_awake n ).bind fun x_3 =>
    some (x_3))
    ((tree_Parse n x_0).bind fun (x_4, x_5) =>
    (ref41_Parse n x_0).bind fun (x_6, x_7) =>
    (cond (x_5 == x_7)
    ((law41_few n (Node.mk x_4.Kind x_4.Name x_4.Count x_4.Kids)).bind fun x_8 =>
    cond x_8
    ((ref41_Same n (Node.mk x_4.Kind x_4.Name x_4.Count x_4.Kids) (Node.mk x_6.Kind x_6.Name x_6.Count x_6.Kids)).bind fun x_9 =>
    cond x_9
    (cond (x_5 != 0)
    (some (true))
    ((tree_Text n (Node.mk x_4.Kind x_4.Name x_4.Count x_4.Kids)).bind fun x_a =>
    some ((x_a.toList == x_0.toList))))
    (some (false)))
    (some (false)))
    (some (false)) : Option Bool).bind fun x_b =>
    some (x_b))

end Go.Proofs.YtknnmbcaoekgmaaDoor
