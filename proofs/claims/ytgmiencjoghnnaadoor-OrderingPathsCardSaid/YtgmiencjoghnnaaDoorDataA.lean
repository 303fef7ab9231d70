/-
  What the functions of the program compute, as plain Lean functions.
-/
import Derived.Test.YtgmiencjoghnnaaDoorCoreA
namespace Go.Proofs.YtgmiencjoghnnaaDoor
open Go Go.Proofs.YtgmiencjoghnnaaDoor.Gw Go.RowKit
set_option linter.unusedVariables false
def tab64 : List Int := [0, 1, 56, 2, 57, 49, 28, 3, 61, 58, 42, 50, 38, 29, 17, 4, 62, 47, 59, 36, 45, 43, 51, 22, 53, 39, 33, 30, 24, 18, 12, 5, 63, 55, 48, 27, 60, 41, 37, 16, 46, 35, 44, 21, 52, 32, 23, 11, 54, 26, 40, 15, 34, 20, 31, 10, 25, 14, 19, 9, 13, 8, 7, 6]
structure Pair where
  A : Int
  B : Int
structure Graph where
  N : Int
  E : (List Pair)
def okPair (x : Pair) : Prop := inK .i64 x.A ∧ inK .i64 x.B
def okGraph (x : Graph) : Prop := inK .i64 x.N ∧ (x.E.length ≤ maxLen ∧ ∀ yxE ∈ x.E, okPair yxE)
def ordering_Valid_L1 (x1 : Int) (x2 : (List Pair)) : Int → Option (Out Int (Out Unit Bool))
  | x260 =>
    cond (decide (x260 < (x2.length : Int)))
    ((idx x2 x260).bind fun x326 =>
    (cond (decide (x326.A < 0))
    (some (true))
    (cond (decide (x326.A ≥ x326.B))
    (some (true))
    (some ((decide (x326.B ≥ x1))))) : Option Bool).bind fun x335 =>
    cond x335
    (some (.done (.done false)))
    ((cond (decide (x260 > 0))
    ((idx x2 (IntKind.i64.wrap (x260 - 1))).bind fun x365 =>
    cond (decide (x365.A > x326.A))
    (some (true))
    ((idx x2 (IntKind.i64.wrap (x260 - 1))).bind fun x372 =>
    cond (x372.A == x326.A)
    ((idx x2 (IntKind.i64.wrap (x260 - 1))).bind fun x378 =>
    some ((decide (x378.B ≥ x326.B))))
    (some (false))))
    (some (false)) : Option Bool).bind fun x361 =>
    cond x361
    (some (.done (.done false)))
    (some (.go (IntKind.i64.wrap (x260 + 1))))))
    (some (.done (.go ())))

def ordering_Valid (n : Nat) : Int → (List Pair) → Option Bool
  | x1, x2 =>
    (cond (decide (x1 < 0))
    (some (true))
    (some ((decide (x1 > 64)))) : Option Bool).bind fun x5 =>
    cond x5
    (some (false))
    ((loopN (ordering_Valid_L1 x1 x2) n 0 : Option (Out Unit Bool)).bind fun y198 => (match y198 with
    | .go _ =>
    some (true)
    | .done r => some r))

def ordering_build_L1 (x390 : (List Pair)) : ((List Int) × Int) → Option (Out ((List Int) × Int) (List Int))
  | (x643, x647) =>
    cond (decide (x647 < (x390.length : Int)))
    ((idx x390 x647).bind fun x712 =>
    (idx x643 x712.A).bind fun x722 =>
    (need (decide (0 ≤ x712.B))).bind fun _ =>
    (idx x643 x712.A).bind fun x731 =>
    (idx (upd x643 x712.A (ib .or .u64 x722 (IntKind.u64.wrap ((1 : Int) * 2 ^ min x712.B.toNat (IntKind.u64).bits)))) x712.B).bind fun x745 =>
    (need (decide (0 ≤ x712.A))).bind fun _ =>
    (idx (upd x643 x712.A (ib .or .u64 x722 (IntKind.u64.wrap ((1 : Int) * 2 ^ min x712.B.toNat (IntKind.u64).bits)))) x712.B).bind fun x754 =>
    some (.go ((upd (upd x643 x712.A (ib .or .u64 x722 (IntKind.u64.wrap ((1 : Int) * 2 ^ min x712.B.toNat (IntKind.u64).bits)))) x712.B (ib .or .u64 x745 (IntKind.u64.wrap ((1 : Int) * 2 ^ min x712.A.toNat (IntKind.u64).bits)))), (IntKind.i64.wrap (x647 + 1)))))
    (some (.done x643))

def ordering_build (n : Nat) : Int → (List Pair) → Option (List Int)
  | x389, x390 =>
    (mk x389 0).bind fun x395 =>
    (loopN (ordering_build_L1 x390) n (x395, 0) : Option (List Int)).bind fun x581 =>
    some (x581)

def ordering_all (n : Nat) : Int → Option Int
  | x768 =>
    cond (x768 == 64)
    (some (18446744073709551615))
    ((need (decide (0 ≤ x768))).bind fun _ =>
    some ((IntKind.u64.wrap ((IntKind.u64.wrap ((1 : Int) * 2 ^ min x768.toNat (IntKind.u64).bits)) - 1))))

def bits_TrailingZeros64 (n : Nat) : Int → Option Int
  | x770 =>
    cond (x770 == 0)
    (some (64))
    ((idx tab64 ((IntKind.u64.wrap ((ib .and .u64 x770 (IntKind.u64.wrap (0 - x770))) * 285870213051353865)).fdiv (2 ^ min (58 : Int).toNat (IntKind.u64).bits))).bind fun x771 =>
    some ((IntKind.i64.wrap x771)))

def bits_OnesCount64 (n : Nat) : Int → Option Int
  | x773 =>
    some ((ib .and .i64 (IntKind.i64.wrap (IntKind.u64.wrap ((IntKind.u64.wrap ((IntKind.u64.wrap ((ib .and .u64 (IntKind.u64.wrap (((IntKind.u64.wrap ((ib .and .u64 ((IntKind.u64.wrap ((ib .and .u64 (x773.fdiv (2 ^ min (1 : Int).toNat (IntKind.u64).bits)) 6148914691236517205) + (ib .and .u64 x773 6148914691236517205))).fdiv (2 ^ min (2 : Int).toNat (IntKind.u64).bits)) 3689348814741910323) + (ib .and .u64 (IntKind.u64.wrap ((ib .and .u64 (x773.fdiv (2 ^ min (1 : Int).toNat (IntKind.u64).bits)) 6148914691236517205) + (ib .and .u64 x773 6148914691236517205))) 3689348814741910323))).fdiv (2 ^ min (4 : Int).toNat (IntKind.u64).bits)) + (IntKind.u64.wrap ((ib .and .u64 ((IntKind.u64.wrap ((ib .and .u64 (x773.fdiv (2 ^ min (1 : Int).toNat (IntKind.u64).bits)) 6148914691236517205) + (ib .and .u64 x773 6148914691236517205))).fdiv (2 ^ min (2 : Int).toNat (IntKind.u64).bits)) 3689348814741910323) + (ib .and .u64 (IntKind.u64.wrap ((ib .and .u64 (x773.fdiv (2 ^ min (1 : Int).toNat (IntKind.u64).bits)) 6148914691236517205) + (ib .and .u64 x773 6148914691236517205))) 3689348814741910323))))) 1085102592571150095) + ((ib .and .u64 (IntKind.u64.wrap (((IntKind.u64.wrap ((ib .and .u64 ((IntKind.u64.wrap ((ib .and .u64 (x773.fdiv (2 ^ min (1 : Int).toNat (IntKind.u64).bits)) 6148914691236517205) + (ib .and .u64 x773 6148914691236517205))).fdiv (2 ^ min (2 : Int).toNat (IntKind.u64).bits)) 3689348814741910323) + (ib .and .u64 (IntKind.u64.wrap ((ib .and .u64 (x773.fdiv (2 ^ min (1 : Int).toNat (IntKind.u64).bits)) 6148914691236517205) + (ib .and .u64 x773 6148914691236517205))) 3689348814741910323))).fdiv (2 ^ min (4 : Int).toNat (IntKind.u64).bits)) + (IntKind.u64.wrap ((ib .and .u64 ((IntKind.u64.wrap ((ib .and .u64 (x773.fdiv (2 ^ min (1 : Int).toNat (IntKind.u64).bits)) 6148914691236517205) + (ib .and .u64 x773 6148914691236517205))).fdiv (2 ^ min (2 : Int).toNat (IntKind.u64).bits)) 3689348814741910323) + (ib .and .u64 (IntKind.u64.wrap ((ib .and .u64 (x773.fdiv (2 ^ min (1 : Int).toNat (IntKind.u64).bits)) 6148914691236517205) + (ib .and .u64 x773 6148914691236517205))) 3689348814741910323))))) 1085102592571150095).fdiv (2 ^ min (8 : Int).toNat (IntKind.u64).bits)))) + ((IntKind.u64.wrap ((ib .and .u64 (IntKind.u64.wrap (((IntKind.u64.wrap ((ib .and .u64 ((IntKind.u64.wrap ((ib .and .u64 (x773.fdiv (2 ^ min (1 : Int).toNat (IntKind.u64).bits)) 6148914691236517205) + (ib .and .u64 x773 6148914691236517205))).fdiv (2 ^ min (2 : Int).toNat (IntKind.u64).bits)) 3689348814741910323) + (ib .and .u64 (IntKind.u64.wrap ((ib .and .u64 (x773.fdiv (2 ^ min (1 : Int).toNat (IntKind.u64).bits)) 6148914691236517205) + (ib .and .u64 x773 6148914691236517205))) 3689348814741910323))).fdiv (2 ^ min (4 : Int).toNat (IntKind.u64).bits)) + (IntKind.u64.wrap ((ib .and .u64 ((IntKind.u64.wrap ((ib .and .u64 (x773.fdiv (2 ^ min (1 : Int).toNat (IntKind.u64).bits)) 6148914691236517205) + (ib .and .u64 x773 6148914691236517205))).fdiv (2 ^ min (2 : Int).toNat (IntKind.u64).bits)) 3689348814741910323) + (ib .and .u64 (IntKind.u64.wrap ((ib .and .u64 (x773.fdiv (2 ^ min (1 : Int).toNat (IntKind.u64).bits)) 6148914691236517205) + (ib .and .u64 x773 6148914691236517205))) 3689348814741910323))))) 1085102592571150095) + ((ib .and .u64 (IntKind.u64.wrap (((IntKind.u64.wrap ((ib .and .u64 ((IntKind.u64.wrap ((ib .and .u64 (x773.fdiv (2 ^ min (1 : Int).toNat (IntKind.u64).bits)) 6148914691236517205) + (ib .and .u64 x773 6148914691236517205))).fdiv (2 ^ min (2 : Int).toNat (IntKind.u64).bits)) 3689348814741910323) + (ib .and .u64 (IntKind.u64.wrap ((ib .and .u64 (x773.fdiv (2 ^ min (1 : Int).toNat (IntKind.u64).bits)) 6148914691236517205) + (ib .and .u64 x773 6148914691236517205))) 3689348814741910323))).fdiv (2 ^ min (4 : Int).toNat (IntKind.u64).bits)) + (IntKind.u64.wrap ((ib .and .u64 ((IntKind.u64.wrap ((ib .and .u64 (x773.fdiv (2 ^ min (1 : Int).toNat (IntKind.u64).bits)) 6148914691236517205) + (ib .and .u64 x773 6148914691236517205))).fdiv (2 ^ min (2 : Int).toNat (IntKind.u64).bits)) 3689348814741910323) + (ib .and .u64 (IntKind.u64.wrap ((ib .and .u64 (x773.fdiv (2 ^ min (1 : Int).toNat (IntKind.u64).bits)) 6148914691236517205) + (ib .and .u64 x773 6148914691236517205))) 3689348814741910323))))) 1085102592571150095).fdiv (2 ^ min (8 : Int).toNat (IntKind.u64).bits)))).fdiv (2 ^ min (16 : Int).toNat (IntKind.u64).bits)))) + ((IntKind.u64.wrap ((IntKind.u64.wrap ((ib .and .u64 (IntKind.u64.wrap (((IntKind.u64.wrap ((ib .and .u64 ((IntKind.u64.wrap ((ib .and .u64 (x773.fdiv (2 ^ min (1 : Int).toNat (IntKind.u64).bits)) 6148914691236517205) + (ib .and .u64 x773 6148914691236517205))).fdiv (2 ^ min (2 : Int).toNat (IntKind.u64).bits)) 3689348814741910323) + (ib .and .u64 (IntKind.u64.wrap ((ib .and .u64 (x773.fdiv (2 ^ min (1 : Int).toNat (IntKind.u64).bits)) 6148914691236517205) + (ib .and .u64 x773 6148914691236517205))) 3689348814741910323))).fdiv (2 ^ min (4 : Int).toNat (IntKind.u64).bits)) + (IntKind.u64.wrap ((ib .and .u64 ((IntKind.u64.wrap ((ib .and .u64 (x773.fdiv (2 ^ min (1 : Int).toNat (IntKind.u64).bits)) 6148914691236517205) + (ib .and .u64 x773 6148914691236517205))).fdiv (2 ^ min (2 : Int).toNat (IntKind.u64).bits)) 3689348814741910323) + (ib .and .u64 (IntKind.u64.wrap ((ib .and .u64 (x773.fdiv (2 ^ min (1 : Int).toNat (IntKind.u64).bits)) 6148914691236517205) + (ib .and .u64 x773 6148914691236517205))) 3689348814741910323))))) 1085102592571150095) + ((ib .and .u64 (IntKind.u64.wrap (((IntKind.u64.wrap ((ib .and .u64 ((IntKind.u64.wrap ((ib .and .u64 (x773.fdiv (2 ^ min (1 : Int).toNat (IntKind.u64).bits)) 6148914691236517205) + (ib .and .u64 x773 6148914691236517205))).fdiv (2 ^ min (2 : Int).toNat (IntKind.u64).bits)) 3689348814741910323) + (ib .and .u64 (IntKind.u64.wrap ((ib .and .u64 (x773.fdiv (2 ^ min (1 : Int).toNat (IntKind.u64).bits)) 6148914691236517205) + (ib .and .u64 x773 6148914691236517205))) 3689348814741910323))).fdiv (2 ^ min (4 : Int).toNat (IntKind.u64).bits)) + (IntKind.u64.wrap ((ib .and .u64 ((IntKind.u64.wrap ((ib .and .u64 (x773.fdiv (2 ^ min (1 : Int).toNat (IntKind.u64).bits)) 6148914691236517205) + (ib .and .u64 x773 6148914691236517205))).fdiv (2 ^ min (2 : Int).toNat (IntKind.u64).bits)) 3689348814741910323) + (ib .and .u64 (IntKind.u64.wrap ((ib .and .u64 (x773.fdiv (2 ^ min (1 : Int).toNat (IntKind.u64).bits)) 6148914691236517205) + (ib .and .u64 x773 6148914691236517205))) 3689348814741910323))))) 1085102592571150095).fdiv (2 ^ min (8 : Int).toNat (IntKind.u64).bits)))) + ((IntKind.u64.wrap ((ib .and .u64 (IntKind.u64.wrap (((IntKind.u64.wrap ((ib .and .u64 ((IntKind.u64.wrap ((ib .and .u64 (x773.fdiv (2 ^ min (1 : Int).toNat (IntKind.u64).bits)) 6148914691236517205) + (ib .and .u64 x773 6148914691236517205))).fdiv (2 ^ min (2 : Int).toNat (IntKind.u64).bits)) 3689348814741910323) + (ib .and .u64 (IntKind.u64.wrap ((ib .and .u64 (x773.fdiv (2 ^ min (1 : Int).toNat (IntKind.u64).bits)) 6148914691236517205) + (ib .and .u64 x773 6148914691236517205))) 3689348814741910323))).fdiv (2 ^ min (4 : Int).toNat (IntKind.u64).bits)) + (IntKind.u64.wrap ((ib .and .u64 ((IntKind.u64.wrap ((ib .and .u64 (x773.fdiv (2 ^ min (1 : Int).toNat (IntKind.u64).bits)) 6148914691236517205) + (ib .and .u64 x773 6148914691236517205))).fdiv (2 ^ min (2 : Int).toNat (IntKind.u64).bits)) 3689348814741910323) + (ib .and .u64 (IntKind.u64.wrap ((ib .and .u64 (x773.fdiv (2 ^ min (1 : Int).toNat (IntKind.u64).bits)) 6148914691236517205) + (ib .and .u64 x773 6148914691236517205))) 3689348814741910323))))) 1085102592571150095) + ((ib .and .u64 (IntKind.u64.wrap (((IntKind.u64.wrap ((ib .and .u64 ((IntKind.u64.wrap ((ib .and .u64 (x773.fdiv (2 ^ min (1 : Int).toNat (IntKind.u64).bits)) 6148914691236517205) + (ib .and .u64 x773 6148914691236517205))).fdiv (2 ^ min (2 : Int).toNat (IntKind.u64).bits)) 3689348814741910323) + (ib .and .u64 (IntKind.u64.wrap ((ib .and .u64 (x773.fdiv (2 ^ min (1 : Int).toNat (IntKind.u64).bits)) 6148914691236517205) + (ib .and .u64 x773 6148914691236517205))) 3689348814741910323))).fdiv (2 ^ min (4 : Int).toNat (IntKind.u64).bits)) + (IntKind.u64.wrap ((ib .and .u64 ((IntKind.u64.wrap ((ib .and .u64 (x773.fdiv (2 ^ min (1 : Int).toNat (IntKind.u64).bits)) 6148914691236517205) + (ib .and .u64 x773 6148914691236517205))).fdiv (2 ^ min (2 : Int).toNat (IntKind.u64).bits)) 3689348814741910323) + (ib .and .u64 (IntKind.u64.wrap ((ib .and .u64 (x773.fdiv (2 ^ min (1 : Int).toNat (IntKind.u64).bits)) 6148914691236517205) + (ib .and .u64 x773 6148914691236517205))) 3689348814741910323))))) 1085102592571150095).fdiv (2 ^ min (8 : Int).toNat (IntKind.u64).bits)))).fdiv (2 ^ min (16 : Int).toNat (IntKind.u64).bits)))).fdiv (2 ^ min (32 : Int).toNat (IntKind.u64).bits))))) 127))

def ordering_graph_eliminate_L0 (n : Nat) (x779 : Int) (x781 : Int) : ((List Int) × Int) → Option (Out ((List Int) × Int) (List Int))
  | (x815, x819) =>
    cond (x819 != 0)
    ((bits_TrailingZeros64 n x819).bind fun x855 =>
    (idx x815 x855).bind fun x859 =>
    (need (decide (0 ≤ x855))).bind fun _ =>
    (idx x815 x855).bind fun x868 =>
    some (.go ((upd x815 x855 (ib .or .u64 x859 (ib .andNot .u64 (ib .and .u64 x781 x779) (IntKind.u64.wrap ((1 : Int) * 2 ^ min x855.toNat (IntKind.u64).bits))))), (ib .and .u64 x819 (IntKind.u64.wrap (x819 - 1))))))
    (some (.done x815))

def ordering_graph_eliminate (n : Nat) : (List Int) → Int → Int → Option (List Int)
  | x774, x778, x779 =>
    (idx x774 x778).bind fun x781 =>
    loopN (ordering_graph_eliminate_L0 n x779 x781) n (x774, (ib .and .u64 x781 x779))

def ordering_MinDegree_L13 (n : Nat) (x2044 : (List Int)) (x2048 : Int) : (Int × Int × Int) → Option (Out (Int × Int × Int) Int)
  | (x2517, x2518, x2519) =>
    cond (x2519 != 0)
    (((bits_TrailingZeros64 n x2519).bind fun x2588 =>
    (idx x2044 x2588).bind fun x2591 =>
    (bits_OnesCount64 n (ib .and .u64 x2591 x2048)).bind fun x2599 =>
    (cond (decide (x2517 < 0))
    (some (true))
    (some ((decide (x2599 < x2518)))) : Option Bool).bind fun x2602 =>
    cond x2602
    (some ((x2588, x2599)))
    (some ((x2517, x2518))) : Option (Int × Int)).bind fun (x2583, x2584) =>
    some (.go (x2583, x2584, (ib .and .u64 x2519 (IntKind.u64.wrap (x2519 - 1))))))
    (some (.done x2517))

def ordering_MinDegree_L11 (n : Nat) (x882 : Int) : ((List Int) × Int × (List Int)) → Option (Out ((List Int) × Int × (List Int)) (List Int))
  | (x2044, x2048, x2049) =>
    cond (decide ((x2049.length : Int) < x882))
    ((loopN (ordering_MinDegree_L13 n x2044 x2048) n ((-1), 0, x2048) : Option Int).bind fun x2474 =>
    (need (decide (0 ≤ x2474))).bind fun _ =>
    (ordering_graph_eliminate n x2044 x2474 (ib .andNot .u64 x2048 (IntKind.u64.wrap ((1 : Int) * 2 ^ min x2474.toNat (IntKind.u64).bits)))).bind fun x2607 =>
    (app x2049 [x2474]).bind fun x2617 =>
    some (.go (x2607, (ib .andNot .u64 x2048 (IntKind.u64.wrap ((1 : Int) * 2 ^ min x2474.toNat (IntKind.u64).bits))), x2617)))
    (some (.done x2049))

def ordering_MinDegree (n : Nat) : Int → (List Pair) → Option ((List Int) × Int)
  | x882, x883 =>
    (ordering_Valid n x882 x883).bind fun x887 =>
    cond (!x887)
    (some (([], 1)))
    ((ordering_build n x882 x883).bind fun x890 =>
    (ordering_all n x882).bind fun x897 =>
    (loopN (ordering_MinDegree_L11 n x882) n (x890, x897, []) : Option (List Int)).bind fun x1758 =>
    some ((x1758, 0)))

def ordering_permutation_L1 (x2625 : Int) (x2626 : (List Int)) : (Int × Int) → Option (Out (Int × Int) (Out Unit Bool))
  | (x2688, x2689) =>
    cond (decide (x2689 < (x2626.length : Int)))
    ((idx x2626 x2689).bind fun x2707 =>
    (cond (decide (x2707 < 0))
    (some (true))
    (cond (decide (x2707 ≥ x2625))
    (some (true))
    ((need (decide (0 ≤ x2707))).bind fun _ =>
    some (((ib .and .u64 (x2688.fdiv (2 ^ min x2707.toNat (IntKind.u64).bits)) 1) != 0)))) : Option Bool).bind fun x2714 =>
    cond x2714
    (some (.done (.done false)))
    ((need (decide (0 ≤ x2707))).bind fun _ =>
    some (.go ((ib .or .u64 x2688 (IntKind.u64.wrap ((1 : Int) * 2 ^ min x2707.toNat (IntKind.u64).bits))), (IntKind.i64.wrap (x2689 + 1))))))
    (some (.done (.go ())))

def ordering_permutation (n : Nat) : Int → (List Int) → Option Bool
  | x2625, x2626 =>
    cond ((x2626.length : Int) != x2625)
    (some (false))
    ((loopN (ordering_permutation_L1 x2625 x2626) n (0, 0) : Option (Out Unit Bool)).bind fun y2674 => (match y2674 with
    | .go _ =>
    some (true)
    | .done r => some r))

def ordering_filled_L1 (n : Nat) (x2725 : (List Int)) : ((List Int) × Int × Int) → Option (Out ((List Int) × Int × Int) (List Int))
  | (x2827, x2831, x2832) =>
    cond (decide (x2832 < (x2725.length : Int)))
    ((idx x2725 x2832).bind fun x2858 =>
    (need (decide (0 ≤ x2858))).bind fun _ =>
    (ordering_graph_eliminate n x2827 x2858 (ib .andNot .u64 x2831 (IntKind.u64.wrap ((1 : Int) * 2 ^ min x2858.toNat (IntKind.u64).bits)))).bind fun x2865 =>
    some (.go (x2865, (ib .andNot .u64 x2831 (IntKind.u64.wrap ((1 : Int) * 2 ^ min x2858.toNat (IntKind.u64).bits))), (IntKind.i64.wrap (x2832 + 1)))))
    (some (.done x2827))

def ordering_filled (n : Nat) : Int → (List Pair) → (List Int) → Option ((List Int) × Int)
  | x2721, x2722, x2725 =>
    (ordering_Valid n x2721 x2722).bind fun x2730 =>
    cond (!x2730)
    (some (([], 1)))
    ((ordering_permutation n x2721 x2725).bind fun x2734 =>
    cond (!x2734)
    (some (([], 2)))
    ((ordering_build n x2721 x2722).bind fun x2738 =>
    (ordering_all n x2721).bind fun x2745 =>
    (loopN (ordering_filled_L1 n x2725) n (x2738, x2745, 0) : Option (List Int)).bind fun x2806 =>
    some ((x2806, 0))))

def ordering_Fill_L13 (x2872 : Int) (x2880 : (List Int)) (x2888 : (List Int)) (x4645 : Int) : ((List Pair) × Int) → Option (Out ((List Pair) × Int) (List Pair))
  | (x5365, x5369) =>
    cond (decide (x5369 < x2872))
    (((idx x2880 x4645).bind fun x5481 =>
    (idx x2888 x4645).bind fun x5489 =>
    (need (decide (0 ≤ x5369))).bind fun _ =>
    cond ((ib .and .u64 ((ib .andNot .u64 x5481 x5489).fdiv (2 ^ min x5369.toNat (IntKind.u64).bits)) 1) != 0)
    ((app x5365 [(Pair.mk x4645 x5369)]).bind fun x5503 =>
    some (x5503))
    (some (x5365)) : Option (List Pair)).bind fun x5473 =>
    some (.go (x5473, (IntKind.i64.wrap (x5369 + 1)))))
    (some (.done x5365))

def ordering_Fill_L11 (n : Nat) (x2872 : Int) (x2880 : (List Int)) (x2888 : (List Int)) : ((List Pair) × Int) → Option (Out ((List Pair) × Int) (List Pair))
  | (x4641, x4645) =>
    cond (decide (x4645 < x2872))
    ((loopN (ordering_Fill_L13 x2872 x2880 x2888 x4645) n (x4641, (IntKind.i64.wrap (x4645 + 1))) : Option (List Pair)).bind fun x5293 =>
    some (.go (x5293, (IntKind.i64.wrap (x4645 + 1)))))
    (some (.done x4641))

def ordering_Fill (n : Nat) : Int → (List Pair) → (List Int) → Option ((List Pair) × Int)
  | x2872, x2873, x2876 =>
    (ordering_filled n x2872 x2873 x2876).bind fun (x2880, x2881) =>
    cond (x2881 != 0)
    (some (([], x2881)))
    ((ordering_build n x2872 x2873).bind fun x2888 =>
    (loopN (ordering_Fill_L11 n x2872 x2880 x2888) n ([], 0) : Option (List Pair)).bind fun x4199 =>
    some ((x4199, 0)))

def base_Ints_L1 (x5512 : (List Int)) (x5515 : (List Int)) : Int → Option (Out Int (Out Unit Bool))
  | x5581 =>
    cond (decide (x5581 < (x5512.length : Int)))
    ((idx x5512 x5581).bind fun x5600 =>
    (idx x5515 x5581).bind fun x5606 =>
    cond (x5600 != x5606)
    (some (.done (.done false)))
    (some (.go (IntKind.i64.wrap (x5581 + 1)))))
    (some (.done (.go ())))

def base_Ints (n : Nat) : (List Int) → (List Int) → Option Bool
  | x5512, x5515 =>
    cond ((x5512.length : Int) != (x5515.length : Int))
    (some (false))
    ((loopN (base_Ints_L1 x5512 x5515) n 0 : Option (Out Unit Bool)).bind fun y5566 => (match y5566 with
    | .go _ =>
    some (true)
    | .done r => some r))

def base_Pairs_L1 (x5615 : (List Pair)) (x5618 : (List Pair)) : Int → Option (Out Int (Out Unit Bool))
  | x5684 =>
    cond (decide (x5684 < (x5615.length : Int)))
    ((idx x5615 x5684).bind fun x5703 =>
    (idx x5618 x5684).bind fun x5709 =>
    cond (!((x5703.A == x5709.A) && ((x5703.B == x5709.B) && true)))
    (some (.done (.done false)))
    (some (.go (IntKind.i64.wrap (x5684 + 1)))))
    (some (.done (.go ())))

def base_Pairs (n : Nat) : (List Pair) → (List Pair) → Option Bool
  | x5615, x5618 =>
    cond ((x5615.length : Int) != (x5618.length : Int))
    (some (false))
    ((loopN (base_Pairs_L1 x5615 x5618) n 0 : Option (Out Unit Bool)).bind fun y5669 => (match y5669 with
    | .go _ =>
    some (true)
    | .done r => some r))

def law26_awake (n : Nat) : Option Bool :=
    (ordering_MinDegree n 4 [(Pair.mk 0 1), (Pair.mk 0 3), (Pair.mk 1 2), (Pair.mk 2 3)]).bind fun (x5722, x5723) =>
    (ordering_Fill n 4 [(Pair.mk 0 1), (Pair.mk 0 3), (Pair.mk 1 2), (Pair.mk 2 3)] [0, 1, 2, 3]).bind fun (x5733, x5734) =>
    (cond (x5723 == 0)
    ((base_Ints n x5722 [0, 1, 2, 3]).bind fun x5763 =>
    cond x5763
    (cond (x5734 == 0)
    ((base_Pairs n x5733 [(Pair.mk 1 3)]).bind fun x5770 =>
    some (x5770))
    (some (false)))
    (some (false)))
    (some (false)) : Option Bool).bind fun x5754 =>
    some (x5754)

def law26_few (n : Nat) : Graph → Option Bool
  | x5773 =>
    (cond (decide ((x5773.E.length : Int) ≤ 300))
    (some ((decide (x5773.N ≤ 24))))
    (some (false)) : Option Bool).bind fun x5781 =>
    some (x5781)

def ref26_Valid_L1 (x5784 : Int) (x5785 : (List Pair)) : Int → Option (Out Int (Out Unit Bool))
  | x6371 =>
    cond (decide (x6371 < (x5785.length : Int)))
    (((idx x5785 x6371).bind fun x6550 =>
    cond (decide (x6550.A < 0))
    (some (true))
    ((idx x5785 x6371).bind fun x6557 =>
    (idx x5785 x6371).bind fun x6563 =>
    cond (decide (x6557.A ≥ x6563.B))
    (some (true))
    ((idx x5785 x6371).bind fun x6570 =>
    some ((decide (x6570.B ≥ x5784))))) : Option Bool).bind fun x6546 =>
    cond x6546
    (some (.done (.done false)))
    ((cond (decide (x6371 > 0))
    ((idx x5785 x6371).bind fun x6622 =>
    (idx x5785 (IntKind.i64.wrap (x6371 - 1))).bind fun x6628 =>
    cond (decide (x6622.A < x6628.A))
    (some (true))
    ((idx x5785 x6371).bind fun x6635 =>
    (idx x5785 (IntKind.i64.wrap (x6371 - 1))).bind fun x6641 =>
    cond (x6635.A == x6641.A)
    ((idx x5785 x6371).bind fun x6647 =>
    (idx x5785 (IntKind.i64.wrap (x6371 - 1))).bind fun x6653 =>
    some ((decide (x6647.B ≤ x6653.B))))
    (some (false))))
    (some (false)) : Option Bool).bind fun x6618 =>
    cond x6618
    (some (.done (.done false)))
    (some (.go (IntKind.i64.wrap (x6371 + 1))))))
    (some (.done (.go ())))

def ref26_Valid (n : Nat) : Int → (List Pair) → Option Bool
  | x5784, x5785 =>
    (cond (decide (x5784 < 0))
    (some (true))
    (some ((decide (x5784 > 64)))) : Option Bool).bind fun x5788 =>
    cond x5788
    (some (false))
    ((loopN (ref26_Valid_L1 x5784 x5785) n 0 : Option (Out Unit Bool)).bind fun y6227 => (match y6227 with
    | .go _ =>
    some (true)
    | .done r => some r))

def ref26_Table_L1 (x6664 : Int) (x6665 : (List Pair)) : ((List (List Bool)) × Int) → Option (Out ((List (List Bool)) × Int) (List (List Bool)))
  | (x6876, x6879) =>
    (cond (decide (x6879 < (x6665.length : Int)))
    (some ((decide (x6664 > 0))))
    (some (false)) : Option Bool).bind fun x6933 =>
    cond x6933
    ((idx x6665 x6879).bind fun x6937 =>
    (idx x6665 x6879).bind fun x6943 =>
    (idx x6876 x6937.A).bind fun x6949 =>
    (idx x6949 x6943.B).bind fun x6951 =>
    (idx x6665 x6879).bind fun x6958 =>
    (idx x6665 x6879).bind fun x6964 =>
    (idx (upd x6876 x6937.A (upd x6949 x6943.B true)) x6958.B).bind fun x6970 =>
    (idx x6970 x6964.A).bind fun x6972 =>
    some (.go ((upd (upd x6876 x6937.A (upd x6949 x6943.B true)) x6958.B (upd x6970 x6964.A true)), (IntKind.i64.wrap (x6879 + 1)))))
    (some (.done x6876))

def ref26_Table (n : Nat) : Int → (List Pair) → Option (List (List Bool))
  | x6664, x6665 =>
    (loopN (ref26_Table_L1 x6664 x6665) n ((List.replicate 64 (List.replicate 64 false)), 0) : Option (List (List Bool))).bind fun x6825 =>
    some (x6825)

def ref26_eliminate_L13 (x6985 : (List Bool)) (x6988 : Int) (x6989 : Int) (x8977 : Int) : ((List (List Bool)) × Int) → Option (Out ((List (List Bool)) × Int) (List (List Bool)))
  | (x9797, x9800) =>
    cond (decide (x9800 < x6988))
    (((cond (x8977 != x9800)
    ((idx x6985 x8977).bind fun x9941 =>
    cond (!x9941)
    ((idx x6985 x9800).bind fun x9943 =>
    cond (!x9943)
    ((idx x9797 x6989).bind fun x9945 =>
    (idx x9945 x8977).bind fun x9947 =>
    cond x9947
    ((idx x9797 x6989).bind fun x9949 =>
    (idx x9949 x9800).bind fun x9951 =>
    some (x9951))
    (some (false)))
    (some (false)))
    (some (false)))
    (some (false)) : Option Bool).bind fun x9938 =>
    cond x9938
    ((idx x9797 x8977).bind fun x9953 =>
    (idx x9953 x9800).bind fun x9955 =>
    some ((upd x9797 x8977 (upd x9953 x9800 true))))
    (some (x9797)) : Option (List (List Bool))).bind fun x9920 =>
    some (.go (x9920, (IntKind.i64.wrap (x9800 + 1)))))
    (some (.done x9797))

def ref26_eliminate_L11 (n : Nat) (x6985 : (List Bool)) (x6988 : Int) (x6989 : Int) : ((List (List Bool)) × Int) → Option (Out ((List (List Bool)) × Int) (List (List Bool)))
  | (x8974, x8977) =>
    cond (decide (x8977 < x6988))
    ((loopN (ref26_eliminate_L13 x6985 x6988 x6989 x8977) n (x8974, 0) : Option (List (List Bool))).bind fun x9715 =>
    some (.go (x9715, (IntKind.i64.wrap (x8977 + 1)))))
    (some (.done x8974))

def ref26_eliminate (n : Nat) : (List (List Bool)) → (List Bool) → Int → Int → Option (List (List Bool))
  | x6982, x6985, x6988, x6989 =>
    (loopN (ref26_eliminate_L11 n x6985 x6988 x6989) n (x6982, 0) : Option (List (List Bool))).bind fun x8480 =>
    some (x8480)

def ref26_MinDegree_L157 (x9966 : Int) (x20976 : (List (List Bool))) (x20979 : (List Bool)) (x25547 : Int) : (Int × Int) → Option (Out (Int × Int) Int)
  | (x26373, x26374) =>
    cond (decide (x26374 < x9966))
    ((((idx x20979 x26374).bind fun x26440 =>
    cond (!x26440)
    ((idx x20976 x25547).bind fun x26442 =>
    (idx x26442 x26374).bind fun x26444 =>
    some (x26444))
    (some (false)) : Option Bool).bind fun x26437 =>
    cond x26437
    (some ((IntKind.i64.wrap (x26373 + 1))))
    (some (x26373)) : Option Int).bind fun x26428 =>
    some (.go (x26428, (IntKind.i64.wrap (x26374 + 1)))))
    (some (.done x26373))

def ref26_MinDegree_L153 (n : Nat) (x9966 : Int) (x20976 : (List (List Bool))) (x20979 : (List Bool)) : (Int × Int × Int) → Option (Out (Int × Int × Int) Int)
  | (x25545, x25546, x25547) =>
    cond (decide (x25547 < x9966))
    (((idx x20979 x25547).bind fun x26228 =>
    cond x26228
    (some ((x25545, x25546)))
    ((loopN (ref26_MinDegree_L157 x9966 x20976 x20979 x25547) n (0, 0) : Option Int).bind fun x26337 =>
    (cond (decide (x25545 < 0))
    (some (true))
    (some ((decide (x26337 < x25546)))) : Option Bool).bind fun x26447 =>
    cond x26447
    (some ((x25547, x26337)))
    (some ((x25545, x25546)))) : Option (Int × Int)).bind fun (x26224, x26225) =>
    some (.go (x26224, x26225, (IntKind.i64.wrap (x25547 + 1)))))
    (some (.done x25545))

def ref26_MinDegree_L131 (n : Nat) (x9966 : Int) : ((List (List Bool)) × (List Bool) × (List Int)) → Option (Out ((List (List Bool)) × (List Bool) × (List Int)) (List Int))
  | (x20976, x20979, x20982) =>
    cond (decide ((x20982.length : Int) < x9966))
    ((loopN (ref26_MinDegree_L153 n x9966 x20976 x20979) n ((-1), 0, 0) : Option Int).bind fun x25094 =>
    (idx x20979 x25094).bind fun x26451 =>
    (ref26_eliminate n x20976 (upd x20979 x25094 true) x9966 x25094).bind fun x26459 =>
    (app x20982 [x25094]).bind fun x26471 =>
    some (.go (x26459, (upd x20979 x25094 true), x26471)))
    (some (.done x20982))

def ref26_MinDegree (n : Nat) : Int → (List Pair) → Option ((List Int) × Int)
  | x9966, x9967 =>
    (ref26_Valid n x9966 x9967).bind fun x9971 =>
    cond (!x9971)
    (some (([], 1)))
    ((ref26_Table n x9966 x9967).bind fun x9974 =>
    (loopN (ref26_MinDegree_L131 n x9966) n (x9974, (List.replicate 64 false), []) : Option (List Int)).bind fun x18230 =>
    some ((x18230, 0)))

def law26_OrderingDegrees (n : Nat) : Graph → Option Bool
  | x26479 =>
    ((law26_awake n ).bind fun x26497 =>
    cond (!x26497)
    (some (true))
    ((law26_few n (Graph.mk x26479.N x26479.E)).bind fun x26500 =>
    some ((!x26500))) : Option Bool).bind fun x26493 =>
    cond x26493
    ((law26_awake n ).bind fun x26503 =>
    some (x26503))
    ((ordering_MinDegree n x26479.N x26479.E).bind fun (x26506, x26507) =>
    (ref26_MinDegree n x26479.N x26479.E).bind fun (x26513, x26514) =>
    (cond (x26507 == x26514)
    ((base_Ints n x26506 x26513).bind fun x26527 =>
    some (x26527))
    (some (false)) : Option Bool).bind fun x26523 =>
    some (x26523))

def ref26_Order_L25 (x26530 : Int) (x26531 : (List Int)) (x27511 : Int) : (Bool × Int) → Option (Out (Bool × Int) Bool)
  | (x27966, x27967) =>
    cond (decide (x27967 < x26530))
    ((cond x27966
    (some (true))
    ((idx x26531 x27967).bind fun x27997 =>
    some ((x27997 == x27511))) : Option Bool).bind fun x27994 =>
    some (.go (x27994, (IntKind.i64.wrap (x27967 + 1)))))
    (some (.done x27966))

def ref26_Order_L21 (n : Nat) (x26530 : Int) (x26531 : (List Int)) : Int → Option (Out Int (Out Unit Bool))
  | x27511 =>
    cond (decide (x27511 < x26530))
    (((loopN (ref26_Order_L25 x26530 x26531 x27511) n (false, 0) : Option Bool).bind fun x27942 =>
    cond (!x27942)
    (some (.done (.done (.done false))))
    (some (.go ())) : Option (Out Unit (Out Int (Out Unit Bool)))).bind fun y27881 => (match y27881 with
    | .go _ =>
    some (.go (IntKind.i64.wrap (x27511 + 1)))
    | .done r => some r))
    (some (.done (.go ())))

def ref26_Order (n : Nat) : Int → (List Int) → Option Bool
  | x26530, x26531 =>
    cond ((x26531.length : Int) != x26530)
    (some (false))
    ((loopN (ref26_Order_L21 n x26530 x26531) n 0 : Option (Out Unit Bool)).bind fun y27269 => (match y27269 with
    | .go _ =>
    some (true)
    | .done r => some r))

def ref26_check (n : Nat) : Int → (List Pair) → (List Int) → Option Int
  | x28006, x28007, x28010 =>
    (ref26_Valid n x28006 x28007).bind fun x28013 =>
    cond (!x28013)
    (some (1))
    ((ref26_Order n x28006 x28010).bind fun x28016 =>
    cond (!x28016)
    (some (2))
    (some (0)))

def ref26_Filled_L1 (n : Nat) (x28019 : Int) (x28023 : (List Int)) : ((List (List Bool)) × (List Bool) × Int) → Option (Out ((List (List Bool)) × (List Bool) × Int) (List (List Bool)))
  | (x28215, x28218, x28221) =>
    cond (decide (x28221 < x28019))
    ((idx x28023 x28221).bind fun x28270 =>
    (idx x28218 x28270).bind fun x28276 =>
    (idx x28023 x28221).bind fun x28291 =>
    (ref26_eliminate n x28215 (upd x28218 x28270 true) x28019 x28291).bind fun x28297 =>
    some (.go (x28297, (upd x28218 x28270 true), (IntKind.i64.wrap (x28221 + 1)))))
    (some (.done x28215))

def ref26_Filled (n : Nat) : Int → (List Pair) → (List Int) → Option (List (List Bool))
  | x28019, x28020, x28023 =>
    (ref26_Table n x28019 x28020).bind fun x28031 =>
    (loopN (ref26_Filled_L1 n x28019 x28023) n (x28031, (List.replicate 64 false), 0) : Option (List (List Bool))).bind fun x28173 =>
    some (x28173)

def ref26_Fill_L13 (x28309 : Int) (x28320 : (List (List Bool))) (x28332 : (List (List Bool))) (x30142 : Int) : ((List Pair) × Int) → Option (Out ((List Pair) × Int) (List Pair))
  | (x30882, x30886) =>
    cond (decide (x30886 < x28309))
    ((((idx x28332 x30142).bind fun x31012 =>
    (idx x31012 x30886).bind fun x31014 =>
    cond x31014
    ((idx x28320 x30142).bind fun x31016 =>
    (idx x31016 x30886).bind fun x31018 =>
    some ((!x31018)))
    (some (false)) : Option Bool).bind fun x31009 =>
    cond x31009
    ((app x30882 [(Pair.mk x30142 x30886)]).bind fun x31024 =>
    some (x31024))
    (some (x30882)) : Option (List Pair)).bind fun x30993 =>
    some (.go (x30993, (IntKind.i64.wrap (x30886 + 1)))))
    (some (.done x30882))

def ref26_Fill_L11 (n : Nat) (x28309 : Int) (x28320 : (List (List Bool))) (x28332 : (List (List Bool))) : ((List Pair) × Int) → Option (Out ((List Pair) × Int) (List Pair))
  | (x30138, x30142) =>
    cond (decide (x30142 < x28309))
    ((loopN (ref26_Fill_L13 x28309 x28320 x28332 x30142) n (x30138, (IntKind.i64.wrap (x30142 + 1))) : Option (List Pair)).bind fun x30808 =>
    some (.go (x30808, (IntKind.i64.wrap (x30142 + 1)))))
    (some (.done x30138))

def ref26_Fill (n : Nat) : Int → (List Pair) → (List Int) → Option ((List Pair) × Int)
  | x28309, x28310, x28313 =>
    (ref26_check n x28309 x28310 x28313).bind fun x28317 =>
    cond (x28317 != 0)
    (some (([], x28317)))
    ((ref26_Table n x28309 x28310).bind fun x28320 =>
    (ref26_Filled n x28309 x28310 x28313).bind fun x28332 =>
    (loopN (ref26_Fill_L11 n x28309 x28320 x28332) n ([], 0) : Option (List Pair)).bind fun x29684 =>
    some ((x29684, 0)))

def law26_OrderingFills (n : Nat) : Graph → (List Int) → Option Bool
  | x31033, x31036 =>
    ((law26_awake n ).bind fun x31054 =>
    cond (!x31054)
    (some (true))
    ((law26_few n (Graph.mk x31033.N x31033.E)).bind fun x31057 =>
    cond (!x31057)
    (some (true))
    (some ((decide ((x31036.length : Int) > 100))))) : Option Bool).bind fun x31050 =>
    cond x31050
    ((law26_awake n ).bind fun x31060 =>
    some (x31060))
    ((app ([] : List Int) x31036).bind fun x31067 =>
    (ordering_Fill n x31033.N x31033.E x31067).bind fun (x31074, x31075) =>
    (ref26_Fill n x31033.N x31033.E x31036).bind fun (x31081, x31082) =>
    (cond (x31075 == x31082)
    ((base_Pairs n x31074 x31081).bind fun x31098 =>
    cond x31098
    ((base_Ints n x31067 x31036).bind fun x31101 =>
    some (x31101))
    (some (false)))
    (some (false)) : Option Bool).bind fun x31094 =>
    some (x31094))

def ref26_place_L1 (x31104 : (List Int)) (x31107 : Int) : Int → Option (Out Int (Out Unit Int))
  | x31141 =>
    cond (decide (x31141 < (x31104.length : Int)))
    ((idx x31104 x31141).bind fun x31152 =>
    cond (x31152 == x31107)
    (some (.done (.done x31141)))
    (some (.go (IntKind.i64.wrap (x31141 + 1)))))
    (some (.done (.go ())))

def ref26_place (n : Nat) : (List Int) → Int → Option Int
  | x31104, x31107 =>
    (loopN (ref26_place_L1 x31104 x31107) n 0 : Option (Out Unit Int)).bind fun y31133 => (match y31133 with
    | .go _ =>
    some ((-1))
    | .done r => some r)

def ordering_Reaches_L1 (x31253 : (List Int)) (x31256 : Int) (x31257 : Int) : (Int × Int) → Option (Out (Int × Int) Int)
  | (x31333, x31334) =>
    cond (decide (x31334 < (x31253.length : Int)))
    ((idx x31253 x31334).bind fun x31350 =>
    (cond (x31350 == x31256)
    (some (true))
    (some ((x31350 == x31257))) : Option Bool).bind fun x31356 =>
    cond x31356
    (some (.done x31333))
    ((need (decide (0 ≤ x31350))).bind fun _ =>
    some (.go ((ib .or .u64 x31333 (IntKind.u64.wrap ((1 : Int) * 2 ^ min x31350.toNat (IntKind.u64).bits))), (IntKind.i64.wrap (x31334 + 1))))))
    (some (.done x31333))

def ordering_Reaches_L3 (n : Nat) (x31257 : Int) (x31274 : (List Int)) (x31320 : Int) : (Int × Int) → Option (Out (Int × Int) (Out Unit Bool))
  | (x31458, x31459) =>
    cond (x31459 != 0)
    ((bits_TrailingZeros64 n x31459).bind fun x31486 =>
    (idx x31274 x31486).bind fun x31489 =>
    (need (decide (0 ≤ x31257))).bind fun _ =>
    cond ((ib .and .u64 (x31489.fdiv (2 ^ min x31257.toNat (IntKind.u64).bits)) 1) != 0)
    (some (.done (.done true)))
    ((idx x31274 x31486).bind fun x31499 =>
    some (.go ((ib .or .u64 x31458 (ib .andNot .u64 (ib .and .u64 x31499 x31320) x31458)), (ib .or .u64 (ib .and .u64 x31459 (IntKind.u64.wrap (x31459 - 1))) (ib .andNot .u64 (ib .and .u64 x31499 x31320) x31458))))))
    (some (.done (.go ())))

def ordering_Reaches (n : Nat) : Int → (List Pair) → (List Int) → Int → Int → Option Bool
  | x31249, x31250, x31253, x31256, x31257 =>
    ((ordering_Valid n x31249 x31250).bind fun x31268 =>
    cond (!x31268)
    (some (true))
    ((ordering_permutation n x31249 x31253).bind fun x31271 =>
    cond (!x31271)
    (some (true))
    (cond (decide (x31256 < 0))
    (some (true))
    (cond (decide (x31256 ≥ x31249))
    (some (true))
    (cond (decide (x31257 < 0))
    (some (true))
    (cond (decide (x31257 ≥ x31249))
    (some (true))
    (some ((x31256 == x31257)))))))) : Option Bool).bind fun x31264 =>
    cond x31264
    (some (false))
    ((ordering_build n x31249 x31250).bind fun x31274 =>
    (loopN (ordering_Reaches_L1 x31253 x31256 x31257) n (0, 0) : Option Int).bind fun x31320 =>
    (need (decide (0 ≤ x31256))).bind fun _ =>
    (need (decide (0 ≤ x31256))).bind fun _ =>
    (loopN (ordering_Reaches_L3 n x31257 x31274 x31320) n ((IntKind.u64.wrap ((1 : Int) * 2 ^ min x31256.toNat (IntKind.u64).bits)), (IntKind.u64.wrap ((1 : Int) * 2 ^ min x31256.toNat (IntKind.u64).bits))) : Option (Out Unit Bool)).bind fun y31436 => (match y31436 with
    | .go _ =>
    some (false)
    | .done r => some r))

def law26_has_L1 (x31549 : (List Pair)) (x31552 : Int) (x31553 : Int) : Int → Option (Out Int (Out Unit Bool))
  | x31671 =>
    cond (decide (x31671 < (x31549.length : Int)))
    (((idx x31549 x31671).bind fun x31718 =>
    cond (x31718.A == (if x31553 < x31552 then x31553 else x31552))
    ((idx x31549 x31671).bind fun x31724 =>
    some ((x31724.B == (if x31553 > x31552 then x31553 else x31552))))
    (some (false)) : Option Bool).bind fun x31715 =>
    cond x31715
    (some (.done (.done true)))
    (some (.go (IntKind.i64.wrap (x31671 + 1)))))
    (some (.done (.go ())))

def law26_has (n : Nat) : (List Pair) → Int → Int → Option Bool
  | x31549, x31552, x31553 =>
    (loopN (law26_has_L1 x31549 x31552 x31553) n 0 : Option (Out Unit Bool)).bind fun y31642 => (match y31642 with
    | .go _ =>
    some (false)
    | .done r => some r)

def law26_OrderingPaths_L13 (n : Nat) (x31732 : Graph) (x31735 : (List Int)) (x31762 : (List Pair)) (x31763 : Int) (x32312 : Int) : Int → Option (Out Int (Out Unit (Out Int (Out Unit Bool))))
  | x32538 =>
    cond (decide (x32538 < x31732.N))
    ((cond (x31763 == 0)
    (cond (x32312 != x32538)
    ((law26_has n x31732.E x32312 x32538).bind fun x32573 =>
    cond x32573
    (some (true))
    ((law26_has n x31762 x32312 x32538).bind fun x32576 =>
    some (x32576)))
    (some (false)))
    (some (false)) : Option Bool).bind fun x32569 =>
    (ordering_Reaches n x31732.N x31732.E x31735 x32312 x32538).bind fun x32579 =>
    cond (!(x32579 == x32569))
    (some (.done (.done (.done (.done false)))))
    (some (.go (IntKind.i64.wrap (x32538 + 1)))))
    (some (.done (.go ())))

def law26_OrderingPaths_L11 (n : Nat) (x31732 : Graph) (x31735 : (List Int)) (x31762 : (List Pair)) (x31763 : Int) : Int → Option (Out Int (Out Unit Bool))
  | x32312 =>
    cond (decide (x32312 < x31732.N))
    ((loopN (law26_OrderingPaths_L13 n x31732 x31735 x31762 x31763 x32312) n 0 : Option (Out Unit (Out Int (Out Unit Bool)))).bind fun y32517 => (match y32517 with
    | .go _ =>
    some (.go (IntKind.i64.wrap (x32312 + 1)))
    | .done r => some r))
    (some (.done (.go ())))

def law26_OrderingPaths (n : Nat) : Graph → (List Int) → Option Bool
  | x31732, x31735 =>
    ((law26_awake n ).bind fun x31753 =>
    cond (!x31753)
    (some (true))
    ((law26_few n (Graph.mk x31732.N x31732.E)).bind fun x31756 =>
    cond (!x31756)
    (some (true))
    (cond (decide (x31732.N > 10))
    (some (true))
    (some ((decide ((x31735.length : Int) > 100)))))) : Option Bool).bind fun x31749 =>
    cond x31749
    ((law26_awake n ).bind fun x31759 =>
    some (x31759))
    ((ordering_Fill n x31732.N x31732.E x31735).bind fun (x31762, x31763) =>
    (loopN (law26_OrderingPaths_L11 n x31732 x31735 x31762 x31763) n 0 : Option (Out Unit Bool)).bind fun y32177 => (match y32177 with
    | .go _ =>
    some (true)
    | .done r => some r))

def law26_merged_L1 (x32586 : (List Pair)) (x32589 : (List Pair)) : ((List Pair) × Int × Int) → Option (Out ((List Pair) × Int × Int) (List Pair))
  | (x33109, x33113, x33114) =>
    (cond (decide (x33113 < (x32586.length : Int)))
    (some (true))
    (some ((decide (x33114 < (x32589.length : Int))))) : Option Bool).bind fun x33249 =>
    cond x33249
    ((cond (x33114 == (x32589.length : Int))
    (some (true))
    (cond (decide (x33113 < (x32586.length : Int)))
    ((idx x32586 x33113).bind fun x33298 =>
    (idx x32589 x33114).bind fun x33304 =>
    cond (decide (x33298.A < x33304.A))
    (some (true))
    ((idx x32586 x33113).bind fun x33311 =>
    (idx x32589 x33114).bind fun x33317 =>
    cond (x33311.A == x33317.A)
    ((idx x32586 x33113).bind fun x33323 =>
    (idx x32589 x33114).bind fun x33329 =>
    some ((decide (x33323.B < x33329.B))))
    (some (false))))
    (some (false))) : Option Bool).bind fun x33293 =>
    cond x33293
    ((idx x32586 x33113).bind fun x33338 =>
    (app x33109 [(Pair.mk x33338.A x33338.B)]).bind fun x33348 =>
    some (.go (x33348, (IntKind.i64.wrap (x33113 + 1)), x33114)))
    ((idx x32589 x33114).bind fun x33354 =>
    (app x33109 [(Pair.mk x33354.A x33354.B)]).bind fun x33364 =>
    some (.go (x33364, x33113, (IntKind.i64.wrap (x33114 + 1))))))
    (some (.done x33109))

def law26_merged (n : Nat) : (List Pair) → (List Pair) → Option (List Pair)
  | x32586, x32589 =>
    (loopN (law26_merged_L1 x32586 x32589) n ([], 0, 0) : Option (List Pair)).bind fun x32978 =>
    some (x32978)

def ordering_graph_simplicial_L1 (n : Nat) (x33372 : (List Int)) (x33375 : Int) (x33376 : Int) (x33377 : Int) : Int → Option (Out Int (Out Unit Bool))
  | x33440 =>
    cond (x33440 != 0)
    ((bits_TrailingZeros64 n x33440).bind fun x33457 =>
    (idx x33372 x33457).bind fun x33460 =>
    (need (decide (0 ≤ x33457))).bind fun _ =>
    cond ((ib .andNot .u64 (ib .andNot .u64 (ib .and .u64 x33377 x33376) (IntKind.u64.wrap ((1 : Int) * 2 ^ min x33375.toNat (IntKind.u64).bits))) (ib .or .u64 x33460 (IntKind.u64.wrap ((1 : Int) * 2 ^ min x33457.toNat (IntKind.u64).bits)))) != 0)
    (some (.done (.done false)))
    (some (.go (ib .and .u64 x33440 (IntKind.u64.wrap (x33440 - 1))))))
    (some (.done (.go ())))

def ordering_graph_simplicial (n : Nat) : (List Int) → Int → Int → Option Bool
  | x33372, x33375, x33376 =>
    (idx x33372 x33375).bind fun x33377 =>
    (need (decide (0 ≤ x33375))).bind fun _ =>
    (loopN (ordering_graph_simplicial_L1 n x33372 x33375 x33376 x33377) n (ib .andNot .u64 (ib .and .u64 x33377 x33376) (IntKind.u64.wrap ((1 : Int) * 2 ^ min x33375.toNat (IntKind.u64).bits))) : Option (Out Unit Bool)).bind fun y33427 => (match y33427 with
    | .go _ =>
    some (true)
    | .done r => some r)

def ordering_Chordal_L13 (n : Nat) (x34096 : (List Int)) : (Int × Int) → Option (Out (Int × Int) Int)
  | (x34326, x34327) =>
    cond (x34327 != 0)
    (((bits_TrailingZeros64 n x34327).bind fun x34363 =>
    (ordering_graph_simplicial n x34096 x34363 x34326).bind fun x34366 =>
    cond x34366
    ((need (decide (0 ≤ x34363))).bind fun _ =>
    some ((ib .andNot .u64 x34326 (IntKind.u64.wrap ((1 : Int) * 2 ^ min x34363.toNat (IntKind.u64).bits)))))
    (some (x34326)) : Option Int).bind fun x34359 =>
    some (.go (x34359, (ib .and .u64 x34327 (IntKind.u64.wrap (x34327 - 1))))))
    (some (.done x34326))

def ordering_Chordal_L11 (n : Nat) : ((List Int) × Int) → Option (Out ((List Int) × Int) (Out Unit Bool))
  | (x34096, x34099) =>
    cond (x34099 != 0)
    ((loopN (ordering_Chordal_L13 n x34096) n (x34099, x34099) : Option Int).bind fun x34304 =>
    cond (x34304 == x34099)
    (some (.done (.done false)))
    (some (.go (x34096, x34304))))
    (some (.done (.go ())))

def ordering_Chordal (n : Nat) : Int → (List Pair) → Option Bool
  | x33470, x33471 =>
    (ordering_Valid n x33470 x33471).bind fun x33474 =>
    cond (!x33474)
    (some (false))
    ((ordering_build n x33470 x33471).bind fun x33477 =>
    (ordering_all n x33470).bind fun x33484 =>
    (loopN (ordering_Chordal_L11 n) n (x33477, x33484) : Option (Out Unit Bool)).bind fun y33930 => (match y33930 with
    | .go _ =>
    some (true)
    | .done r => some r))

def law26_OrderingAgain (n : Nat) : Graph → (List Int) → Option Bool
  | x34373, x34376 =>
    ((law26_awake n ).bind fun x34394 =>
    cond (!x34394)
    (some (true))
    ((law26_few n (Graph.mk x34373.N x34373.E)).bind fun x34397 =>
    cond (!x34397)
    (some (true))
    (some ((decide ((x34376.length : Int) > 100))))) : Option Bool).bind fun x34390 =>
    cond x34390
    ((law26_awake n ).bind fun x34400 =>
    some (x34400))
    ((ordering_Fill n x34373.N x34373.E x34376).bind fun (x34403, x34404) =>
    cond (x34404 != 0)
    (some (((x34403.length : Int) == 0)))
    (cond (decide ((x34403.length : Int) > 300))
    (some (false))
    ((law26_merged n x34373.E x34403).bind fun x34410 =>
    (ordering_Fill n x34373.N x34410 x34376).bind fun (x34416, x34417) =>
    (cond (x34417 == 0)
    (cond ((x34416.length : Int) == 0)
    ((ordering_Chordal n x34373.N x34410).bind fun x34430 =>
    some (x34430))
    (some (false)))
    (some (false)) : Option Bool).bind fun x34426 =>
    some (x34426))))

def ordering_Tree_L13 (x34441 : (List Int)) (x35417 : (List Int)) (x35787 : Int) (x35806 : (List Int)) : Int → Option (Out Int (List Int))
  | x35838 =>
    cond (decide (x35838 < (x35806.length : Int)))
    ((idx x35806 x35838).bind fun x35871 =>
    (idx x34441 x35787).bind fun x35877 =>
    (need (decide (0 ≤ x35871))).bind fun _ =>
    cond ((ib .and .u64 (x35877.fdiv (2 ^ min x35871.toNat (IntKind.u64).bits)) 1) != 0)
    ((idx (upd x35417 x35787 (-1)) x35787).bind fun x35886 =>
    some (.done (upd (upd x35417 x35787 (-1)) x35787 x35871)))
    (some (.go (IntKind.i64.wrap (x35838 + 1)))))
    (some (.done (upd x35417 x35787 (-1))))

def ordering_Tree_L11 (n : Nat) (x34437 : (List Int)) (x34441 : (List Int)) : ((List Int) × Int) → Option (Out ((List Int) × Int) (List Int))
  | (x35417, x35421) =>
    cond (decide (x35421 < (x34437.length : Int)))
    (((idx x34437 x35421).bind fun x35787 =>
    (idx x35417 x35787).bind fun x35793 =>
    (cut x34437 (IntKind.i64.wrap (x35421 + 1)) (x34437.length : Int)).bind fun x35806 =>
    loopN (ordering_Tree_L13 x34441 x35417 x35787 x35806) n 0 : Option (List Int)).bind fun x35780 =>
    some (.go (x35780, (IntKind.i64.wrap (x35421 + 1)))))
    (some (.done x35417))

def ordering_Tree (n : Nat) : Int → (List Pair) → (List Int) → Option ((List Int) × Int)
  | x34433, x34434, x34437 =>
    (ordering_filled n x34433 x34434 x34437).bind fun (x34441, x34442) =>
    cond (x34442 != 0)
    (some (([], x34442)))
    ((mk x34433 0).bind fun x34449 =>
    (loopN (ordering_Tree_L11 n x34437 x34441) n (x34449, 0) : Option (List Int)).bind fun x35175 =>
    some ((x35175, 0)))

def ordering_Height_L1 (x35907 : (List Int)) (x35910 : (List Int)) : ((List Int) × Int × Int) → Option (Out ((List Int) × Int × Int) Int)
  | (x36544, x36548, x36549) =>
    cond (decide (x36549 < (x35907.length : Int)))
    (((idx x35907 x36549).bind fun x36789 =>
    (idx x36544 x36789).bind fun x36795 =>
    (idx x36544 x36789).bind fun x36803 =>
    (idx (upd x36544 x36789 (IntKind.i64.wrap (x36795 + 1))) x36789).bind fun x36816 =>
    (idx x35910 x36789).bind fun x36824 =>
    cond (decide (x36824 ≥ 0))
    ((idx (upd x36544 x36789 (IntKind.i64.wrap (x36795 + 1))) x36824).bind fun x36831 =>
    (idx (upd x36544 x36789 (IntKind.i64.wrap (x36795 + 1))) x36789).bind fun x36839 =>
    (idx (upd x36544 x36789 (IntKind.i64.wrap (x36795 + 1))) x36824).bind fun x36847 =>
    some (((upd (upd x36544 x36789 (IntKind.i64.wrap (x36795 + 1))) x36824 (if x36839 > x36831 then x36839 else x36831)), (if x36816 > x36548 then x36816 else x36548))))
    (some (((upd x36544 x36789 (IntKind.i64.wrap (x36795 + 1))), (if x36816 > x36548 then x36816 else x36548)))) : Option ((List Int) × Int)).bind fun (x36781, x36785) =>
    some (.go (x36781, x36785, (IntKind.i64.wrap (x36549 + 1)))))
    (some (.done x36548))

def ordering_Height (n : Nat) : Int → (List Pair) → (List Int) → Option (Int × Int)
  | x35903, x35904, x35907 =>
    (ordering_Tree n x35903 x35904 x35907).bind fun (x35910, x35911) =>
    cond (x35911 != 0)
    (some ((0, x35911)))
    ((mk x35903 0).bind fun x35917 =>
    (loopN (ordering_Height_L1 x35907 x35910) n (x35917, 0, 0) : Option Int).bind fun x36390 =>
    some ((x36390, 0)))

def ref26_Tree_L13 (x36865 : (List Int)) (x36872 : (List (List Bool))) (x39448 : Int) : ((List Int) × Int) → Option (Out ((List Int) × Int) (List Int))
  | (x40523, x40527) =>
    cond (decide (x40527 > x39448))
    (((idx x36865 x39448).bind fun x40680 =>
    (idx x36865 x40527).bind fun x40686 =>
    (idx x36872 x40680).bind fun x40692 =>
    (idx x40692 x40686).bind fun x40694 =>
    cond x40694
    ((idx x36865 x39448).bind fun x40698 =>
    (idx x36865 x40527).bind fun x40704 =>
    (idx x40523 x40698).bind fun x40710 =>
    some ((upd x40523 x40698 x40704)))
    (some (x40523)) : Option (List Int)).bind fun x40673 =>
    some (.go (x40673, (IntKind.i64.wrap (x40527 - 1)))))
    (some (.done x40523))

def ref26_Tree_L11 (n : Nat) (x36861 : Int) (x36865 : (List Int)) (x36872 : (List (List Bool))) : ((List Int) × Int) → Option (Out ((List Int) × Int) (List Int))
  | (x39444, x39448) =>
    cond (decide (x39448 < x36861))
    (((idx x36865 x39448).bind fun x40411 =>
    (idx x39444 x40411).bind fun x40417 =>
    loopN (ref26_Tree_L13 x36865 x36872 x39448) n ((upd x39444 x40411 (-1)), (IntKind.i64.wrap (x36861 - 1))) : Option (List Int)).bind fun x40404 =>
    some (.go (x40404, (IntKind.i64.wrap (x39448 + 1)))))
    (some (.done x39444))

def ref26_Tree (n : Nat) : Int → (List Pair) → (List Int) → Option ((List Int) × Int)
  | x36861, x36862, x36865 =>
    (ref26_check n x36861 x36862 x36865).bind fun x36869 =>
    cond (x36869 != 0)
    (some (([], x36869)))
    ((ref26_Filled n x36861 x36862 x36865).bind fun x36872 =>
    (mk x36861 0).bind fun x36884 =>
    (loopN (ref26_Tree_L11 n x36861 x36865 x36872) n (x36884, 0) : Option (List Int)).bind fun x38804 =>
    some ((x38804, 0)))

def ref26_Height_L25 (x40733 : (List Int)) : (Int × Int) → Option (Out (Int × Int) Int)
  | (x41416, x41417) =>
    cond (decide (x41417 ≥ 0))
    ((idx x40733 x41417).bind fun x41429 =>
    some (.go ((IntKind.i64.wrap (x41416 + 1)), x41429)))
    (some (.done x41416))

def ref26_Height_L21 (n : Nat) (x40726 : Int) (x40733 : (List Int)) : (Int × Int) → Option (Out (Int × Int) Int)
  | (x41203, x41204) =>
    cond (decide (x41204 < x40726))
    (((loopN (ref26_Height_L25 x40733) n (0, x41204) : Option Int).bind fun x41407 =>
    some ((if x41407 > x41203 then x41407 else x41203)) : Option Int).bind fun x41378 =>
    some (.go (x41378, (IntKind.i64.wrap (x41204 + 1)))))
    (some (.done x41203))

def ref26_Height (n : Nat) : Int → (List Pair) → (List Int) → Option (Int × Int)
  | x40726, x40727, x40730 =>
    (ref26_Tree n x40726 x40727 x40730).bind fun (x40733, x40734) =>
    cond (x40734 != 0)
    (some ((0, x40734)))
    ((loopN (ref26_Height_L21 n x40726 x40733) n (0, 0) : Option Int).bind fun x41087 =>
    some ((x41087, 0)))

def law26_OrderingTrees (n : Nat) : Graph → (List Int) → Option Bool
  | x41437, x41440 =>
    ((law26_awake n ).bind fun x41458 =>
    cond (!x41458)
    (some (true))
    ((law26_few n (Graph.mk x41437.N x41437.E)).bind fun x41461 =>
    cond (!x41461)
    (some (true))
    (some ((decide ((x41440.length : Int) > 100))))) : Option Bool).bind fun x41454 =>
    cond x41454
    ((law26_awake n ).bind fun x41464 =>
    some (x41464))
    ((ordering_Tree n x41437.N x41437.E x41440).bind fun (x41467, x41468) =>
    (ordering_Height n x41437.N x41437.E x41440).bind fun (x41474, x41475) =>
    (ref26_Tree n x41437.N x41437.E x41440).bind fun (x41478, x41479) =>
    (ref26_Height n x41437.N x41437.E x41440).bind fun (x41485, x41486) =>
    (cond (x41468 == x41479)
    (cond (x41475 == x41486)
    ((base_Ints n x41467 x41478).bind fun x41496 =>
    cond x41496
    (some ((x41474 == x41485)))
    (some (false)))
    (some (false)))
    (some (false)) : Option Bool).bind fun x41492 =>
    some (x41492))

def law26_OrderingLater_L1 (x41499 : Graph) (x41502 : (List Int)) : ((List Int) × Int) → Option (Out ((List Int) × Int) (List Int))
  | (x41666, x41670) =>
    cond (decide (x41670 < x41499.N))
    ((idx x41502 x41670).bind fun x41699 =>
    (idx x41666 x41699).bind fun x41705 =>
    some (.go ((upd x41666 x41699 x41670), (IntKind.i64.wrap (x41670 + 1)))))
    (some (.done x41666))

def law26_OrderingLater_L3 (x41499 : Graph) (x41529 : (List Int)) (x41640 : (List Int)) : Int → Option (Out Int (Out Unit Bool))
  | x42098 =>
    cond (decide (x42098 < x41499.N))
    (((idx x41529 x42098).bind fun x42244 =>
    cond (decide (x42244 < (-1)))
    (some (true))
    ((idx x41529 x42098).bind fun x42251 =>
    cond (decide (x42251 ≥ x41499.N))
    (some (true))
    ((idx x41529 x42098).bind fun x42258 =>
    cond (decide (x42258 ≥ 0))
    ((idx x41529 x42098).bind fun x42264 =>
    (idx x41640 x42264).bind fun x42270 =>
    (idx x41640 x42098).bind fun x42278 =>
    some ((decide (x42270 ≤ x42278))))
    (some (false)))) : Option Bool).bind fun x42240 =>
    cond x42240
    (some (.done (.done false)))
    (some (.go (IntKind.i64.wrap (x42098 + 1)))))
    (some (.done (.go ())))

def law26_OrderingLater_L29 (x41529 : (List Int)) (x43775 : Int) : (Int × Int) → Option (Out (Int × Int) (Int × Int))
  | (x43844, x43845) =>
    (cond (x43844 != x43775)
    (some ((decide (x43844 ≥ 0))))
    (some (false)) : Option Bool).bind fun x43860 =>
    cond x43860
    ((idx x41529 x43844).bind fun x43863 =>
    some (.go (x43863, (IntKind.i64.wrap (x43845 + 1)))))
    (some (.done (x43844, x43845)))

def law26_OrderingLater_L25 (n : Nat) (x41499 : Graph) (x41529 : (List Int)) (x41536 : Int) (x41640 : (List Int)) : Int → Option (Out Int (Out Unit Bool))
  | x43345 =>
    cond (decide (x43345 < (x41499.E.length : Int)))
    (((idx x41499.E x43345).bind fun x43744 =>
    (idx x41499.E x43345).bind fun x43750 =>
    ((idx x41640 x43744.A).bind fun x43779 =>
    (idx x41640 x43750.B).bind fun x43787 =>
    cond (decide (x43779 > x43787))
    (some ((x43750.B, x43744.A)))
    (some ((x43744.A, x43750.B))) : Option (Int × Int)).bind fun (x43774, x43775) =>
    (loopN (law26_OrderingLater_L29 x41529 x43775) n (x43774, 1) : Option (Int × Int)).bind fun (x43831, x43832) =>
    (cond (x43831 != x43775)
    (some (true))
    (some ((decide (x43832 > x41536)))) : Option Bool).bind fun x43870 =>
    cond x43870
    (some (.done (.done (.done false))))
    (some (.go ())) : Option (Out Unit (Out Int (Out Unit Bool)))).bind fun y43742 => (match y43742 with
    | .go _ =>
    some (.go (IntKind.i64.wrap (x43345 + 1)))
    | .done r => some r))
    (some (.done (.go ())))

def law26_OrderingLater (n : Nat) : Graph → (List Int) → Option Bool
  | x41499, x41502 =>
    ((law26_awake n ).bind fun x41520 =>
    cond (!x41520)
    (some (true))
    ((law26_few n (Graph.mk x41499.N x41499.E)).bind fun x41523 =>
    cond (!x41523)
    (some (true))
    (some ((decide ((x41502.length : Int) > 100))))) : Option Bool).bind fun x41516 =>
    cond x41516
    ((law26_awake n ).bind fun x41526 =>
    some (x41526))
    ((ordering_Tree n x41499.N x41499.E x41502).bind fun (x41529, x41530) =>
    (ordering_Height n x41499.N x41499.E x41502).bind fun (x41536, x41537) =>
    ((ref26_Valid n x41499.N x41499.E).bind fun x41550 =>
    cond (!x41550)
    (some (true))
    ((ref26_Order n x41499.N x41502).bind fun x41553 =>
    some ((!x41553))) : Option Bool).bind fun x41546 =>
    cond x41546
    ((cond (x41530 != 0)
    (cond (x41530 == x41537)
    (cond ((x41529.length : Int) == 0)
    (some ((x41536 == 0)))
    (some (false)))
    (some (false)))
    (some (false)) : Option Bool).bind fun x41556 =>
    some (x41556))
    ((cond (x41530 != 0)
    (some (true))
    (cond (x41537 != 0)
    (some (true))
    (cond ((x41529.length : Int) != x41499.N)
    (some (true))
    (some ((decide (x41536 > x41499.N)))))) : Option Bool).bind fun x41559 =>
    cond x41559
    (some (false))
    ((mk x41499.N 0).bind fun x41562 =>
    (loopN (law26_OrderingLater_L1 x41499 x41502) n (x41562, 0) : Option (List Int)).bind fun x41640 =>
    (loopN (law26_OrderingLater_L3 x41499 x41529 x41640) n 0 : Option (Out Unit Bool)).bind fun y42004 => (match y42004 with
    | .go _ =>
    (loopN (law26_OrderingLater_L25 n x41499 x41529 x41536 x41640) n 0 : Option (Out Unit Bool)).bind fun y43082 => (match y43082 with
    | .go _ =>
    some (true)
    | .done r => some r)
    | .done r => some r))))

def law26_clone (n : Nat) : (List Pair) → Option (List Pair)
  | x43875 =>
    (app ([] : List Pair) x43875).bind fun x43883 =>
    some (x43883)

def ordering_Simplicial_L1 (n : Nat) (x43890 : Int) : ((List Int) × (List Int) × Int) → Option (Out ((List Int) × (List Int) × Int) (List Int))
  | (x44114, x44117, x44121) =>
    cond (decide (x44121 < x43890))
    (((ordering_all n x43890).bind fun x44202 =>
    (ordering_graph_simplicial n x44114 x44121 x44202).bind fun x44205 =>
    cond x44205
    ((app x44117 [x44121]).bind fun x44212 =>
    some (x44212))
    (some (x44117)) : Option (List Int)).bind fun x44194 =>
    some (.go (x44114, x44194, (IntKind.i64.wrap (x44121 + 1)))))
    (some (.done x44117))

def ordering_Simplicial (n : Nat) : Int → (List Pair) → Option ((List Int) × Int)
  | x43890, x43891 =>
    (ordering_Valid n x43890 x43891).bind fun x43895 =>
    cond (!x43895)
    (some (([], 1)))
    ((ordering_build n x43890 x43891).bind fun x43898 =>
    (loopN (ordering_Simplicial_L1 n x43890) n (x43898, [], 0) : Option (List Int)).bind fun x44058 =>
    some ((x44058, 0)))

def ref26_joined_L13 (x44220 : (List (List Bool))) (x44223 : (List Bool)) (x44227 : Int) (x45149 : Int) : Int → Option (Out Int (Out Unit (Out Int (Out Unit Bool))))
  | x45529 =>
    cond (decide (x45529 < x45149))
    (((idx x44223 x45149).bind fun x45588 =>
    cond (!x45588)
    ((idx x44223 x45529).bind fun x45590 =>
    cond (!x45590)
    ((idx x44220 x44227).bind fun x45592 =>
    (idx x45592 x45149).bind fun x45594 =>
    cond x45594
    ((idx x44220 x44227).bind fun x45596 =>
    (idx x45596 x45529).bind fun x45598 =>
    cond x45598
    ((idx x44220 x45149).bind fun x45600 =>
    (idx x45600 x45529).bind fun x45602 =>
    some ((!x45602)))
    (some (false)))
    (some (false)))
    (some (false)))
    (some (false)) : Option Bool).bind fun x45585 =>
    cond x45585
    (some (.done (.done (.done (.done false)))))
    (some (.go (IntKind.i64.wrap (x45529 + 1)))))
    (some (.done (.go ())))

def ref26_joined_L11 (n : Nat) (x44220 : (List (List Bool))) (x44223 : (List Bool)) (x44226 : Int) (x44227 : Int) : Int → Option (Out Int (Out Unit Bool))
  | x45149 =>
    cond (decide (x45149 < x44226))
    ((loopN (ref26_joined_L13 x44220 x44223 x44227 x45149) n 0 : Option (Out Unit (Out Int (Out Unit Bool)))).bind fun y45492 => (match y45492 with
    | .go _ =>
    some (.go (IntKind.i64.wrap (x45149 + 1)))
    | .done r => some r))
    (some (.done (.go ())))

def ref26_joined (n : Nat) : (List (List Bool)) → (List Bool) → Int → Int → Option Bool
  | x44220, x44223, x44226, x44227 =>
    (loopN (ref26_joined_L11 n x44220 x44223 x44226 x44227) n 0 : Option (Out Unit Bool)).bind fun y44921 => (match y44921 with
    | .go _ =>
    some (true)
    | .done r => some r)

def ref26_Simplicial_L1 (n : Nat) (x45608 : Int) (x45616 : (List (List Bool))) : ((List Int) × Int) → Option (Out ((List Int) × Int) (List Int))
  | (x45816, x45820) =>
    cond (decide (x45820 < x45608))
    (((ref26_joined n x45616 (List.replicate 64 false) x45608 x45820).bind fun x45896 =>
    cond x45896
    ((app x45816 [x45820]).bind fun x45903 =>
    some (x45903))
    (some (x45816)) : Option (List Int)).bind fun x45886 =>
    some (.go (x45886, (IntKind.i64.wrap (x45820 + 1)))))
    (some (.done x45816))

def ref26_Simplicial (n : Nat) : Int → (List Pair) → Option ((List Int) × Int)
  | x45608, x45609 =>
    (ref26_Valid n x45608 x45609).bind fun x45613 =>
    cond (!x45613)
    (some (([], 1)))
    ((ref26_Table n x45608 x45609).bind fun x45616 =>
    (loopN (ref26_Simplicial_L1 n x45608 x45616) n ([], 0) : Option (List Int)).bind fun x45767 =>
    some ((x45767, 0)))

def ref26_Chordal_L25 (n : Nat) (x45911 : Int) (x45918 : (List (List Bool))) : ((List Bool) × Bool × Int) → Option (Out ((List Bool) × Bool × Int) ((List Bool) × Bool))
  | (x50488, x50491, x50492) =>
    (cond (decide (x50492 < x45911))
    (some ((!x50491)))
    (some (false)) : Option Bool).bind fun x50560 =>
    cond x50560
    ((((idx x50488 x50492).bind fun x50605 =>
    cond (!x50605)
    ((ref26_joined n x45918 x50488 x45911 x50492).bind fun x50609 =>
    some (x50609))
    (some (false)) : Option Bool).bind fun x50601 =>
    cond x50601
    ((idx x50488 x50492).bind fun x50612 =>
    some (((upd x50488 x50492 true), true)))
    (some ((x50488, x50491))) : Option ((List Bool) × Bool)).bind fun (x50587, x50590) =>
    some (.go (x50587, x50590, (IntKind.i64.wrap (x50492 + 1)))))
    (some (.done (x50488, x50491)))

def ref26_Chordal_L21 (n : Nat) (x45911 : Int) (x45918 : (List (List Bool))) : ((List Bool) × Int) → Option (Out ((List Bool) × Int) (Out Unit Bool))
  | (x49055, x49058) =>
    cond (decide (x49058 < x45911))
    (((loopN (ref26_Chordal_L25 n x45911 x45918) n (x49055, false, 0) : Option ((List Bool) × Bool)).bind fun (x50423, x50426) =>
    cond (!x50426)
    (some (.done (.done (.done false))))
    (some (.go x50423)) : Option (Out (List Bool) (Out ((List Bool) × Int) (Out Unit Bool)))).bind fun y50232 => (match y50232 with
    | .go x50228 =>
    some (.go (x50228, (IntKind.i64.wrap (x49058 + 1))))
    | .done r => some r))
    (some (.done (.go ())))

def ref26_Chordal (n : Nat) : Int → (List Pair) → Option Bool
  | x45911, x45912 =>
    (ref26_Valid n x45911 x45912).bind fun x45915 =>
    cond (!x45915)
    (some (false))
    ((ref26_Table n x45911 x45912).bind fun x45918 =>
    (loopN (ref26_Chordal_L21 n x45911 x45918) n ((List.replicate 64 false), 0) : Option (Out Unit Bool)).bind fun y48277 => (match y48277 with
    | .go _ =>
    some (true)
    | .done r => some r))

def law26_OrderingValid (n : Nat) : Graph → Option Bool
  | x50621 =>
    ((law26_awake n ).bind fun x50639 =>
    cond (!x50639)
    (some (true))
    ((law26_few n (Graph.mk x50621.N x50621.E)).bind fun x50642 =>
    some ((!x50642))) : Option Bool).bind fun x50635 =>
    cond x50635
    ((law26_awake n ).bind fun x50645 =>
    some (x50645))
    ((law26_clone n x50621.E).bind fun x50648 =>
    (ordering_Simplicial n x50621.N x50648).bind fun (x50654, x50655) =>
    (ref26_Simplicial n x50621.N x50621.E).bind fun (x50661, x50662) =>
    ((ordering_Valid n x50621.N x50648).bind fun x50689 =>
    (ref26_Valid n x50621.N x50621.E).bind fun x50691 =>
    cond (x50689 == x50691)
    ((ordering_Chordal n x50621.N x50648).bind fun x50693 =>
    (ref26_Chordal n x50621.N x50621.E).bind fun x50695 =>
    cond (x50693 == x50695)
    (cond (x50655 == x50662)
    ((base_Ints n x50654 x50661).bind fun x50697 =>
    cond x50697
    ((base_Pairs n x50648 x50621.E).bind fun x50699 =>
    some (x50699))
    (some (false)))
    (some (false)))
    (some (false)))
    (some (false)) : Option Bool).bind fun x50685 =>
    some (x50685))

def law26_OrderingPerfect_L1 (x50709 : (List Int)) (x50743 : (List Int)) : Int → Option (Out Int (Out Unit Bool))
  | x50825 =>
    cond (decide (x50825 < (x50743.length : Int)))
    ((idx x50743 x50825).bind fun x50844 =>
    (idx x50709 0).bind fun x50850 =>
    cond (x50844 == x50850)
    (some (.done (.done true)))
    (some (.go (IntKind.i64.wrap (x50825 + 1)))))
    (some (.done (.go ())))

def law26_OrderingPerfect (n : Nat) : Graph → (List Int) → Option Bool
  | x50706, x50709 =>
    ((law26_awake n ).bind fun x50727 =>
    cond (!x50727)
    (some (true))
    ((law26_few n (Graph.mk x50706.N x50706.E)).bind fun x50730 =>
    cond (!x50730)
    (some (true))
    (some ((decide ((x50709.length : Int) > 100))))) : Option Bool).bind fun x50723 =>
    cond x50723
    ((law26_awake n ).bind fun x50733 =>
    some (x50733))
    ((ordering_Fill n x50706.N x50706.E x50709).bind fun (x50736, x50737) =>
    (ordering_Simplicial n x50706.N x50706.E).bind fun (x50743, x50744) =>
    (ordering_Chordal n x50706.N x50706.E).bind fun x50750 =>
    (cond x50750
    (cond (x50744 != 0)
    (some (true))
    (cond (decide (x50706.N > 0))
    (some (((x50743.length : Int) == 0)))
    (some (false))))
    (some (false)) : Option Bool).bind fun x50753 =>
    cond x50753
    (some (false))
    ((cond (x50737 != 0)
    (some (true))
    (cond (decide ((x50736.length : Int) > 0))
    (some (true))
    (some ((x50706.N == 0)))) : Option Bool).bind fun x50756 =>
    cond x50756
    (some (true))
    ((cond (!x50750)
    (some (true))
    (cond (x50744 != 0)
    (some (true))
    (some (((x50709.length : Int) == 0)))) : Option Bool).bind fun x50759 =>
    cond x50759
    (some (false))
    ((loopN (law26_OrderingPerfect_L1 x50709 x50743) n 0 : Option (Out Unit Bool)).bind fun y50810 => (match y50810 with
    | .go _ =>
    some (false)
    | .done r => some r)))))

end Go.Proofs.YtgmiencjoghnnaaDoor
