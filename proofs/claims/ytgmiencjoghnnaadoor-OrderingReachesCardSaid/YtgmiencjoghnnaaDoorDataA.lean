/-
  What the functions of the program compute, as plain Lean functions.
-/
import Derived.Test.YtgmiencjoghnnaaDoorCoreA
namespace Go.Proofs.YtgmiencjoghnnaaDoor
open Go Go.Proofs.YtgmiencjoghnnaaDoor.Gw Go.RowKit
set_option linter.unusedVariables false
def tab64 : List Int := [0, 1, 56, 2, 57, 49, 28, 3, 61, 58, 42, 50, 38, 29, 17, 4, 62, 47, 59, 36, 45, 43, 51, 22, 53, 39, 33, 30, 24, 18, 12, 5, 63, 55, 48, 27, 60, 41, 37, 16, 46, 35, 44, 21, 52, 32, 23, 11, 54, 26, 40, 15, 34, 20, 31, 10, 25, 14, 19, 9, 13, 8, 7, 6]
structure Pair where
  A : Int
  B : Int
structure Graph where
  N : Int
  E : (List Pair)
def okPair (x : Pair) : Prop := inK .i64 x.A ∧ inK .i64 x.B
def okGraph (x : Graph) : Prop := inK .i64 x.N ∧ (x.E.length ≤ maxLen ∧ ∀ yxE ∈ x.E, okPair yxE)
def ordering_Valid_L1 (x1 : Int) (x2 : (List Pair)) : Int → Option (Out Int (Out Unit Bool))
  | x260 =>
    cond (decide (x260 < (x2.length : Int)))
    ((idx x2 x260).bind fun x326 =>
    (cond (decide (x326.A < 0))
    (some (true))
    (cond (decide (x326.A ≥ x326.B))
    (some (true))
    (some ((decide (x326.B ≥ x1))))) : Option Bool).bind fun x335 =>
    cond x335
    (some (.done (.done false)))
    ((cond (decide (x260 > 0))
    ((idx x2 (IntKind.i64.wrap (x260 - 1))).bind fun x365 =>
    cond (decide (x365.A > x326.A))
    (some (true))
    ((idx x2 (IntKind.i64.wrap (x260 - 1))).bind fun x372 =>
    cond (x372.A == x326.A)
    ((idx x2 (IntKind.i64.wrap (x260 - 1))).bind fun x378 =>
    some ((decide (x378.B ≥ x326.B))))
    (some (false))))
    (some (false)) : Option Bool).bind fun x361 =>
    cond x361
    (some (.done (.done false)))
    (some (.go (IntKind.i64.wrap (x260 + 1))))))
    (some (.done (.go ())))

def ordering_Valid (n : Nat) : Int → (List Pair) → Option Bool
  | x1, x2 =>
    (cond (decide (x1 < 0))
    (some (true))
    (some ((decide (x1 > 64)))) : Option Bool).bind fun x5 =>
    cond x5
    (some (false))
    ((loopN (ordering_Valid_L1 x1 x2) n 0 : Option (Out Unit Bool)).bind fun y198 => (match y198 with
    | .go _ =>
    some (true)
    | .done r => some r))

def ordering_build_L1 (x390 : (List Pair)) : ((List Int) × Int) → Option (Out ((List Int) × Int) (List Int))
  | (x643, x647) =>
    cond (decide (x647 < (x390.length : Int)))
    ((idx x390 x647).bind fun x712 =>
    (idx x643 x712.A).bind fun x722 =>
    (need (decide (0 ≤ x712.B))).bind fun _ =>
    (idx x643 x712.A).bind fun x731 =>
    (idx (upd x643 x712.A (ib .or .u64 x722 (IntKind.u64.wrap ((1 : Int) * 2 ^ min x712.B.toNat (IntKind.u64).bits)))) x712.B).bind fun x745 =>
    (need (decide (0 ≤ x712.A))).bind fun _ =>
    (idx (upd x643 x712.A (ib .or .u64 x722 (IntKind.u64.wrap ((1 : Int) * 2 ^ min x712.B.toNat (IntKind.u64).bits)))) x712.B).bind fun x754 =>
    some (.go ((upd (upd x643 x712.A (ib .or .u64 x722 (IntKind.u64.wrap ((1 : Int) * 2 ^ min x712.B.toNat (IntKind.u64).bits)))) x712.B (ib .or .u64 x745 (IntKind.u64.wrap ((1 : Int) * 2 ^ min x712.A.toNat (IntKind.u64).bits)))), (IntKind.i64.wrap (x647 + 1)))))
    (some (.done x643))

def ordering_build (n : Nat) : Int → (List Pair) → Option (List Int)
  | x389, x390 =>
    (mk x389 0).bind fun x395 =>
    (loopN (ordering_build_L1 x390) n (x395, 0) : Option (List Int)).bind fun x581 =>
    some (x581)

def ordering_all (n : Nat) : Int → Option Int
  | x768 =>
    cond (x768 == 64)
    (some (18446744073709551615))
    ((need (decide (0 ≤ x768))).bind fun _ =>
    some ((IntKind.u64.wrap ((IntKind.u64.wrap ((1 : Int) * 2 ^ min x768.toNat (IntKind.u64).bits)) - 1))))

def bits_TrailingZeros64 (n : Nat) : Int → Option Int
  | x770 =>
    cond (x770 == 0)
    (some (64))
    ((idx tab64 ((IntKind.u64.wrap ((ib .and .u64 x770 (IntKind.u64.wrap (0 - x770))) * 285870213051353865)).fdiv (2 ^ min (58 : Int).toNat (IntKind.u64).bits))).bind fun x771 =>
    some ((IntKind.i64.wrap x771)))

def bits_OnesCount64 (n : Nat) : Int → Option Int
  | x773 =>
    some ((ib .and .i64 (IntKind.i64.wrap (IntKind.u64.wrap ((IntKind.u64.wrap ((IntKind.u64.wrap ((ib .and .u64 (IntKind.u64.wrap (((IntKind.u64.wrap ((ib .and .u64 ((IntKind.u64.wrap ((ib .and .u64 (x773.fdiv (2 ^ min (1 : Int).toNat (IntKind.u64).bits)) 6148914691236517205) + (ib .and .u64 x773 6148914691236517205))).fdiv (2 ^ min (2 : Int).toNat (IntKind.u64).bits)) 3689348814741910323) + (ib .and .u64 (IntKind.u64.wrap ((ib .and .u64 (x773.fdiv (2 ^ min (1 : Int).toNat (IntKind.u64).bits)) 6148914691236517205) + (ib .and .u64 x773 6148914691236517205))) 3689348814741910323))).fdiv (2 ^ min (4 : Int).toNat (IntKind.u64).bits)) + (IntKind.u64.wrap ((ib .and .u64 ((IntKind.u64.wrap ((ib .and .u64 (x773.fdiv (2 ^ min (1 : Int).toNat (IntKind.u64).bits)) 6148914691236517205) + (ib .and .u64 x773 6148914691236517205))).fdiv (2 ^ min (2 : Int).toNat (IntKind.u64).bits)) 3689348814741910323) + (ib .and .u64 (IntKind.u64.wrap ((ib .and .u64 (x773.fdiv (2 ^ min (1 : Int).toNat (IntKind.u64).bits)) 6148914691236517205) + (ib .and .u64 x773 6148914691236517205))) 3689348814741910323))))) 1085102592571150095) + ((ib .and .u64 (IntKind.u64.wrap (((IntKind.u64.wrap ((ib .and .u64 ((IntKind.u64.wrap ((ib .and .u64 (x773.fdiv (2 ^ min (1 : Int).toNat (IntKind.u64).bits)) 6148914691236517205) + (ib .and .u64 x773 6148914691236517205))).fdiv (2 ^ min (2 : Int).toNat (IntKind.u64).bits)) 3689348814741910323) + (ib .and .u64 (IntKind.u64.wrap ((ib .and .u64 (x773.fdiv (2 ^ min (1 : Int).toNat (IntKind.u64).bits)) 6148914691236517205) + (ib .and .u64 x773 6148914691236517205))) 3689348814741910323))).fdiv (2 ^ min (4 : Int).toNat (IntKind.u64).bits)) + (IntKind.u64.wrap ((ib .and .u64 ((IntKind.u64.wrap ((ib .and .u64 (x773.fdiv (2 ^ min (1 : Int).toNat (IntKind.u64).bits)) 6148914691236517205) + (ib .and .u64 x773 6148914691236517205))).fdiv (2 ^ min (2 : Int).toNat (IntKind.u64).bits)) 3689348814741910323) + (ib .and .u64 (IntKind.u64.wrap ((ib .and .u64 (x773.fdiv (2 ^ min (1 : Int).toNat (IntKind.u64).bits)) 6148914691236517205) + (ib .and .u64 x773 6148914691236517205))) 3689348814741910323))))) 1085102592571150095).fdiv (2 ^ min (8 : Int).toNat (IntKind.u64).bits)))) + ((IntKind.u64.wrap ((ib .and .u64 (IntKind.u64.wrap (((IntKind.u64.wrap ((ib .and .u64 ((IntKind.u64.wrap ((ib .and .u64 (x773.fdiv (2 ^ min (1 : Int).toNat (IntKind.u64).bits)) 6148914691236517205) + (ib .and .u64 x773 6148914691236517205))).fdiv (2 ^ min (2 : Int).toNat (IntKind.u64).bits)) 3689348814741910323) + (ib .and .u64 (IntKind.u64.wrap ((ib .and .u64 (x773.fdiv (2 ^ min (1 : Int).toNat (IntKind.u64).bits)) 6148914691236517205) + (ib .and .u64 x773 6148914691236517205))) 3689348814741910323))).fdiv (2 ^ min (4 : Int).toNat (IntKind.u64).bits)) + (IntKind.u64.wrap ((ib .and .u64 ((IntKind.u64.wrap ((ib .and .u64 (x773.fdiv (2 ^ min (1 : Int).toNat (IntKind.u64).bits)) 6148914691236517205) + (ib .and .u64 x773 6148914691236517205))).fdiv (2 ^ min (2 : Int).toNat (IntKind.u64).bits)) 3689348814741910323) + (ib .and .u64 (IntKind.u64.wrap ((ib .and .u64 (x773.fdiv (2 ^ min (1 : Int).toNat (IntKind.u64).bits)) 6148914691236517205) + (ib .and .u64 x773 6148914691236517205))) 3689348814741910323))))) 1085102592571150095) + ((ib .and .u64 (IntKind.u64.wrap (((IntKind.u64.wrap ((ib .and .u64 ((IntKind.u64.wrap ((ib .and .u64 (x773.fdiv (2 ^ min (1 : Int).toNat (IntKind.u64).bits)) 6148914691236517205) + (ib .and .u64 x773 6148914691236517205))).fdiv (2 ^ min (2 : Int).toNat (IntKind.u64).bits)) 3689348814741910323) + (ib .and .u64 (IntKind.u64.wrap ((ib .and .u64 (x773.fdiv (2 ^ min (1 : Int).toNat (IntKind.u64).bits)) 6148914691236517205) + (ib .and .u64 x773 6148914691236517205))) 3689348814741910323))).fdiv (2 ^ min (4 : Int).toNat (IntKind.u64).bits)) + (IntKind.u64.wrap ((ib .and .u64 ((IntKind.u64.wrap ((ib .and .u64 (x773.fdiv (2 ^ min (1 : Int).toNat (IntKind.u64).bits)) 6148914691236517205) + (ib .and .u64 x773 6148914691236517205))).fdiv (2 ^ min (2 : Int).toNat (IntKind.u64).bits)) 3689348814741910323) + (ib .and .u64 (IntKind.u64.wrap ((ib .and .u64 (x773.fdiv (2 ^ min (1 : Int).toNat (IntKind.u64).bits)) 6148914691236517205) + (ib .and .u64 x773 6148914691236517205))) 3689348814741910323))))) 1085102592571150095).fdiv (2 ^ min (8 : Int).toNat (IntKind.u64).bits)))).fdiv (2 ^ min (16 : Int).toNat (IntKind.u64).bits)))) + ((IntKind.u64.wrap ((IntKind.u64.wrap ((ib .and .u64 (IntKind.u64.wrap (((IntKind.u64.wrap ((ib .and .u64 ((IntKind.u64.wrap ((ib .and .u64 (x773.fdiv (2 ^ min (1 : Int).toNat (IntKind.u64).bits)) 6148914691236517205) + (ib .and .u64 x773 6148914691236517205))).fdiv (2 ^ min (2 : Int).toNat (IntKind.u64).bits)) 3689348814741910323) + (ib .and .u64 (IntKind.u64.wrap ((ib .and .u64 (x773.fdiv (2 ^ min (1 : Int).toNat (IntKind.u64).bits)) 6148914691236517205) + (ib .and .u64 x773 6148914691236517205))) 3689348814741910323))).fdiv (2 ^ min (4 : Int).toNat (IntKind.u64).bits)) + (IntKind.u64.wrap ((ib .and .u64 ((IntKind.u64.wrap ((ib .and .u64 (x773.fdiv (2 ^ min (1 : Int).toNat (IntKind.u64).bits)) 6148914691236517205) + (ib .and .u64 x773 6148914691236517205))).fdiv (2 ^ min (2 : Int).toNat (IntKind.u64).bits)) 3689348814741910323) + (ib .and .u64 (IntKind.u64.wrap ((ib .and .u64 (x773.fdiv (2 ^ min (1 : Int).toNat (IntKind.u64).bits)) 6148914691236517205) + (ib .and .u64 x773 6148914691236517205))) 3689348814741910323))))) 1085102592571150095) + ((ib .and .u64 (IntKind.u64.wrap (((IntKind.u64.wrap ((ib .and .u64 ((IntKind.u64.wrap ((ib .and .u64 (x773.fdiv (2 ^ min (1 : Int).toNat (IntKind.u64).bits)) 6148914691236517205) + (ib .and .u64 x773 6148914691236517205))).fdiv (2 ^ min (2 : Int).toNat (IntKind.u64).bits)) 3689348814741910323) + (ib .and .u64 (IntKind.u64.wrap ((ib .and .u64 (x773.fdiv (2 ^ min (1 : Int).toNat (IntKind.u64).bits)) 6148914691236517205) + (ib .and .u64 x773 6148914691236517205))) 3689348814741910323))).fdiv (2 ^ min (4 : Int).toNat (IntKind.u64).bits)) + (IntKind.u64.wrap ((ib .and .u64 ((IntKind.u64.wrap ((ib .and .u64 (x773.fdiv (2 ^ min (1 : Int).toNat (IntKind.u64).bits)) 6148914691236517205) + (ib .and .u64 x773 6148914691236517205))).fdiv (2 ^ min (2 : Int).toNat (IntKind.u64).bits)) 3689348814741910323) + (ib .and .u64 (IntKind.u64.wrap ((ib .and .u64 (x773.fdiv (2 ^ min (1 : Int).toNat (IntKind.u64).bits)) 6148914691236517205) + (ib .and .u64 x773 6148914691236517205))) 3689348814741910323))))) 1085102592571150095).fdiv (2 ^ min (8 : Int).toNat (IntKind.u64).bits)))) + ((IntKind.u64.wrap ((ib .and .u64 (IntKind.u64.wrap (((IntKind.u64.wrap ((ib .and .u64 ((IntKind.u64.wrap ((ib .and .u64 (x773.fdiv (2 ^ min (1 : Int).toNat (IntKind.u64).bits)) 6148914691236517205) + (ib .and .u64 x773 6148914691236517205))).fdiv (2 ^ min (2 : Int).toNat (IntKind.u64).bits)) 3689348814741910323) + (ib .and .u64 (IntKind.u64.wrap ((ib .and .u64 (x773.fdiv (2 ^ min (1 : Int).toNat (IntKind.u64).bits)) 6148914691236517205) + (ib .and .u64 x773 6148914691236517205))) 3689348814741910323))).fdiv (2 ^ min (4 : Int).toNat (IntKind.u64).bits)) + (IntKind.u64.wrap ((ib .and .u64 ((IntKind.u64.wrap ((ib .and .u64 (x773.fdiv (2 ^ min (1 : Int).toNat (IntKind.u64).bits)) 6148914691236517205) + (ib .and .u64 x773 6148914691236517205))).fdiv (2 ^ min (2 : Int).toNat (IntKind.u64).bits)) 3689348814741910323) + (ib .and .u64 (IntKind.u64.wrap ((ib .and .u64 (x773.fdiv (2 ^ min (1 : Int).toNat (IntKind.u64).bits)) 6148914691236517205) + (ib .and .u64 x773 6148914691236517205))) 3689348814741910323))))) 1085102592571150095) + ((ib .and .u64 (IntKind.u64.wrap (((IntKind.u64.wrap ((ib .and .u64 ((IntKind.u64.wrap ((ib .and .u64 (x773.fdiv (2 ^ min (1 : Int).toNat (IntKind.u64).bits)) 6148914691236517205) + (ib .and .u64 x773 6148914691236517205))).fdiv (2 ^ min (2 : Int).toNat (IntKind.u64).bits)) 3689348814741910323) + (ib .and .u64 (IntKind.u64.wrap ((ib .and .u64 (x773.fdiv (2 ^ min (1 : Int).toNat (IntKind.u64).bits)) 6148914691236517205) + (ib .and .u64 x773 6148914691236517205))) 3689348814741910323))).fdiv (2 ^ min (4 : Int).toNat (IntKind.u64).bits)) + (IntKind.u64.wrap ((ib .and .u64 ((IntKind.u64.wrap ((ib .and .u64 (x773.fdiv (2 ^ min (1 : Int).toNat (IntKind.u64).bits)) 6148914691236517205) + (ib .and .u64 x773 6148914691236517205))).fdiv (2 ^ min (2 : Int).toNat (IntKind.u64).bits)) 3689348814741910323) + (ib .and .u64 (IntKind.u64.wrap ((ib .and .u64 (x773.fdiv (2 ^ min (1 : Int).toNat (IntKind.u64).bits)) 6148914691236517205) + (ib .and .u64 x773 6148914691236517205))) 3689348814741910323))))) 1085102592571150095).fdiv (2 ^ min (8 : Int).toNat (IntKind.u64).bits)))).fdiv (2 ^ min (16 : Int).toNat (IntKind.u64).bits)))).fdiv (2 ^ min (32 : Int).toNat (IntKind.u64).bits))))) 127))

def ordering_graph_eliminate_L0 (n : Nat) (x779 : Int) (x781 : Int) : ((List Int) × Int) → Option (Out ((List Int) × Int) (List Int))
  | (x815, x819) =>
    cond (x819 != 0)
    ((bits_TrailingZeros64 n x819).bind fun x855 =>
    (idx x815 x855).bind fun x859 =>
    (need (decide (0 ≤ x855))).bind fun _ =>
    (idx x815 x855).bind fun x868 =>
    some (.go ((upd x815 x855 (ib .or .u64 x859 (ib .andNot .u64 (ib .and .u64 x781 x779) (IntKind.u64.wrap ((1 : Int) * 2 ^ min x855.toNat (IntKind.u64).bits))))), (ib .and .u64 x819 (IntKind.u64.wrap (x819 - 1))))))
    (some (.done x815))

def ordering_graph_eliminate (n : Nat) : (List Int) → Int → Int → Option (List Int)
  | x774, x778, x779 =>
    (idx x774 x778).bind fun x781 =>
    loopN (ordering_graph_eliminate_L0 n x779 x781) n (x774, (ib .and .u64 x781 x779))

def ordering_MinDegree_L13 (n : Nat) (x2044 : (List Int)) (x2048 : Int) : (Int × Int × Int) → Option (Out (Int × Int × Int) Int)
  | (x2517, x2518, x2519) =>
    cond (x2519 != 0)
    (((bits_TrailingZeros64 n x2519).bind fun x2588 =>
    (idx x2044 x2588).bind fun x2591 =>
    (bits_OnesCount64 n (ib .and .u64 x2591 x2048)).bind fun x2599 =>
    (cond (decide (x2517 < 0))
    (some (true))
    (some ((decide (x2599 < x2518)))) : Option Bool).bind fun x2602 =>
    cond x2602
    (some ((x2588, x2599)))
    (some ((x2517, x2518))) : Option (Int × Int)).bind fun (x2583, x2584) =>
    some (.go (x2583, x2584, (ib .and .u64 x2519 (IntKind.u64.wrap (x2519 - 1))))))
    (some (.done x2517))

def ordering_MinDegree_L11 (n : Nat) (x882 : Int) : ((List Int) × Int × (List Int)) → Option (Out ((List Int) × Int × (List Int)) (List Int))
  | (x2044, x2048, x2049) =>
    cond (decide ((x2049.length : Int) < x882))
    ((loopN (ordering_MinDegree_L13 n x2044 x2048) n ((-1), 0, x2048) : Option Int).bind fun x2474 =>
    (need (decide (0 ≤ x2474))).bind fun _ =>
    (ordering_graph_eliminate n x2044 x2474 (ib .andNot .u64 x2048 (IntKind.u64.wrap ((1 : Int) * 2 ^ min x2474.toNat (IntKind.u64).bits)))).bind fun x2607 =>
    (app x2049 [x2474]).bind fun x2617 =>
    some (.go (x2607, (ib .andNot .u64 x2048 (IntKind.u64.wrap ((1 : Int) * 2 ^ min x2474.toNat (IntKind.u64).bits))), x2617)))
    (some (.done x2049))

def ordering_MinDegree (n : Nat) : Int → (List Pair) → Option ((List Int) × Int)
  | x882, x883 =>
    (ordering_Valid n x882 x883).bind fun x887 =>
    cond (!x887)
    (some (([], 1)))
    ((ordering_build n x882 x883).bind fun x890 =>
    (ordering_all n x882).bind fun x897 =>
    (loopN (ordering_MinDegree_L11 n x882) n (x890, x897, []) : Option (List Int)).bind fun x1758 =>
    some ((x1758, 0)))

def ordering_permutation_L1 (x2625 : Int) (x2626 : (List Int)) : (Int × Int) → Option (Out (Int × Int) (Out Unit Bool))
  | (x2688, x2689) =>
    cond (decide (x2689 < (x2626.length : Int)))
    ((idx x2626 x2689).bind fun x2707 =>
    (cond (decide (x2707 < 0))
    (some (true))
    (cond (decide (x2707 ≥ x2625))
    (some (true))
    ((need (decide (0 ≤ x2707))).bind fun _ =>
    some (((ib .and .u64 (x2688.fdiv (2 ^ min x2707.toNat (IntKind.u64).bits)) 1) != 0)))) : Option Bool).bind fun x2714 =>
    cond x2714
    (some (.done (.done false)))
    ((need (decide (0 ≤ x2707))).bind fun _ =>
    some (.go ((ib .or .u64 x2688 (IntKind.u64.wrap ((1 : Int) * 2 ^ min x2707.toNat (IntKind.u64).bits))), (IntKind.i64.wrap (x2689 + 1))))))
    (some (.done (.go ())))

def ordering_permutation (n : Nat) : Int → (List Int) → Option Bool
  | x2625, x2626 =>
    cond ((x2626.length : Int) != x2625)
    (some (false))
    ((loopN (ordering_permutation_L1 x2625 x2626) n (0, 0) : Option (Out Unit Bool)).bind fun y2674 => (match y2674 with
    | .go _ =>
    some (true)
    | .done r => some r))

def ordering_filled_L1 (n : Nat) (x2725 : (List Int)) : ((List Int) × Int × Int) → Option (Out ((List Int) × Int × Int) (List Int))
  | (x2827, x2831, x2832) =>
    cond (decide (x2832 < (x2725.length : Int)))
    ((idx x2725 x2832).bind fun x2858 =>
    (need (decide (0 ≤ x2858))).bind fun _ =>
    (ordering_graph_eliminate n x2827 x2858 (ib .andNot .u64 x2831 (IntKind.u64.wrap ((1 : Int) * 2 ^ min x2858.toNat (IntKind.u64).bits)))).bind fun x2865 =>
    some (.go (x2865, (ib .andNot .u64 x2831 (IntKind.u64.wrap ((1 : Int) * 2 ^ min x2858.toNat (IntKind.u64).bits))), (IntKind.i64.wrap (x2832 + 1)))))
    (some (.done x2827))

def ordering_filled (n : Nat) : Int → (List Pair) → (List Int) → Option ((List Int) × Int)
  | x2721, x2722, x2725 =>
    (ordering_Valid n x2721 x2722).bind fun x2730 =>
    cond (!x2730)
    (some (([], 1)))
    ((ordering_permutation n x2721 x2725).bind fun x2734 =>
    cond (!x2734)
    (some (([], 2)))
    ((ordering_build n x2721 x2722).bind fun x2738 =>
    (ordering_all n x2721).bind fun x2745 =>
    (loopN (ordering_filled_L1 n x2725) n (x2738, x2745, 0) : Option (List Int)).bind fun x2806 =>
    some ((x2806, 0))))

def ordering_Fill_L13 (x2872 : Int) (x2880 : (List Int)) (x2888 : (List Int)) (x4645 : Int) : ((List Pair) × Int) → Option (Out ((List Pair) × Int) (List Pair))
  | (x5365, x5369) =>
    cond (decide (x5369 < x2872))
    (((idx x2880 x4645).bind fun x5481 =>
    (idx x2888 x4645).bind fun x5489 =>
    (need (decide (0 ≤ x5369))).bind fun _ =>
    cond ((ib .and .u64 ((ib .andNot .u64 x5481 x5489).fdiv (2 ^ min x5369.toNat (IntKind.u64).bits)) 1) != 0)
    ((app x5365 [(Pair.mk x4645 x5369)]).bind fun x5503 =>
    some (x5503))
    (some (x5365)) : Option (List Pair)).bind fun x5473 =>
    some (.go (x5473, (IntKind.i64.wrap (x5369 + 1)))))
    (some (.done x5365))

def ordering_Fill_L11 (n : Nat) (x2872 : Int) (x2880 : (List Int)) (x2888 : (List Int)) : ((List Pair) × Int) → Option (Out ((List Pair) × Int) (List Pair))
  | (x4641, x4645) =>
    cond (decide (x4645 < x2872))
    ((loopN (ordering_Fill_L13 x2872 x2880 x2888 x4645) n (x4641, (IntKind.i64.wrap (x4645 + 1))) : Option (List Pair)).bind fun x5293 =>
    some (.go (x5293, (IntKind.i64.wrap (x4645 + 1)))))
    (some (.done x4641))

def ordering_Fill (n : Nat) : Int → (List Pair) → (List Int) → Option ((List Pair) × Int)
  | x2872, x2873, x2876 =>
    (ordering_filled n x2872 x2873 x2876).bind fun (x2880, x2881) =>
    cond (x2881 != 0)
    (some (([], x2881)))
    ((ordering_build n x2872 x2873).bind fun x2888 =>
    (loopN (ordering_Fill_L11 n x2872 x2880 x2888) n ([], 0) : Option (List Pair)).bind fun x4199 =>
    some ((x4199, 0)))

def base_Ints_L1 (x5512 : (List Int)) (x5515 : (List Int)) : Int → Option (Out Int (Out Unit Bool))
  | x5581 =>
    cond (decide (x5581 < (x5512.length : Int)))
    ((idx x5512 x5581).bind fun x5600 =>
    (idx x5515 x5581).bind fun x5606 =>
    cond (x5600 != x5606)
    (some (.done (.done false)))
    (some (.go (IntKind.i64.wrap (x5581 + 1)))))
    (some (.done (.go ())))

def base_Ints (n : Nat) : (List Int) → (List Int) → Option Bool
  | x5512, x5515 =>
    cond ((x5512.length : Int) != (x5515.length : Int))
    (some (false))
    ((loopN (base_Ints_L1 x5512 x5515) n 0 : Option (Out Unit Bool)).bind fun y5566 => (match y5566 with
    | .go _ =>
    some (true)
    | .done r => some r))

def base_Pairs_L1 (x5615 : (List Pair)) (x5618 : (List Pair)) : Int → Option (Out Int (Out Unit Bool))
  | x5684 =>
    cond (decide (x5684 < (x5615.length : Int)))
    ((idx x5615 x5684).bind fun x5703 =>
    (idx x5618 x5684).bind fun x5709 =>
    cond (!((x5703.A == x5709.A) && ((x5703.B == x5709.B) && true)))
    (some (.done (.done false)))
    (some (.go (IntKind.i64.wrap (x5684 + 1)))))
    (some (.done (.go ())))

def base_Pairs (n : Nat) : (List Pair) → (List Pair) → Option Bool
  | x5615, x5618 =>
    cond ((x5615.length : Int) != (x5618.length : Int))
    (some (false))
    ((loopN (base_Pairs_L1 x5615 x5618) n 0 : Option (Out Unit Bool)).bind fun y5669 => (match y5669 with
    | .go _ =>
    some (true)
    | .done r => some r))

def law26_awake (n : Nat) : Option Bool :=
    (ordering_MinDegree n 4 [(Pair.mk 0 1), (Pair.mk 0 3), (Pair.mk 1 2), (Pair.mk 2 3)]).bind fun (x5722, x5723) =>
    (ordering_Fill n 4 [(Pair.mk 0 1), (Pair.mk 0 3), (Pair.mk 1 2), (Pair.mk 2 3)] [0, 1, 2, 3]).bind fun (x5733, x5734) =>
    (cond (x5723 == 0)
    ((base_Ints n x5722 [0, 1, 2, 3]).bind fun x5763 =>
    cond x5763
    (cond (x5734 == 0)
    ((base_Pairs n x5733 [(Pair.mk 1 3)]).bind fun x5770 =>
    some (x5770))
    (some (false)))
    (some (false)))
    (some (false)) : Option Bool).bind fun x5754 =>
    some (x5754)

def law26_few (n : Nat) : Graph → Option Bool
  | x5773 =>
    (cond (decide ((x5773.E.length : Int) ≤ 300))
    (some ((decide (x5773.N ≤ 24))))
    (some (false)) : Option Bool).bind fun x5781 =>
    some (x5781)

def ref26_Valid_L1 (x5784 : Int) (x5785 : (List Pair)) : Int → Option (Out Int (Out Unit Bool))
  | x6371 =>
    cond (decide (x6371 < (x5785.length : Int)))
    (((idx x5785 x6371).bind fun x6550 =>
    cond (decide (x6550.A < 0))
    (some (true))
    ((idx x5785 x6371).bind fun x6557 =>
    (idx x5785 x6371).bind fun x6563 =>
    cond (decide (x6557.A ≥ x6563.B))
    (some (true))
    ((idx x5785 x6371).bind fun x6570 =>
    some ((decide (x6570.B ≥ x5784))))) : Option Bool).bind fun x6546 =>
    cond x6546
    (some (.done (.done false)))
    ((cond (decide (x6371 > 0))
    ((idx x5785 x6371).bind fun x6622 =>
    (idx x5785 (IntKind.i64.wrap (x6371 - 1))).bind fun x6628 =>
    cond (decide (x6622.A < x6628.A))
    (some (true))
    ((idx x5785 x6371).bind fun x6635 =>
    (idx x5785 (IntKind.i64.wrap (x6371 - 1))).bind fun x6641 =>
    cond (x6635.A == x6641.A)
    ((idx x5785 x6371).bind fun x6647 =>
    (idx x5785 (IntKind.i64.wrap (x6371 - 1))).bind fun x6653 =>
    some ((decide (x6647.B ≤ x6653.B))))
    (some (false))))
    (some (false)) : Option Bool).bind fun x6618 =>
    cond x6618
    (some (.done (.done false)))
    (some (.go (IntKind.i64.wrap (x6371 + 1))))))
    (some (.done (.go ())))

def ref26_Valid (n : Nat) : Int → (List Pair) → Option Bool
  | x5784, x5785 =>
    (cond (decide (x5784 < 0))
    (some (true))
    (some ((decide (x5784 > 64)))) : Option Bool).bind fun x5788 =>
    cond x5788
    (some (false))
    ((loopN (ref26_Valid_L1 x5784 x5785) n 0 : Option (Out Unit Bool)).bind fun y6227 => (match y6227 with
    | .go _ =>
    some (true)
    | .done r => some r))

def ref26_Table_L1 (x6664 : Int) (x6665 : (List Pair)) : ((List (List Bool)) × Int) → Option (Out ((List (List Bool)) × Int) (List (List Bool)))
  | (x6876, x6879) =>
    (cond (decide (x6879 < (x6665.length : Int)))
    (some ((decide (x6664 > 0))))
    (some (false)) : Option Bool).bind fun x6933 =>
    cond x6933
    ((idx x6665 x6879).bind fun x6937 =>
    (idx x6665 x6879).bind fun x6943 =>
    (idx x6876 x6937.A).bind fun x6949 =>
    (idx x6949 x6943.B).bind fun x6951 =>
    (idx x6665 x6879).bind fun x6958 =>
    (idx x6665 x6879).bind fun x6964 =>
    (idx (upd x6876 x6937.A (upd x6949 x6943.B true)) x6958.B).bind fun x6970 =>
    (idx x6970 x6964.A).bind fun x6972 =>
    some (.go ((upd (upd x6876 x6937.A (upd x6949 x6943.B true)) x6958.B (upd x6970 x6964.A true)), (IntKind.i64.wrap (x6879 + 1)))))
    (some (.done x6876))

def ref26_Table (n : Nat) : Int → (List Pair) → Option (List (List Bool))
  | x6664, x6665 =>
    (loopN (ref26_Table_L1 x6664 x6665) n ((List.replicate 64 (List.replicate 64 false)), 0) : Option (List (List Bool))).bind fun x6825 =>
    some (x6825)

def ref26_eliminate_L13 (x6985 : (List Bool)) (x6988 : Int) (x6989 : Int) (x8977 : Int) : ((List (List Bool)) × Int) → Option (Out ((List (List Bool)) × Int) (List (List Bool)))
  | (x9797, x9800) =>
    cond (decide (x9800 < x6988))
    (((cond (x8977 != x9800)
    ((idx x6985 x8977).bind fun x9941 =>
    cond (!x9941)
    ((idx x6985 x9800).bind fun x9943 =>
    cond (!x9943)
    ((idx x9797 x6989).bind fun x9945 =>
    (idx x9945 x8977).bind fun x9947 =>
    cond x9947
    ((idx x9797 x6989).bind fun x9949 =>
    (idx x9949 x9800).bind fun x9951 =>
    some (x9951))
    (some (false)))
    (some (false)))
    (some (false)))
    (some (false)) : Option Bool).bind fun x9938 =>
    cond x9938
    ((idx x9797 x8977).bind fun x9953 =>
    (idx x9953 x9800).bind fun x9955 =>
    some ((upd x9797 x8977 (upd x9953 x9800 true))))
    (some (x9797)) : Option (List (List Bool))).bind fun x9920 =>
    some (.go (x9920, (IntKind.i64.wrap (x9800 + 1)))))
    (some (.done x9797))

def ref26_eliminate_L11 (n : Nat) (x6985 : (List Bool)) (x6988 : Int) (x6989 : Int) : ((List (List Bool)) × Int) → Option (Out ((List (List Bool)) × Int) (List (List Bool)))
  | (x8974, x8977) =>
    cond (decide (x8977 < x6988))
    ((loopN (ref26_eliminate_L13 x6985 x6988 x6989 x8977) n (x8974, 0) : Option (List (List Bool))).bind fun x9715 =>
    some (.go (x9715, (IntKind.i64.wrap (x8977 + 1)))))
    (some (.done x8974))

def ref26_eliminate (n : Nat) : (List (List Bool)) → (List Bool) → Int → Int → Option (List (List Bool))
  | x6982, x6985, x6988, x6989 =>
    (loopN (ref26_eliminate_L11 n x6985 x6988 x6989) n (x6982, 0) : Option (List (List Bool))).bind fun x8480 =>
    some (x8480)

def ref26_MinDegree_L157 (x9966 : Int) (x20976 : (List (List Bool))) (x20979 : (List Bool)) (x25547 : Int) : (Int × Int) → Option (Out (Int × Int) Int)
  | (x26373, x26374) =>
    cond (decide (x26374 < x9966))
    ((((idx x20979 x26374).bind fun x26440 =>
    cond (!x26440)
    ((idx x20976 x25547).bind fun x26442 =>
    (idx x26442 x26374).bind fun x26444 =>
    some (x26444))
    (some (false)) : Option Bool).bind fun x26437 =>
    cond x26437
    (some ((IntKind.i64.wrap (x26373 + 1))))
    (some (x26373)) : Option Int).bind fun x26428 =>
    some (.go (x26428, (IntKind.i64.wrap (x26374 + 1)))))
    (some (.done x26373))

def ref26_MinDegree_L153 (n : Nat) (x9966 : Int) (x20976 : (List (List Bool))) (x20979 : (List Bool)) : (Int × Int × Int) → Option (Out (Int × Int × Int) Int)
  | (x25545, x25546, x25547) =>
    cond (decide (x25547 < x9966))
    (((idx x20979 x25547).bind fun x26228 =>
    cond x26228
    (some ((x25545, x25546)))
    ((loopN (ref26_MinDegree_L157 x9966 x20976 x20979 x25547) n (0, 0) : Option Int).bind fun x26337 =>
    (cond (decide (x25545 < 0))
    (some (true))
    (some ((decide (x26337 < x25546)))) : Option Bool).bind fun x26447 =>
    cond x26447
    (some ((x25547, x26337)))
    (some ((x25545, x25546)))) : Option (Int × Int)).bind fun (x26224, x26225) =>
    some (.go (x26224, x26225, (IntKind.i64.wrap (x25547 + 1)))))
    (some (.done x25545))

def ref26_MinDegree_L131 (n : Nat) (x9966 : Int) : ((List (List Bool)) × (List Bool) × (List Int)) → Option (Out ((List (List Bool)) × (List Bool) × (List Int)) (List Int))
  | (x20976, x20979, x20982) =>
    cond (decide ((x20982.length : Int) < x9966))
    ((loopN (ref26_MinDegree_L153 n x9966 x20976 x20979) n ((-1), 0, 0) : Option Int).bind fun x25094 =>
    (idx x20979 x25094).bind fun x26451 =>
    (ref26_eliminate n x20976 (upd x20979 x25094 true) x9966 x25094).bind fun x26459 =>
    (app x20982 [x25094]).bind fun x26471 =>
    some (.go (x26459, (upd x20979 x25094 true), x26471)))
    (some (.done x20982))

def ref26_MinDegree (n : Nat) : Int → (List Pair) → Option ((List Int) × Int)
  | x9966, x9967 =>
    (ref26_Valid n x9966 x9967).bind fun x9971 =>
    cond (!x9971)
    (some (([], 1)))
    ((ref26_Table n x9966 x9967).bind fun x9974 =>
    (loopN (ref26_MinDegree_L131 n x9966) n (x9974, (List.replicate 64 false), []) : Option (List Int)).bind fun x18230 =>
    some ((x18230, 0)))

def law26_OrderingDegrees (n : Nat) : Graph → Option Bool
  | x26479 =>
    ((law26_awake n ).bind fun x26497 =>
    cond (!x26497)
    (some (true))
    ((law26_few n (Graph.mk x26479.N x26479.E)).bind fun x26500 =>
    some ((!x26500))) : Option Bool).bind fun x26493 =>
    cond x26493
    ((law26_awake n ).bind fun x26503 =>
    some (x26503))
    ((ordering_MinDegree n x26479.N x26479.E).bind fun (x26506, x26507) =>
    (ref26_MinDegree n x26479.N x26479.E).bind fun (x26513, x26514) =>
    (cond (x26507 == x26514)
    ((base_Ints n x26506 x26513).bind fun x26527 =>
    some (x26527))
    (some (false)) : Option Bool).bind fun x26523 =>
    some (x26523))

def ref26_Order_L25 (x26530 : Int) (x26531 : (List Int)) (x27511 : Int) : (Bool × Int) → Option (Out (Bool × Int) Bool)
  | (x27966, x27967) =>
    cond (decide (x27967 < x26530))
    ((cond x27966
    (some (true))
    ((idx x26531 x27967).bind fun x27997 =>
    some ((x27997 == x27511))) : Option Bool).bind fun x27994 =>
    some (.go (x27994, (IntKind.i64.wrap (x27967 + 1)))))
    (some (.done x27966))

def ref26_Order_L21 (n : Nat) (x26530 : Int) (x26531 : (List Int)) : Int → Option (Out Int (Out Unit Bool))
  | x27511 =>
    cond (decide (x27511 < x26530))
    (((loopN (ref26_Order_L25 x26530 x26531 x27511) n (false, 0) : Option Bool).bind fun x27942 =>
    cond (!x27942)
    (some (.done (.done (.done false))))
    (some (.go ())) : Option (Out Unit (Out Int (Out Unit Bool)))).bind fun y27881 => (match y27881 with
    | .go _ =>
    some (.go (IntKind.i64.wrap (x27511 + 1)))
    | .done r => some r))
    (some (.done (.go ())))

def ref26_Order (n : Nat) : Int → (List Int) → Option Bool
  | x26530, x26531 =>
    cond ((x26531.length : Int) != x26530)
    (some (false))
    ((loopN (ref26_Order_L21 n x26530 x26531) n 0 : Option (Out Unit Bool)).bind fun y27269 => (match y27269 with
    | .go _ =>
    some (true)
    | .done r => some r))

def ref26_check (n : Nat) : Int → (List Pair) → (List Int) → Option Int
  | x28006, x28007, x28010 =>
    (ref26_Valid n x28006 x28007).bind fun x28013 =>
    cond (!x28013)
    (some (1))
    ((ref26_Order n x28006 x28010).bind fun x28016 =>
    cond (!x28016)
    (some (2))
    (some (0)))

def ref26_Filled_L1 (n : Nat) (x28019 : Int) (x28023 : (List Int)) : ((List (List Bool)) × (List Bool) × Int) → Option (Out ((List (List Bool)) × (List Bool) × Int) (List (List Bool)))
  | (x28215, x28218, x28221) =>
    cond (decide (x28221 < x28019))
    ((idx x28023 x28221).bind fun x28270 =>
    (idx x28218 x28270).bind fun x28276 =>
    (idx x28023 x28221).bind fun x28291 =>
    (ref26_eliminate n x28215 (upd x28218 x28270 true) x28019 x28291).bind fun x28297 =>
    some (.go (x28297, (upd x28218 x28270 true), (IntKind.i64.wrap (x28221 + 1)))))
    (some (.done x28215))

def ref26_Filled (n : Nat) : Int → (List Pair) → (List Int) → Option (List (List Bool))
  | x28019, x28020, x28023 =>
    (ref26_Table n x28019 x28020).bind fun x28031 =>
    (loopN (ref26_Filled_L1 n x28019 x28023) n (x28031, (List.replicate 64 false), 0) : Option (List (List Bool))).bind fun x28173 =>
    some (x28173)

def ref26_Fill_L13 (x28309 : Int) (x28320 : (List (List Bool))) (x28332 : (List (List Bool))) (x30142 : Int) : ((List Pair) × Int) → Option (Out ((List Pair) × Int) (List Pair))
  | (x30882, x30886) =>
    cond (decide (x30886 < x28309))
    ((((idx x28332 x30142).bind fun x31012 =>
    (idx x31012 x30886).bind fun x31014 =>
    cond x31014
    ((idx x28320 x30142).bind fun x31016 =>
    (idx x31016 x30886).bind fun x31018 =>
    some ((!x31018)))
    (some (false)) : Option Bool).bind fun x31009 =>
    cond x31009
    ((app x30882 [(Pair.mk x30142 x30886)]).bind fun x31024 =>
    some (x31024))
    (some (x30882)) : Option (List Pair)).bind fun x30993 =>
    some (.go (x30993, (IntKind.i64.wrap (x30886 + 1)))))
    (some (.done x30882))

def ref26_Fill_L11 (n : Nat) (x28309 : Int) (x28320 : (List (List Bool))) (x28332 : (List (List Bool))) : ((List Pair) × Int) → Option (Out ((List Pair) × Int) (List Pair))
  | (x30138, x30142) =>
    cond (decide (x30142 < x28309))
    ((loopN (ref26_Fill_L13 x28309 x28320 x28332 x30142) n (x30138, (IntKind.i64.wrap (x30142 + 1))) : Option (List Pair)).bind fun x30808 =>
    some (.go (x30808, (IntKind.i64.wrap (x30142 + 1)))))
    (some (.done x30138))

def ref26_Fill (n : Nat) : Int → (List Pair) → (List Int) → Option ((List Pair) × Int)
  | x28309, x28310, x28313 =>
    (ref26_check n x28309 x28310 x28313).bind fun x28317 =>
    cond (x28317 != 0)
    (some (([], x28317)))
    ((ref26_Table n x28309 x28310).bind fun x28320 =>
    (ref26_Filled n x28309 x28310 x28313).bind fun x28332 =>
    (loopN (ref26_Fill_L11 n x28309 x28320 x28332) n ([], 0) : Option (List Pair)).bind fun x29684 =>
    some ((x29684, 0)))

def law26_OrderingFills (n : Nat) : Graph → (List Int) → Option Bool
  | x31033, x31036 =>
    ((law26_awake n ).bind fun x31054 =>
    cond (!x31054)
    (some (true))
    ((law26_few n (Graph.mk x31033.N x31033.E)).bind fun x31057 =>
    cond (!x31057)
    (some (true))
    (some ((decide ((x31036.length : Int) > 100))))) : Option Bool).bind fun x31050 =>
    cond x31050
    ((law26_awake n ).bind fun x31060 =>
    some (x31060))
    ((app ([] : List Int) x31036).bind fun x31067 =>
    (ordering_Fill n x31033.N x31033.E x31067).bind fun (x31074, x31075) =>
    (ref26_Fill n x31033.N x31033.E x31036).bind fun (x31081, x31082) =>
    (cond (x31075 == x31082)
    ((base_Pairs n x31074 x31081).bind fun x31098 =>
    cond x31098
    ((base_Ints n x31067 x31036).bind fun x31101 =>
    some (x31101))
    (some (false)))
    (some (false)) : Option Bool).bind fun x31094 =>
    some (x31094))

def ref26_place_L1 (x31104 : (List Int)) (x31107 : Int) : Int → Option (Out Int (Out Unit Int))
  | x31141 =>
    cond (decide (x31141 < (x31104.length : Int)))
    ((idx x31104 x31141).bind fun x31152 =>
    cond (x31152 == x31107)
    (some (.done (.done x31141)))
    (some (.go (IntKind.i64.wrap (x31141 + 1)))))
    (some (.done (.go ())))

def ref26_place (n : Nat) : (List Int) → Int → Option Int
  | x31104, x31107 =>
    (loopN (ref26_place_L1 x31104 x31107) n 0 : Option (Out Unit Int)).bind fun y31133 => (match y31133 with
    | .go _ =>
    some ((-1))
    | .done r => some r)

def ref26_Reaches_L7 (n : Nat) (x31160 : Int) (x31164 : (List Int)) (x31168 : Int) (x31179 : (List (List Bool))) (x31191 : Int) (x31194 : Int) (x32652 : Int) : ((List Bool) × (List Int) × Int) → Option (Out ((List Bool) × (List Int) × Int) (Out ((List Bool) × (List Int)) (Out Unit Bool)))
  | (x32745, x32748, x32752) =>
    cond (decide (x32752 < x31160))
    ((((idx x31179 x32652).bind fun x32903 =>
    (idx x32903 x32752).bind fun x32905 =>
    cond (!x32905)
    (some (true))
    ((idx x32745 x32752).bind fun x32907 =>
    some (x32907)) : Option Bool).bind fun x32900 =>
    cond x32900
    (some (.go (x32745, x32748)))
    (cond (x32752 == x31168)
    (some (.done (.done (.done (.done true)))))
    ((ref26_place n x31164 x32752).bind fun x32911 =>
    cond (decide (x32911 < (if x31194 < x31191 then x31194 else x31191)))
    ((idx x32745 x32752).bind fun x32914 =>
    (app x32748 [x32752]).bind fun x32925 =>
    some (.go ((upd x32745 x32752 true), x32925)))
    (some (.go (x32745, x32748))))) : Option (Out ((List Bool) × (List Int)) (Out ((List Bool) × (List Int) × Int) (Out ((List Bool) × (List Int)) (Out Unit Bool))))).bind fun y32892 => (match y32892 with
    | .go (x32883, x32886) =>
    some (.go (x32883, x32886, (IntKind.i64.wrap (x32752 + 1))))
    | .done r => some r))
    (some (.done (.go (x32745, x32748))))

def ref26_Reaches_L6 (n : Nat) (x31160 : Int) (x31164 : (List Int)) (x31168 : Int) (x31179 : (List (List Bool))) (x31191 : Int) (x31194 : Int) : ((List Bool) × (List Int)) → Option (Out ((List Bool) × (List Int)) (Out Unit Bool))
  | (x32353, x32356) =>
    cond (decide ((x32356.length : Int) > 0))
    ((idx x32356 0).bind fun x32652 =>
    (cut x32356 1 (x32356.length : Int)).bind fun x32660 =>
    loopN (ref26_Reaches_L7 n x31160 x31164 x31168 x31179 x31191 x31194 x32652) n (x32353, x32660, 0))
    (some (.done (.go ())))

def ref26_Reaches (n : Nat) : Int → (List Pair) → (List Int) → Int → Int → Option Bool
  | x31160, x31161, x31164, x31167, x31168 =>
    ((ref26_check n x31160 x31161 x31164).bind fun x31176 =>
    cond (x31176 != 0)
    (some (true))
    (cond (decide (x31167 < 0))
    (some (true))
    (cond (decide (x31168 < 0))
    (some (true))
    (cond (decide (x31167 ≥ x31160))
    (some (true))
    (cond (decide (x31168 ≥ x31160))
    (some (true))
    (some ((x31167 == x31168))))))) : Option Bool).bind fun x31172 =>
    cond x31172
    (some (false))
    ((ref26_Table n x31160 x31161).bind fun x31179 =>
    (ref26_place n x31164 x31167).bind fun x31191 =>
    (ref26_place n x31164 x31168).bind fun x31194 =>
    (idx (List.replicate 64 false) x31167).bind fun x31201 =>
    (loopN (ref26_Reaches_L6 n x31160 x31164 x31168 x31179 x31191 x31194) n ((upd (List.replicate 64 false) x31167 true), [x31167]) : Option (Out Unit Bool)).bind fun y32072 => (match y32072 with
    | .go _ =>
    some (false)
    | .done r => some r))

def ordering_Reaches_L1 (x32937 : (List Int)) (x32940 : Int) (x32941 : Int) : (Int × Int) → Option (Out (Int × Int) Int)
  | (x33017, x33018) =>
    cond (decide (x33018 < (x32937.length : Int)))
    ((idx x32937 x33018).bind fun x33034 =>
    (cond (x33034 == x32940)
    (some (true))
    (some ((x33034 == x32941))) : Option Bool).bind fun x33040 =>
    cond x33040
    (some (.done x33017))
    ((need (decide (0 ≤ x33034))).bind fun _ =>
    some (.go ((ib .or .u64 x33017 (IntKind.u64.wrap ((1 : Int) * 2 ^ min x33034.toNat (IntKind.u64).bits))), (IntKind.i64.wrap (x33018 + 1))))))
    (some (.done x33017))

def ordering_Reaches_L3 (n : Nat) (x32941 : Int) (x32958 : (List Int)) (x33004 : Int) : (Int × Int) → Option (Out (Int × Int) (Out Unit Bool))
  | (x33142, x33143) =>
    cond (x33143 != 0)
    ((bits_TrailingZeros64 n x33143).bind fun x33170 =>
    (idx x32958 x33170).bind fun x33173 =>
    (need (decide (0 ≤ x32941))).bind fun _ =>
    cond ((ib .and .u64 (x33173.fdiv (2 ^ min x32941.toNat (IntKind.u64).bits)) 1) != 0)
    (some (.done (.done true)))
    ((idx x32958 x33170).bind fun x33183 =>
    some (.go ((ib .or .u64 x33142 (ib .andNot .u64 (ib .and .u64 x33183 x33004) x33142)), (ib .or .u64 (ib .and .u64 x33143 (IntKind.u64.wrap (x33143 - 1))) (ib .andNot .u64 (ib .and .u64 x33183 x33004) x33142))))))
    (some (.done (.go ())))

def ordering_Reaches (n : Nat) : Int → (List Pair) → (List Int) → Int → Int → Option Bool
  | x32933, x32934, x32937, x32940, x32941 =>
    ((ordering_Valid n x32933 x32934).bind fun x32952 =>
    cond (!x32952)
    (some (true))
    ((ordering_permutation n x32933 x32937).bind fun x32955 =>
    cond (!x32955)
    (some (true))
    (cond (decide (x32940 < 0))
    (some (true))
    (cond (decide (x32940 ≥ x32933))
    (some (true))
    (cond (decide (x32941 < 0))
    (some (true))
    (cond (decide (x32941 ≥ x32933))
    (some (true))
    (some ((x32940 == x32941)))))))) : Option Bool).bind fun x32948 =>
    cond x32948
    (some (false))
    ((ordering_build n x32933 x32934).bind fun x32958 =>
    (loopN (ordering_Reaches_L1 x32937 x32940 x32941) n (0, 0) : Option Int).bind fun x33004 =>
    (need (decide (0 ≤ x32940))).bind fun _ =>
    (need (decide (0 ≤ x32940))).bind fun _ =>
    (loopN (ordering_Reaches_L3 n x32941 x32958 x33004) n ((IntKind.u64.wrap ((1 : Int) * 2 ^ min x32940.toNat (IntKind.u64).bits)), (IntKind.u64.wrap ((1 : Int) * 2 ^ min x32940.toNat (IntKind.u64).bits))) : Option (Out Unit Bool)).bind fun y33120 => (match y33120 with
    | .go _ =>
    some (false)
    | .done r => some r))

def law26_OrderingReaches (n : Nat) : Graph → (List Int) → (List Int) → Option Bool
  | x33192, x33195, x33198 =>
    ((law26_awake n ).bind fun x33220 =>
    cond (!x33220)
    (some (true))
    ((law26_few n (Graph.mk x33192.N x33192.E)).bind fun x33223 =>
    cond (!x33223)
    (some (true))
    (some ((decide ((x33195.length : Int) > 100))))) : Option Bool).bind fun x33216 =>
    cond x33216
    ((law26_awake n ).bind fun x33226 =>
    some (x33226))
    ((idx x33198 0).bind fun x33229 =>
    (idx x33198 1).bind fun x33231 =>
    (ref26_Reaches n x33192.N x33192.E x33195 x33229 x33231).bind fun x33233 =>
    ((idx x33198 0).bind fun x33254 =>
    (idx x33198 1).bind fun x33256 =>
    (ordering_Reaches n x33192.N x33192.E x33195 x33254 x33256).bind fun x33258 =>
    cond (x33258 == x33233)
    ((idx x33198 1).bind fun x33261 =>
    (idx x33198 0).bind fun x33263 =>
    (ordering_Reaches n x33192.N x33192.E x33195 x33261 x33263).bind fun x33265 =>
    some ((x33265 == x33233)))
    (some (false)) : Option Bool).bind fun x33250 =>
    some (x33250))

def law26_has_L1 (x33268 : (List Pair)) (x33271 : Int) (x33272 : Int) : Int → Option (Out Int (Out Unit Bool))
  | x33390 =>
    cond (decide (x33390 < (x33268.length : Int)))
    (((idx x33268 x33390).bind fun x33437 =>
    cond (x33437.A == (if x33272 < x33271 then x33272 else x33271))
    ((idx x33268 x33390).bind fun x33443 =>
    some ((x33443.B == (if x33272 > x33271 then x33272 else x33271))))
    (some (false)) : Option Bool).bind fun x33434 =>
    cond x33434
    (some (.done (.done true)))
    (some (.go (IntKind.i64.wrap (x33390 + 1)))))
    (some (.done (.go ())))

def law26_has (n : Nat) : (List Pair) → Int → Int → Option Bool
  | x33268, x33271, x33272 =>
    (loopN (law26_has_L1 x33268 x33271 x33272) n 0 : Option (Out Unit Bool)).bind fun y33361 => (match y33361 with
    | .go _ =>
    some (false)
    | .done r => some r)

def law26_OrderingPaths_L13 (n : Nat) (x33451 : Graph) (x33454 : (List Int)) (x33481 : (List Pair)) (x33482 : Int) (x34031 : Int) : Int → Option (Out Int (Out Unit (Out Int (Out Unit Bool))))
  | x34257 =>
    cond (decide (x34257 < x33451.N))
    ((cond (x33482 == 0)
    (cond (x34031 != x34257)
    ((law26_has n x33451.E x34031 x34257).bind fun x34292 =>
    cond x34292
    (some (true))
    ((law26_has n x33481 x34031 x34257).bind fun x34295 =>
    some (x34295)))
    (some (false)))
    (some (false)) : Option Bool).bind fun x34288 =>
    (ordering_Reaches n x33451.N x33451.E x33454 x34031 x34257).bind fun x34298 =>
    cond (!(x34298 == x34288))
    (some (.done (.done (.done (.done false)))))
    (some (.go (IntKind.i64.wrap (x34257 + 1)))))
    (some (.done (.go ())))

def law26_OrderingPaths_L11 (n : Nat) (x33451 : Graph) (x33454 : (List Int)) (x33481 : (List Pair)) (x33482 : Int) : Int → Option (Out Int (Out Unit Bool))
  | x34031 =>
    cond (decide (x34031 < x33451.N))
    ((loopN (law26_OrderingPaths_L13 n x33451 x33454 x33481 x33482 x34031) n 0 : Option (Out Unit (Out Int (Out Unit Bool)))).bind fun y34236 => (match y34236 with
    | .go _ =>
    some (.go (IntKind.i64.wrap (x34031 + 1)))
    | .done r => some r))
    (some (.done (.go ())))

def law26_OrderingPaths (n : Nat) : Graph → (List Int) → Option Bool
  | x33451, x33454 =>
    ((law26_awake n ).bind fun x33472 =>
    cond (!x33472)
    (some (true))
    ((law26_few n (Graph.mk x33451.N x33451.E)).bind fun x33475 =>
    cond (!x33475)
    (some (true))
    (cond (decide (x33451.N > 10))
    (some (true))
    (some ((decide ((x33454.length : Int) > 100)))))) : Option Bool).bind fun x33468 =>
    cond x33468
    ((law26_awake n ).bind fun x33478 =>
    some (x33478))
    ((ordering_Fill n x33451.N x33451.E x33454).bind fun (x33481, x33482) =>
    (loopN (law26_OrderingPaths_L11 n x33451 x33454 x33481 x33482) n 0 : Option (Out Unit Bool)).bind fun y33896 => (match y33896 with
    | .go _ =>
    some (true)
    | .done r => some r))

def law26_merged_L1 (x34305 : (List Pair)) (x34308 : (List Pair)) : ((List Pair) × Int × Int) → Option (Out ((List Pair) × Int × Int) (List Pair))
  | (x34828, x34832, x34833) =>
    (cond (decide (x34832 < (x34305.length : Int)))
    (some (true))
    (some ((decide (x34833 < (x34308.length : Int))))) : Option Bool).bind fun x34968 =>
    cond x34968
    ((cond (x34833 == (x34308.length : Int))
    (some (true))
    (cond (decide (x34832 < (x34305.length : Int)))
    ((idx x34305 x34832).bind fun x35017 =>
    (idx x34308 x34833).bind fun x35023 =>
    cond (decide (x35017.A < x35023.A))
    (some (true))
    ((idx x34305 x34832).bind fun x35030 =>
    (idx x34308 x34833).bind fun x35036 =>
    cond (x35030.A == x35036.A)
    ((idx x34305 x34832).bind fun x35042 =>
    (idx x34308 x34833).bind fun x35048 =>
    some ((decide (x35042.B < x35048.B))))
    (some (false))))
    (some (false))) : Option Bool).bind fun x35012 =>
    cond x35012
    ((idx x34305 x34832).bind fun x35057 =>
    (app x34828 [(Pair.mk x35057.A x35057.B)]).bind fun x35067 =>
    some (.go (x35067, (IntKind.i64.wrap (x34832 + 1)), x34833)))
    ((idx x34308 x34833).bind fun x35073 =>
    (app x34828 [(Pair.mk x35073.A x35073.B)]).bind fun x35083 =>
    some (.go (x35083, x34832, (IntKind.i64.wrap (x34833 + 1))))))
    (some (.done x34828))

def law26_merged (n : Nat) : (List Pair) → (List Pair) → Option (List Pair)
  | x34305, x34308 =>
    (loopN (law26_merged_L1 x34305 x34308) n ([], 0, 0) : Option (List Pair)).bind fun x34697 =>
    some (x34697)

def ordering_graph_simplicial_L1 (n : Nat) (x35091 : (List Int)) (x35094 : Int) (x35095 : Int) (x35096 : Int) : Int → Option (Out Int (Out Unit Bool))
  | x35159 =>
    cond (x35159 != 0)
    ((bits_TrailingZeros64 n x35159).bind fun x35176 =>
    (idx x35091 x35176).bind fun x35179 =>
    (need (decide (0 ≤ x35176))).bind fun _ =>
    cond ((ib .andNot .u64 (ib .andNot .u64 (ib .and .u64 x35096 x35095) (IntKind.u64.wrap ((1 : Int) * 2 ^ min x35094.toNat (IntKind.u64).bits))) (ib .or .u64 x35179 (IntKind.u64.wrap ((1 : Int) * 2 ^ min x35176.toNat (IntKind.u64).bits)))) != 0)
    (some (.done (.done false)))
    (some (.go (ib .and .u64 x35159 (IntKind.u64.wrap (x35159 - 1))))))
    (some (.done (.go ())))

def ordering_graph_simplicial (n : Nat) : (List Int) → Int → Int → Option Bool
  | x35091, x35094, x35095 =>
    (idx x35091 x35094).bind fun x35096 =>
    (need (decide (0 ≤ x35094))).bind fun _ =>
    (loopN (ordering_graph_simplicial_L1 n x35091 x35094 x35095 x35096) n (ib .andNot .u64 (ib .and .u64 x35096 x35095) (IntKind.u64.wrap ((1 : Int) * 2 ^ min x35094.toNat (IntKind.u64).bits))) : Option (Out Unit Bool)).bind fun y35146 => (match y35146 with
    | .go _ =>
    some (true)
    | .done r => some r)

def ordering_Chordal_L13 (n : Nat) (x35815 : (List Int)) : (Int × Int) → Option (Out (Int × Int) Int)
  | (x36045, x36046) =>
    cond (x36046 != 0)
    (((bits_TrailingZeros64 n x36046).bind fun x36082 =>
    (ordering_graph_simplicial n x35815 x36082 x36045).bind fun x36085 =>
    cond x36085
    ((need (decide (0 ≤ x36082))).bind fun _ =>
    some ((ib .andNot .u64 x36045 (IntKind.u64.wrap ((1 : Int) * 2 ^ min x36082.toNat (IntKind.u64).bits)))))
    (some (x36045)) : Option Int).bind fun x36078 =>
    some (.go (x36078, (ib .and .u64 x36046 (IntKind.u64.wrap (x36046 - 1))))))
    (some (.done x36045))

def ordering_Chordal_L11 (n : Nat) : ((List Int) × Int) → Option (Out ((List Int) × Int) (Out Unit Bool))
  | (x35815, x35818) =>
    cond (x35818 != 0)
    ((loopN (ordering_Chordal_L13 n x35815) n (x35818, x35818) : Option Int).bind fun x36023 =>
    cond (x36023 == x35818)
    (some (.done (.done false)))
    (some (.go (x35815, x36023))))
    (some (.done (.go ())))

def ordering_Chordal (n : Nat) : Int → (List Pair) → Option Bool
  | x35189, x35190 =>
    (ordering_Valid n x35189 x35190).bind fun x35193 =>
    cond (!x35193)
    (some (false))
    ((ordering_build n x35189 x35190).bind fun x35196 =>
    (ordering_all n x35189).bind fun x35203 =>
    (loopN (ordering_Chordal_L11 n) n (x35196, x35203) : Option (Out Unit Bool)).bind fun y35649 => (match y35649 with
    | .go _ =>
    some (true)
    | .done r => some r))

def law26_OrderingAgain (n : Nat) : Graph → (List Int) → Option Bool
  | x36092, x36095 =>
    ((law26_awake n ).bind fun x36113 =>
    cond (!x36113)
    (some (true))
    ((law26_few n (Graph.mk x36092.N x36092.E)).bind fun x36116 =>
    cond (!x36116)
    (some (true))
    (some ((decide ((x36095.length : Int) > 100))))) : Option Bool).bind fun x36109 =>
    cond x36109
    ((law26_awake n ).bind fun x36119 =>
    some (x36119))
    ((ordering_Fill n x36092.N x36092.E x36095).bind fun (x36122, x36123) =>
    cond (x36123 != 0)
    (some (((x36122.length : Int) == 0)))
    (cond (decide ((x36122.length : Int) > 300))
    (some (false))
    ((law26_merged n x36092.E x36122).bind fun x36129 =>
    (ordering_Fill n x36092.N x36129 x36095).bind fun (x36135, x36136) =>
    (cond (x36136 == 0)
    (cond ((x36135.length : Int) == 0)
    ((ordering_Chordal n x36092.N x36129).bind fun x36149 =>
    some (x36149))
    (some (false)))
    (some (false)) : Option Bool).bind fun x36145 =>
    some (x36145))))

def ordering_Tree_L13 (x36160 : (List Int)) (x37136 : (List Int)) (x37506 : Int) (x37525 : (List Int)) : Int → Option (Out Int (List Int))
  | x37557 =>
    cond (decide (x37557 < (x37525.length : Int)))
    ((idx x37525 x37557).bind fun x37590 =>
    (idx x36160 x37506).bind fun x37596 =>
    (need (decide (0 ≤ x37590))).bind fun _ =>
    cond ((ib .and .u64 (x37596.fdiv (2 ^ min x37590.toNat (IntKind.u64).bits)) 1) != 0)
    ((idx (upd x37136 x37506 (-1)) x37506).bind fun x37605 =>
    some (.done (upd (upd x37136 x37506 (-1)) x37506 x37590)))
    (some (.go (IntKind.i64.wrap (x37557 + 1)))))
    (some (.done (upd x37136 x37506 (-1))))

def ordering_Tree_L11 (n : Nat) (x36156 : (List Int)) (x36160 : (List Int)) : ((List Int) × Int) → Option (Out ((List Int) × Int) (List Int))
  | (x37136, x37140) =>
    cond (decide (x37140 < (x36156.length : Int)))
    (((idx x36156 x37140).bind fun x37506 =>
    (idx x37136 x37506).bind fun x37512 =>
    (cut x36156 (IntKind.i64.wrap (x37140 + 1)) (x36156.length : Int)).bind fun x37525 =>
    loopN (ordering_Tree_L13 x36160 x37136 x37506 x37525) n 0 : Option (List Int)).bind fun x37499 =>
    some (.go (x37499, (IntKind.i64.wrap (x37140 + 1)))))
    (some (.done x37136))

def ordering_Tree (n : Nat) : Int → (List Pair) → (List Int) → Option ((List Int) × Int)
  | x36152, x36153, x36156 =>
    (ordering_filled n x36152 x36153 x36156).bind fun (x36160, x36161) =>
    cond (x36161 != 0)
    (some (([], x36161)))
    ((mk x36152 0).bind fun x36168 =>
    (loopN (ordering_Tree_L11 n x36156 x36160) n (x36168, 0) : Option (List Int)).bind fun x36894 =>
    some ((x36894, 0)))

def ordering_Height_L1 (x37626 : (List Int)) (x37629 : (List Int)) : ((List Int) × Int × Int) → Option (Out ((List Int) × Int × Int) Int)
  | (x38263, x38267, x38268) =>
    cond (decide (x38268 < (x37626.length : Int)))
    (((idx x37626 x38268).bind fun x38508 =>
    (idx x38263 x38508).bind fun x38514 =>
    (idx x38263 x38508).bind fun x38522 =>
    (idx (upd x38263 x38508 (IntKind.i64.wrap (x38514 + 1))) x38508).bind fun x38535 =>
    (idx x37629 x38508).bind fun x38543 =>
    cond (decide (x38543 ≥ 0))
    ((idx (upd x38263 x38508 (IntKind.i64.wrap (x38514 + 1))) x38543).bind fun x38550 =>
    (idx (upd x38263 x38508 (IntKind.i64.wrap (x38514 + 1))) x38508).bind fun x38558 =>
    (idx (upd x38263 x38508 (IntKind.i64.wrap (x38514 + 1))) x38543).bind fun x38566 =>
    some (((upd (upd x38263 x38508 (IntKind.i64.wrap (x38514 + 1))) x38543 (if x38558 > x38550 then x38558 else x38550)), (if x38535 > x38267 then x38535 else x38267))))
    (some (((upd x38263 x38508 (IntKind.i64.wrap (x38514 + 1))), (if x38535 > x38267 then x38535 else x38267)))) : Option ((List Int) × Int)).bind fun (x38500, x38504) =>
    some (.go (x38500, x38504, (IntKind.i64.wrap (x38268 + 1)))))
    (some (.done x38267))

def ordering_Height (n : Nat) : Int → (List Pair) → (List Int) → Option (Int × Int)
  | x37622, x37623, x37626 =>
    (ordering_Tree n x37622 x37623 x37626).bind fun (x37629, x37630) =>
    cond (x37630 != 0)
    (some ((0, x37630)))
    ((mk x37622 0).bind fun x37636 =>
    (loopN (ordering_Height_L1 x37626 x37629) n (x37636, 0, 0) : Option Int).bind fun x38109 =>
    some ((x38109, 0)))

def ref26_Tree_L13 (x38584 : (List Int)) (x38591 : (List (List Bool))) (x41167 : Int) : ((List Int) × Int) → Option (Out ((List Int) × Int) (List Int))
  | (x42242, x42246) =>
    cond (decide (x42246 > x41167))
    (((idx x38584 x41167).bind fun x42399 =>
    (idx x38584 x42246).bind fun x42405 =>
    (idx x38591 x42399).bind fun x42411 =>
    (idx x42411 x42405).bind fun x42413 =>
    cond x42413
    ((idx x38584 x41167).bind fun x42417 =>
    (idx x38584 x42246).bind fun x42423 =>
    (idx x42242 x42417).bind fun x42429 =>
    some ((upd x42242 x42417 x42423)))
    (some (x42242)) : Option (List Int)).bind fun x42392 =>
    some (.go (x42392, (IntKind.i64.wrap (x42246 - 1)))))
    (some (.done x42242))

def ref26_Tree_L11 (n : Nat) (x38580 : Int) (x38584 : (List Int)) (x38591 : (List (List Bool))) : ((List Int) × Int) → Option (Out ((List Int) × Int) (List Int))
  | (x41163, x41167) =>
    cond (decide (x41167 < x38580))
    (((idx x38584 x41167).bind fun x42130 =>
    (idx x41163 x42130).bind fun x42136 =>
    loopN (ref26_Tree_L13 x38584 x38591 x41167) n ((upd x41163 x42130 (-1)), (IntKind.i64.wrap (x38580 - 1))) : Option (List Int)).bind fun x42123 =>
    some (.go (x42123, (IntKind.i64.wrap (x41167 + 1)))))
    (some (.done x41163))

def ref26_Tree (n : Nat) : Int → (List Pair) → (List Int) → Option ((List Int) × Int)
  | x38580, x38581, x38584 =>
    (ref26_check n x38580 x38581 x38584).bind fun x38588 =>
    cond (x38588 != 0)
    (some (([], x38588)))
    ((ref26_Filled n x38580 x38581 x38584).bind fun x38591 =>
    (mk x38580 0).bind fun x38603 =>
    (loopN (ref26_Tree_L11 n x38580 x38584 x38591) n (x38603, 0) : Option (List Int)).bind fun x40523 =>
    some ((x40523, 0)))

def ref26_Height_L25 (x42452 : (List Int)) : (Int × Int) → Option (Out (Int × Int) Int)
  | (x43135, x43136) =>
    cond (decide (x43136 ≥ 0))
    ((idx x42452 x43136).bind fun x43148 =>
    some (.go ((IntKind.i64.wrap (x43135 + 1)), x43148)))
    (some (.done x43135))

def ref26_Height_L21 (n : Nat) (x42445 : Int) (x42452 : (List Int)) : (Int × Int) → Option (Out (Int × Int) Int)
  | (x42922, x42923) =>
    cond (decide (x42923 < x42445))
    (((loopN (ref26_Height_L25 x42452) n (0, x42923) : Option Int).bind fun x43126 =>
    some ((if x43126 > x42922 then x43126 else x42922)) : Option Int).bind fun x43097 =>
    some (.go (x43097, (IntKind.i64.wrap (x42923 + 1)))))
    (some (.done x42922))

def ref26_Height (n : Nat) : Int → (List Pair) → (List Int) → Option (Int × Int)
  | x42445, x42446, x42449 =>
    (ref26_Tree n x42445 x42446 x42449).bind fun (x42452, x42453) =>
    cond (x42453 != 0)
    (some ((0, x42453)))
    ((loopN (ref26_Height_L21 n x42445 x42452) n (0, 0) : Option Int).bind fun x42806 =>
    some ((x42806, 0)))

def law26_OrderingTrees (n : Nat) : Graph → (List Int) → Option Bool
  | x43156, x43159 =>
    ((law26_awake n ).bind fun x43177 =>
    cond (!x43177)
    (some (true))
    ((law26_few n (Graph.mk x43156.N x43156.E)).bind fun x43180 =>
    cond (!x43180)
    (some (true))
    (some ((decide ((x43159.length : Int) > 100))))) : Option Bool).bind fun x43173 =>
    cond x43173
    ((law26_awake n ).bind fun x43183 =>
    some (x43183))
    ((ordering_Tree n x43156.N x43156.E x43159).bind fun (x43186, x43187) =>
    (ordering_Height n x43156.N x43156.E x43159).bind fun (x43193, x43194) =>
    (ref26_Tree n x43156.N x43156.E x43159).bind fun (x43197, x43198) =>
    (ref26_Height n x43156.N x43156.E x43159).bind fun (x43204, x43205) =>
    (cond (x43187 == x43198)
    (cond (x43194 == x43205)
    ((base_Ints n x43186 x43197).bind fun x43215 =>
    cond x43215
    (some ((x43193 == x43204)))
    (some (false)))
    (some (false)))
    (some (false)) : Option Bool).bind fun x43211 =>
    some (x43211))

def law26_OrderingLater_L1 (x43218 : Graph) (x43221 : (List Int)) : ((List Int) × Int) → Option (Out ((List Int) × Int) (List Int))
  | (x43385, x43389) =>
    cond (decide (x43389 < x43218.N))
    ((idx x43221 x43389).bind fun x43418 =>
    (idx x43385 x43418).bind fun x43424 =>
    some (.go ((upd x43385 x43418 x43389), (IntKind.i64.wrap (x43389 + 1)))))
    (some (.done x43385))

def law26_OrderingLater_L3 (x43218 : Graph) (x43248 : (List Int)) (x43359 : (List Int)) : Int → Option (Out Int (Out Unit Bool))
  | x43817 =>
    cond (decide (x43817 < x43218.N))
    (((idx x43248 x43817).bind fun x43963 =>
    cond (decide (x43963 < (-1)))
    (some (true))
    ((idx x43248 x43817).bind fun x43970 =>
    cond (decide (x43970 ≥ x43218.N))
    (some (true))
    ((idx x43248 x43817).bind fun x43977 =>
    cond (decide (x43977 ≥ 0))
    ((idx x43248 x43817).bind fun x43983 =>
    (idx x43359 x43983).bind fun x43989 =>
    (idx x43359 x43817).bind fun x43997 =>
    some ((decide (x43989 ≤ x43997))))
    (some (false)))) : Option Bool).bind fun x43959 =>
    cond x43959
    (some (.done (.done false)))
    (some (.go (IntKind.i64.wrap (x43817 + 1)))))
    (some (.done (.go ())))

def law26_OrderingLater_L29 (x43248 : (List Int)) (x45494 : Int) : (Int × Int) → Option (Out (Int × Int) (Int × Int))
  | (x45563, x45564) =>
    (cond (x45563 != x45494)
    (some ((decide (x45563 ≥ 0))))
    (some (false)) : Option Bool).bind fun x45579 =>
    cond x45579
    ((idx x43248 x45563).bind fun x45582 =>
    some (.go (x45582, (IntKind.i64.wrap (x45564 + 1)))))
    (some (.done (x45563, x45564)))

def law26_OrderingLater_L25 (n : Nat) (x43218 : Graph) (x43248 : (List Int)) (x43255 : Int) (x43359 : (List Int)) : Int → Option (Out Int (Out Unit Bool))
  | x45064 =>
    cond (decide (x45064 < (x43218.E.length : Int)))
    (((idx x43218.E x45064).bind fun x45463 =>
    (idx x43218.E x45064).bind fun x45469 =>
    ((idx x43359 x45463.A).bind fun x45498 =>
    (idx x43359 x45469.B).bind fun x45506 =>
    cond (decide (x45498 > x45506))
    (some ((x45469.B, x45463.A)))
    (some ((x45463.A, x45469.B))) : Option (Int × Int)).bind fun (x45493, x45494) =>
    (loopN (law26_OrderingLater_L29 x43248 x45494) n (x45493, 1) : Option (Int × Int)).bind fun (x45550, x45551) =>
    (cond (x45550 != x45494)
    (some (true))
    (some ((decide (x45551 > x43255)))) : Option Bool).bind fun x45589 =>
    cond x45589
    (some (.done (.done (.done false))))
    (some (.go ())) : Option (Out Unit (Out Int (Out Unit Bool)))).bind fun y45461 => (match y45461 with
    | .go _ =>
    some (.go (IntKind.i64.wrap (x45064 + 1)))
    | .done r => some r))
    (some (.done (.go ())))

def law26_OrderingLater (n : Nat) : Graph → (List Int) → Option Bool
  | x43218, x43221 =>
    ((law26_awake n ).bind fun x43239 =>
    cond (!x43239)
    (some (true))
    ((law26_few n (Graph.mk x43218.N x43218.E)).bind fun x43242 =>
    cond (!x43242)
    (some (true))
    (some ((decide ((x43221.length : Int) > 100))))) : Option Bool).bind fun x43235 =>
    cond x43235
    ((law26_awake n ).bind fun x43245 =>
    some (x43245))
    ((ordering_Tree n x43218.N x43218.E x43221).bind fun (x43248, x43249) =>
    (ordering_Height n x43218.N x43218.E x43221).bind fun (x43255, x43256) =>
    ((ref26_Valid n x43218.N x43218.E).bind fun x43269 =>
    cond (!x43269)
    (some (true))
    ((ref26_Order n x43218.N x43221).bind fun x43272 =>
    some ((!x43272))) : Option Bool).bind fun x43265 =>
    cond x43265
    ((cond (x43249 != 0)
    (cond (x43249 == x43256)
    (cond ((x43248.length : Int) == 0)
    (some ((x43255 == 0)))
    (some (false)))
    (some (false)))
    (some (false)) : Option Bool).bind fun x43275 =>
    some (x43275))
    ((cond (x43249 != 0)
    (some (true))
    (cond (x43256 != 0)
    (some (true))
    (cond ((x43248.length : Int) != x43218.N)
    (some (true))
    (some ((decide (x43255 > x43218.N)))))) : Option Bool).bind fun x43278 =>
    cond x43278
    (some (false))
    ((mk x43218.N 0).bind fun x43281 =>
    (loopN (law26_OrderingLater_L1 x43218 x43221) n (x43281, 0) : Option (List Int)).bind fun x43359 =>
    (loopN (law26_OrderingLater_L3 x43218 x43248 x43359) n 0 : Option (Out Unit Bool)).bind fun y43723 => (match y43723 with
    | .go _ =>
    (loopN (law26_OrderingLater_L25 n x43218 x43248 x43255 x43359) n 0 : Option (Out Unit Bool)).bind fun y44801 => (match y44801 with
    | .go _ =>
    some (true)
    | .done r => some r)
    | .done r => some r))))

def law26_clone (n : Nat) : (List Pair) → Option (List Pair)
  | x45594 =>
    (app ([] : List Pair) x45594).bind fun x45602 =>
    some (x45602)

def ordering_Simplicial_L1 (n : Nat) (x45609 : Int) : ((List Int) × (List Int) × Int) → Option (Out ((List Int) × (List Int) × Int) (List Int))
  | (x45833, x45836, x45840) =>
    cond (decide (x45840 < x45609))
    (((ordering_all n x45609).bind fun x45921 =>
    (ordering_graph_simplicial n x45833 x45840 x45921).bind fun x45924 =>
    cond x45924
    ((app x45836 [x45840]).bind fun x45931 =>
    some (x45931))
    (some (x45836)) : Option (List Int)).bind fun x45913 =>
    some (.go (x45833, x45913, (IntKind.i64.wrap (x45840 + 1)))))
    (some (.done x45836))

def ordering_Simplicial (n : Nat) : Int → (List Pair) → Option ((List Int) × Int)
  | x45609, x45610 =>
    (ordering_Valid n x45609 x45610).bind fun x45614 =>
    cond (!x45614)
    (some (([], 1)))
    ((ordering_build n x45609 x45610).bind fun x45617 =>
    (loopN (ordering_Simplicial_L1 n x45609) n (x45617, [], 0) : Option (List Int)).bind fun x45777 =>
    some ((x45777, 0)))

def ref26_joined_L13 (x45939 : (List (List Bool))) (x45942 : (List Bool)) (x45946 : Int) (x46868 : Int) : Int → Option (Out Int (Out Unit (Out Int (Out Unit Bool))))
  | x47248 =>
    cond (decide (x47248 < x46868))
    (((idx x45942 x46868).bind fun x47307 =>
    cond (!x47307)
    ((idx x45942 x47248).bind fun x47309 =>
    cond (!x47309)
    ((idx x45939 x45946).bind fun x47311 =>
    (idx x47311 x46868).bind fun x47313 =>
    cond x47313
    ((idx x45939 x45946).bind fun x47315 =>
    (idx x47315 x47248).bind fun x47317 =>
    cond x47317
    ((idx x45939 x46868).bind fun x47319 =>
    (idx x47319 x47248).bind fun x47321 =>
    some ((!x47321)))
    (some (false)))
    (some (false)))
    (some (false)))
    (some (false)) : Option Bool).bind fun x47304 =>
    cond x47304
    (some (.done (.done (.done (.done false)))))
    (some (.go (IntKind.i64.wrap (x47248 + 1)))))
    (some (.done (.go ())))

def ref26_joined_L11 (n : Nat) (x45939 : (List (List Bool))) (x45942 : (List Bool)) (x45945 : Int) (x45946 : Int) : Int → Option (Out Int (Out Unit Bool))
  | x46868 =>
    cond (decide (x46868 < x45945))
    ((loopN (ref26_joined_L13 x45939 x45942 x45946 x46868) n 0 : Option (Out Unit (Out Int (Out Unit Bool)))).bind fun y47211 => (match y47211 with
    | .go _ =>
    some (.go (IntKind.i64.wrap (x46868 + 1)))
    | .done r => some r))
    (some (.done (.go ())))

def ref26_joined (n : Nat) : (List (List Bool)) → (List Bool) → Int → Int → Option Bool
  | x45939, x45942, x45945, x45946 =>
    (loopN (ref26_joined_L11 n x45939 x45942 x45945 x45946) n 0 : Option (Out Unit Bool)).bind fun y46640 => (match y46640 with
    | .go _ =>
    some (true)
    | .done r => some r)

def ref26_Simplicial_L1 (n : Nat) (x47327 : Int) (x47335 : (List (List Bool))) : ((List Int) × Int) → Option (Out ((List Int) × Int) (List Int))
  | (x47535, x47539) =>
    cond (decide (x47539 < x47327))
    (((ref26_joined n x47335 (List.replicate 64 false) x47327 x47539).bind fun x47615 =>
    cond x47615
    ((app x47535 [x47539]).bind fun x47622 =>
    some (x47622))
    (some (x47535)) : Option (List Int)).bind fun x47605 =>
    some (.go (x47605, (IntKind.i64.wrap (x47539 + 1)))))
    (some (.done x47535))

def ref26_Simplicial (n : Nat) : Int → (List Pair) → Option ((List Int) × Int)
  | x47327, x47328 =>
    (ref26_Valid n x47327 x47328).bind fun x47332 =>
    cond (!x47332)
    (some (([], 1)))
    ((ref26_Table n x47327 x47328).bind fun x47335 =>
    (loopN (ref26_Simplicial_L1 n x47327 x47335) n ([], 0) : Option (List Int)).bind fun x47486 =>
    some ((x47486, 0)))

def ref26_Chordal_L25 (n : Nat) (x47630 : Int) (x47637 : (List (List Bool))) : ((List Bool) × Bool × Int) → Option (Out ((List Bool) × Bool × Int) ((List Bool) × Bool))
  | (x52207, x52210, x52211) =>
    (cond (decide (x52211 < x47630))
    (some ((!x52210)))
    (some (false)) : Option Bool).bind fun x52279 =>
    cond x52279
    ((((idx x52207 x52211).bind fun x52324 =>
    cond (!x52324)
    ((ref26_joined n x47637 x52207 x47630 x52211).bind fun x52328 =>
    some (x52328))
    (some (false)) : Option Bool).bind fun x52320 =>
    cond x52320
    ((idx x52207 x52211).bind fun x52331 =>
    some (((upd x52207 x52211 true), true)))
    (some ((x52207, x52210))) : Option ((List Bool) × Bool)).bind fun (x52306, x52309) =>
    some (.go (x52306, x52309, (IntKind.i64.wrap (x52211 + 1)))))
    (some (.done (x52207, x52210)))

def ref26_Chordal_L21 (n : Nat) (x47630 : Int) (x47637 : (List (List Bool))) : ((List Bool) × Int) → Option (Out ((List Bool) × Int) (Out Unit Bool))
  | (x50774, x50777) =>
    cond (decide (x50777 < x47630))
    (((loopN (ref26_Chordal_L25 n x47630 x47637) n (x50774, false, 0) : Option ((List Bool) × Bool)).bind fun (x52142, x52145) =>
    cond (!x52145)
    (some (.done (.done (.done false))))
    (some (.go x52142)) : Option (Out (List Bool) (Out ((List Bool) × Int) (Out Unit Bool)))).bind fun y51951 => (match y51951 with
    | .go x51947 =>
    some (.go (x51947, (IntKind.i64.wrap (x50777 + 1))))
    | .done r => some r))
    (some (.done (.go ())))

def ref26_Chordal (n : Nat) : Int → (List Pair) → Option Bool
  | x47630, x47631 =>
    (ref26_Valid n x47630 x47631).bind fun x47634 =>
    cond (!x47634)
    (some (false))
    ((ref26_Table n x47630 x47631).bind fun x47637 =>
    (loopN (ref26_Chordal_L21 n x47630 x47637) n ((List.replicate 64 false), 0) : Option (Out Unit Bool)).bind fun y49996 => (match y49996 with
    | .go _ =>
    some (true)
    | .done r => some r))

def law26_OrderingValid (n : Nat) : Graph → Option Bool
  | x52340 =>
    ((law26_awake n ).bind fun x52358 =>
    cond (!x52358)
    (some (true))
    ((law26_few n (Graph.mk x52340.N x52340.E)).bind fun x52361 =>
    some ((!x52361))) : Option Bool).bind fun x52354 =>
    cond x52354
    ((law26_awake n ).bind fun x52364 =>
    some (x52364))
    ((law26_clone n x52340.E).bind fun x52367 =>
    (ordering_Simplicial n x52340.N x52367).bind fun (x52373, x52374) =>
    (ref26_Simplicial n x52340.N x52340.E).bind fun (x52380, x52381) =>
    ((ordering_Valid n x52340.N x52367).bind fun x52408 =>
    (ref26_Valid n x52340.N x52340.E).bind fun x52410 =>
    cond (x52408 == x52410)
    ((ordering_Chordal n x52340.N x52367).bind fun x52412 =>
    (ref26_Chordal n x52340.N x52340.E).bind fun x52414 =>
    cond (x52412 == x52414)
    (cond (x52374 == x52381)
    ((base_Ints n x52373 x52380).bind fun x52416 =>
    cond x52416
    ((base_Pairs n x52367 x52340.E).bind fun x52418 =>
    some (x52418))
    (some (false)))
    (some (false)))
    (some (false)))
    (some (false)) : Option Bool).bind fun x52404 =>
    some (x52404))

def law26_OrderingPerfect_L1 (x52428 : (List Int)) (x52462 : (List Int)) : Int → Option (Out Int (Out Unit Bool))
  | x52544 =>
    cond (decide (x52544 < (x52462.length : Int)))
    ((idx x52462 x52544).bind fun x52563 =>
    (idx x52428 0).bind fun x52569 =>
    cond (x52563 == x52569)
    (some (.done (.done true)))
    (some (.go (IntKind.i64.wrap (x52544 + 1)))))
    (some (.done (.go ())))

def law26_OrderingPerfect (n : Nat) : Graph → (List Int) → Option Bool
  | x52425, x52428 =>
    ((law26_awake n ).bind fun x52446 =>
    cond (!x52446)
    (some (true))
    ((law26_few n (Graph.mk x52425.N x52425.E)).bind fun x52449 =>
    cond (!x52449)
    (some (true))
    (some ((decide ((x52428.length : Int) > 100))))) : Option Bool).bind fun x52442 =>
    cond x52442
    ((law26_awake n ).bind fun x52452 =>
    some (x52452))
    ((ordering_Fill n x52425.N x52425.E x52428).bind fun (x52455, x52456) =>
    (ordering_Simplicial n x52425.N x52425.E).bind fun (x52462, x52463) =>
    (ordering_Chordal n x52425.N x52425.E).bind fun x52469 =>
    (cond x52469
    (cond (x52463 != 0)
    (some (true))
    (cond (decide (x52425.N > 0))
    (some (((x52462.length : Int) == 0)))
    (some (false))))
    (some (false)) : Option Bool).bind fun x52472 =>
    cond x52472
    (some (false))
    ((cond (x52456 != 0)
    (some (true))
    (cond (decide ((x52455.length : Int) > 0))
    (some (true))
    (some ((x52425.N == 0)))) : Option Bool).bind fun x52475 =>
    cond x52475
    (some (true))
    ((cond (!x52469)
    (some (true))
    (cond (x52463 != 0)
    (some (true))
    (some (((x52428.length : Int) == 0)))) : Option Bool).bind fun x52478 =>
    cond x52478
    (some (false))
    ((loopN (law26_OrderingPerfect_L1 x52428 x52462) n 0 : Option (Out Unit Bool)).bind fun y52529 => (match y52529 with
    | .go _ =>
    some (false)
    | .done r => some r)))))

end Go.Proofs.YtgmiencjoghnnaaDoor
