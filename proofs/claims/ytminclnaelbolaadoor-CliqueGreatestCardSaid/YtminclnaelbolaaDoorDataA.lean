/-
  What the functions of the program compute, as plain Lean functions.
-/
import Derived.Test.YtminclnaelbolaaDoorCoreA
namespace Go.Proofs.YtminclnaelbolaaDoor
open Go Go.Proofs.YtminclnaelbolaaDoor.Gw Go.RowKit
set_option linter.unusedVariables false
def tab32 : List Int := [0, 1, 28, 2, 29, 14, 24, 3, 30, 22, 20, 15, 25, 17, 4, 8, 31, 27, 13, 23, 21, 19, 16, 7, 26, 12, 18, 6, 11, 5, 10, 9]
structure Pair where
  A : Int
  B : Int
structure Graph where
  N : Int
  E : (List Pair)
def okPair (x : Pair) : Prop := inK .i64 x.A ∧ inK .i64 x.B
def okGraph (x : Graph) : Prop := inK .i64 x.N ∧ (x.E.length ≤ maxLen ∧ ∀ yxE ∈ x.E, okPair yxE)
def clique_build_L1 (x1 : Int) (x2 : (List Pair)) : ((List Int) × Int) → Option (Out ((List Int) × Int) (Out (List Int) ((List Int) × Bool)))
  | (x463, x467) =>
    cond (decide (x467 < (x2.length : Int)))
    ((idx x2 x467).bind fun x583 =>
    (cond (decide (x583.A < 0))
    (some (true))
    (cond (decide (x583.A ≥ x583.B))
    (some (true))
    (some ((decide (x583.B ≥ x1))))) : Option Bool).bind fun x592 =>
    cond x592
    (some (.done (.done ([], false))))
    ((cond (decide (x467 > 0))
    ((idx x2 (IntKind.i64.wrap (x467 - 1))).bind fun x622 =>
    cond (decide (x622.A > x583.A))
    (some (true))
    ((idx x2 (IntKind.i64.wrap (x467 - 1))).bind fun x629 =>
    cond (x629.A == x583.A)
    ((idx x2 (IntKind.i64.wrap (x467 - 1))).bind fun x635 =>
    some ((decide (x635.B ≥ x583.B))))
    (some (false))))
    (some (false)) : Option Bool).bind fun x618 =>
    cond x618
    (some (.done (.done ([], false))))
    ((idx x463 x583.A).bind fun x646 =>
    (need (decide (0 ≤ x583.B))).bind fun _ =>
    (idx x463 x583.A).bind fun x655 =>
    (idx (upd x463 x583.A (ib .or .u32 x646 (IntKind.u32.wrap ((1 : Int) * 2 ^ min x583.B.toNat (IntKind.u32).bits)))) x583.B).bind fun x669 =>
    (need (decide (0 ≤ x583.A))).bind fun _ =>
    (idx (upd x463 x583.A (ib .or .u32 x646 (IntKind.u32.wrap ((1 : Int) * 2 ^ min x583.B.toNat (IntKind.u32).bits)))) x583.B).bind fun x678 =>
    some (.go ((upd (upd x463 x583.A (ib .or .u32 x646 (IntKind.u32.wrap ((1 : Int) * 2 ^ min x583.B.toNat (IntKind.u32).bits)))) x583.B (ib .or .u32 x669 (IntKind.u32.wrap ((1 : Int) * 2 ^ min x583.A.toNat (IntKind.u32).bits)))), (IntKind.i64.wrap (x467 + 1)))))))
    (some (.done (.go x463)))

def clique_build (n : Nat) : Int → (List Pair) → Option ((List Int) × Bool)
  | x1, x2 =>
    (cond (decide (x1 < 0))
    (some (true))
    (some ((decide (x1 > 20)))) : Option Bool).bind fun x6 =>
    cond x6
    (some (([], false)))
    ((mk x1 0).bind fun x9 =>
    (loopN (clique_build_L1 x1 x2) n (x9, 0) : Option (Out (List Int) ((List Int) × Bool))).bind fun y355 => (match y355 with
    | .go x350 =>
    some ((x350, true))
    | .done r => some r))

def bits_OnesCount32 (n : Nat) : Int → Option Int
  | x693 =>
    (bidx (⟨#[0, 1, 1, 2, 1, 2, 2, 3, 1, 2, 2, 3, 2, 3, 3, 4, 1, 2, 2, 3, 2, 3, 3, 4, 2, 3, 3, 4, 3, 4, 4, 5, 1, 2, 2, 3, 2, 3, 3, 4, 2, 3, 3, 4, 3, 4, 4, 5, 2, 3, 3, 4, 3, 4, 4, 5, 3, 4, 4, 5, 4, 5, 5, 6, 1, 2, 2, 3, 2, 3, 3, 4, 2, 3, 3, 4, 3, 4, 4, 5, 2, 3, 3, 4, 3, 4, 4, 5, 3, 4, 4, 5, 4, 5, 5, 6, 2, 3, 3, 4, 3, 4, 4, 5, 3, 4, 4, 5, 4, 5, 5, 6, 3, 4, 4, 5, 4, 5, 5, 6, 4, 5, 5, 6, 5, 6, 6, 7, 1, 2, 2, 3, 2, 3, 3, 4, 2, 3, 3, 4, 3, 4, 4, 5, 2, 3, 3, 4, 3, 4, 4, 5, 3, 4, 4, 5, 4, 5, 5, 6, 2, 3, 3, 4, 3, 4, 4, 5, 3, 4, 4, 5, 4, 5, 5, 6, 3, 4, 4, 5, 4, 5, 5, 6, 4, 5, 5, 6, 5, 6, 6, 7, 2, 3, 3, 4, 3, 4, 4, 5, 3, 4, 4, 5, 4, 5, 5, 6, 3, 4, 4, 5, 4, 5, 5, 6, 4, 5, 5, 6, 5, 6, 6, 7, 3, 4, 4, 5, 4, 5, 5, 6, 4, 5, 5, 6, 5, 6, 6, 7, 4, 5, 5, 6, 5, 6, 6, 7, 5, 6, 6, 7, 6, 7, 7, 8]⟩) (x693.fdiv (2 ^ min (24 : Int).toNat (IntKind.u32).bits))).bind fun x694 =>
    (bidx (⟨#[0, 1, 1, 2, 1, 2, 2, 3, 1, 2, 2, 3, 2, 3, 3, 4, 1, 2, 2, 3, 2, 3, 3, 4, 2, 3, 3, 4, 3, 4, 4, 5, 1, 2, 2, 3, 2, 3, 3, 4, 2, 3, 3, 4, 3, 4, 4, 5, 2, 3, 3, 4, 3, 4, 4, 5, 3, 4, 4, 5, 4, 5, 5, 6, 1, 2, 2, 3, 2, 3, 3, 4, 2, 3, 3, 4, 3, 4, 4, 5, 2, 3, 3, 4, 3, 4, 4, 5, 3, 4, 4, 5, 4, 5, 5, 6, 2, 3, 3, 4, 3, 4, 4, 5, 3, 4, 4, 5, 4, 5, 5, 6, 3, 4, 4, 5, 4, 5, 5, 6, 4, 5, 5, 6, 5, 6, 6, 7, 1, 2, 2, 3, 2, 3, 3, 4, 2, 3, 3, 4, 3, 4, 4, 5, 2, 3, 3, 4, 3, 4, 4, 5, 3, 4, 4, 5, 4, 5, 5, 6, 2, 3, 3, 4, 3, 4, 4, 5, 3, 4, 4, 5, 4, 5, 5, 6, 3, 4, 4, 5, 4, 5, 5, 6, 4, 5, 5, 6, 5, 6, 6, 7, 2, 3, 3, 4, 3, 4, 4, 5, 3, 4, 4, 5, 4, 5, 5, 6, 3, 4, 4, 5, 4, 5, 5, 6, 4, 5, 5, 6, 5, 6, 6, 7, 3, 4, 4, 5, 4, 5, 5, 6, 4, 5, 5, 6, 5, 6, 6, 7, 4, 5, 5, 6, 5, 6, 6, 7, 5, 6, 6, 7, 6, 7, 7, 8]⟩) (ib .and .u32 (x693.fdiv (2 ^ min (16 : Int).toNat (IntKind.u32).bits)) 255)).bind fun x696 =>
    (bidx (⟨#[0, 1, 1, 2, 1, 2, 2, 3, 1, 2, 2, 3, 2, 3, 3, 4, 1, 2, 2, 3, 2, 3, 3, 4, 2, 3, 3, 4, 3, 4, 4, 5, 1, 2, 2, 3, 2, 3, 3, 4, 2, 3, 3, 4, 3, 4, 4, 5, 2, 3, 3, 4, 3, 4, 4, 5, 3, 4, 4, 5, 4, 5, 5, 6, 1, 2, 2, 3, 2, 3, 3, 4, 2, 3, 3, 4, 3, 4, 4, 5, 2, 3, 3, 4, 3, 4, 4, 5, 3, 4, 4, 5, 4, 5, 5, 6, 2, 3, 3, 4, 3, 4, 4, 5, 3, 4, 4, 5, 4, 5, 5, 6, 3, 4, 4, 5, 4, 5, 5, 6, 4, 5, 5, 6, 5, 6, 6, 7, 1, 2, 2, 3, 2, 3, 3, 4, 2, 3, 3, 4, 3, 4, 4, 5, 2, 3, 3, 4, 3, 4, 4, 5, 3, 4, 4, 5, 4, 5, 5, 6, 2, 3, 3, 4, 3, 4, 4, 5, 3, 4, 4, 5, 4, 5, 5, 6, 3, 4, 4, 5, 4, 5, 5, 6, 4, 5, 5, 6, 5, 6, 6, 7, 2, 3, 3, 4, 3, 4, 4, 5, 3, 4, 4, 5, 4, 5, 5, 6, 3, 4, 4, 5, 4, 5, 5, 6, 4, 5, 5, 6, 5, 6, 6, 7, 3, 4, 4, 5, 4, 5, 5, 6, 4, 5, 5, 6, 5, 6, 6, 7, 4, 5, 5, 6, 5, 6, 6, 7, 5, 6, 6, 7, 6, 7, 7, 8]⟩) (ib .and .u32 (x693.fdiv (2 ^ min (8 : Int).toNat (IntKind.u32).bits)) 255)).bind fun x698 =>
    (bidx (⟨#[0, 1, 1, 2, 1, 2, 2, 3, 1, 2, 2, 3, 2, 3, 3, 4, 1, 2, 2, 3, 2, 3, 3, 4, 2, 3, 3, 4, 3, 4, 4, 5, 1, 2, 2, 3, 2, 3, 3, 4, 2, 3, 3, 4, 3, 4, 4, 5, 2, 3, 3, 4, 3, 4, 4, 5, 3, 4, 4, 5, 4, 5, 5, 6, 1, 2, 2, 3, 2, 3, 3, 4, 2, 3, 3, 4, 3, 4, 4, 5, 2, 3, 3, 4, 3, 4, 4, 5, 3, 4, 4, 5, 4, 5, 5, 6, 2, 3, 3, 4, 3, 4, 4, 5, 3, 4, 4, 5, 4, 5, 5, 6, 3, 4, 4, 5, 4, 5, 5, 6, 4, 5, 5, 6, 5, 6, 6, 7, 1, 2, 2, 3, 2, 3, 3, 4, 2, 3, 3, 4, 3, 4, 4, 5, 2, 3, 3, 4, 3, 4, 4, 5, 3, 4, 4, 5, 4, 5, 5, 6, 2, 3, 3, 4, 3, 4, 4, 5, 3, 4, 4, 5, 4, 5, 5, 6, 3, 4, 4, 5, 4, 5, 5, 6, 4, 5, 5, 6, 5, 6, 6, 7, 2, 3, 3, 4, 3, 4, 4, 5, 3, 4, 4, 5, 4, 5, 5, 6, 3, 4, 4, 5, 4, 5, 5, 6, 4, 5, 5, 6, 5, 6, 6, 7, 3, 4, 4, 5, 4, 5, 5, 6, 4, 5, 5, 6, 5, 6, 6, 7, 4, 5, 5, 6, 5, 6, 6, 7, 5, 6, 6, 7, 6, 7, 7, 8]⟩) (ib .and .u32 x693 255)).bind fun x700 =>
    some ((IntKind.i64.wrap (IntKind.u8.wrap ((IntKind.u8.wrap ((IntKind.u8.wrap (x694 + x696)) + x698)) + x700))))

def clique_set_size (n : Nat) : Int → Option Int
  | x703 =>
    (bits_OnesCount32 n x703).bind fun x704 =>
    some (x704)

def bits_TrailingZeros32 (n : Nat) : Int → Option Int
  | x707 =>
    cond (x707 == 0)
    (some (32))
    ((idx tab32 ((IntKind.u32.wrap ((ib .and .u32 x707 (IntKind.u32.wrap (0 - x707))) * 125613361)).fdiv (2 ^ min (27 : Int).toNat (IntKind.u32).bits))).bind fun x708 =>
    some ((IntKind.i64.wrap x708)))

def clique_graph_search_L0 (n : Nat) (self : ((List Int) → Int → Int → Int → Option Int)) (x710 : (List Int)) (x713 : Int) : (Int × Int) → Option (Out (Int × Int) Int)
  | (x768, x769) =>
    (cond (x768 != 0)
    ((clique_set_size n x713).bind fun x825 =>
    (clique_set_size n x768).bind fun x827 =>
    (clique_set_size n x769).bind fun x829 =>
    some ((decide ((IntKind.i64.wrap (x825 + x827)) > x829))))
    (some (false)) : Option Bool).bind fun x821 =>
    cond x821
    ((bits_TrailingZeros32 n x768).bind fun x833 =>
    (need (decide (0 ≤ x833))).bind fun _ =>
    (need (decide (0 ≤ x833))).bind fun _ =>
    (idx x710 x833).bind fun x838 =>
    (self x710 (ib .or .u32 x713 (IntKind.u32.wrap ((1 : Int) * 2 ^ min x833.toNat (IntKind.u32).bits))) (ib .and .u32 (ib .andNot .u32 x768 (IntKind.u32.wrap ((1 : Int) * 2 ^ min x833.toNat (IntKind.u32).bits))) x838) x769).bind fun x844 =>
    some (.go ((ib .andNot .u32 x768 (IntKind.u32.wrap ((1 : Int) * 2 ^ min x833.toNat (IntKind.u32).bits))), x844)))
    (some (.done x769))

def clique_graph_search_F (n : Nat) (self : (List Int) → Int → Int → Int → Option Int) : (List Int) → Int → Int → Int → Option Int
  | x710, x713, x714, x715 =>
    ((clique_set_size n x713).bind fun x727 =>
    (clique_set_size n x715).bind fun x729 =>
    cond (decide (x727 > x729))
    (some (x713))
    (some (x715)) : Option Int).bind fun x723 =>
    loopN (clique_graph_search_L0 n self x710 x713) n (x714, x723)
def clique_graph_search : Nat → (List Int) → Int → Int → Int → Option Int
  | 0 => fun _ _ _ _ => none
  | n + 1 => clique_graph_search_F n (clique_graph_search n)

def clique_set_list_L1 (n : Nat) : (Int × (List Int)) → Option (Out (Int × (List Int)) (List Int))
  | (x931, x932) =>
    cond (x931 != 0)
    ((bits_TrailingZeros32 n x931).bind fun x961 =>
    (app x932 [x961]).bind fun x968 =>
    some (.go ((ib .and .u32 x931 (IntKind.u32.wrap (x931 - 1))), x968)))
    (some (.done x932))

def clique_set_list (n : Nat) : Int → Option (List Int)
  | x849 =>
    (loopN (clique_set_list_L1 n) n (x849, []) : Option (List Int)).bind fun x909 =>
    some (x909)

def clique_Max (n : Nat) : Int → (List Pair) → Option ((List Int) × Int)
  | x976, x977 =>
    (clique_build n x976 x977).bind fun (x981, x982) =>
    cond (!x982)
    (some (([], 1)))
    ((need (decide (0 ≤ x976))).bind fun _ =>
    (clique_graph_search n x981 0 (IntKind.u32.wrap ((IntKind.u32.wrap ((1 : Int) * 2 ^ min x976.toNat (IntKind.u32).bits)) - 1)) 0).bind fun x991 =>
    (clique_set_list n x991).bind fun x995 =>
    some ((x995, 0)))

def clique_Color_L25 (x2363 : (List Int)) (x2960 : (List Int)) : (Int × Int) → Option (Out (Int × Int) Int)
  | (x2981, x2982) =>
    cond (decide (x2982 < (x2960.length : Int)))
    ((idx x2960 x2982).bind fun x3003 =>
    (idx x2363 x3003).bind fun x3009 =>
    (need (decide (0 ≤ x3009))).bind fun _ =>
    some (.go ((ib .or .u32 x2981 (IntKind.u32.wrap ((1 : Int) * 2 ^ min x3009.toNat (IntKind.u32).bits))), (IntKind.i64.wrap (x2982 + 1)))))
    (some (.done x2981))

def clique_Color_L21 (n : Nat) (x1001 : Int) (x1006 : (List Int)) : ((List Int) × Int × Int) → Option (Out ((List Int) × Int × Int) ((List Int) × Int))
  | (x2363, x2367, x2368) =>
    cond (decide (x2368 < x1001))
    ((((idx x1006 x2368).bind fun x2953 =>
    (need (decide (0 ≤ x2368))).bind fun _ =>
    (clique_set_list n (ib .and .u32 x2953 (IntKind.u32.wrap ((IntKind.u32.wrap ((1 : Int) * 2 ^ min x2368.toNat (IntKind.u32).bits)) - 1)))).bind fun x2960 =>
    loopN (clique_Color_L25 x2363 x2960) n (0, 0) : Option Int).bind fun x2948 =>
    (bits_TrailingZeros32 n (ib .xor .u32 (if (IntKind.u32).signed then -1 else (IntKind.u32).max) x2948)).bind fun x3019 =>
    (idx x2363 x2368).bind fun x3022 =>
    (idx (upd x2363 x2368 x3019) x2368).bind fun x3035 =>
    some (((upd x2363 x2368 x3019), (if (IntKind.i64.wrap (x3035 + 1)) > x2367 then (IntKind.i64.wrap (x3035 + 1)) else x2367))) : Option ((List Int) × Int)).bind fun (x2873, x2877) =>
    some (.go (x2873, x2877, (IntKind.i64.wrap (x2368 + 1)))))
    (some (.done (x2363, x2367)))

def clique_Color (n : Nat) : Int → (List Pair) → Option ((List Int) × Int × Int)
  | x1001, x1002 =>
    (clique_build n x1001 x1002).bind fun (x1006, x1007) =>
    cond (!x1007)
    (some (([], 0, 1)))
    ((mk x1001 0).bind fun x1013 =>
    (loopN (clique_Color_L21 n x1001 x1006) n (x1013, 0, 0) : Option ((List Int) × Int)).bind fun (x2027, x2031) =>
    some ((x2027, x2031, 0)))

def base_Ints_L1 (x3045 : (List Int)) (x3048 : (List Int)) : Int → Option (Out Int (Out Unit Bool))
  | x3114 =>
    cond (decide (x3114 < (x3045.length : Int)))
    ((idx x3045 x3114).bind fun x3133 =>
    (idx x3048 x3114).bind fun x3139 =>
    cond (x3133 != x3139)
    (some (.done (.done false)))
    (some (.go (IntKind.i64.wrap (x3114 + 1)))))
    (some (.done (.go ())))

def base_Ints (n : Nat) : (List Int) → (List Int) → Option Bool
  | x3045, x3048 =>
    cond ((x3045.length : Int) != (x3048.length : Int))
    (some (false))
    ((loopN (base_Ints_L1 x3045 x3048) n 0 : Option (Out Unit Bool)).bind fun y3099 => (match y3099 with
    | .go _ =>
    some (true)
    | .done r => some r))

def law29_awake (n : Nat) : Option Bool :=
    (clique_Max n 4 [(Pair.mk 0 1), (Pair.mk 1 2), (Pair.mk 1 3), (Pair.mk 2 3)]).bind fun (x3152, x3153) =>
    (clique_Color n 4 [(Pair.mk 0 1), (Pair.mk 1 2), (Pair.mk 1 3), (Pair.mk 2 3)]).bind fun (x3159, x3160, x3161) =>
    (cond (x3153 == 0)
    ((base_Ints n x3152 [1, 2, 3]).bind fun x3190 =>
    cond x3190
    (cond (x3161 == 0)
    (cond (x3160 == 3)
    ((base_Ints n x3159 [0, 1, 0, 2]).bind fun x3197 =>
    some (x3197))
    (some (false)))
    (some (false)))
    (some (false)))
    (some (false)) : Option Bool).bind fun x3181 =>
    some (x3181)

def law29_few (n : Nat) : Graph → Option Bool
  | x3200 =>
    (cond (decide ((x3200.E.length : Int) ≤ 70))
    (cond (decide (x3200.N ≤ 11))
    (some (true))
    (some ((decide ((x3200.E.length : Int) ≤ 30)))))
    (some (false)) : Option Bool).bind fun x3208 =>
    some (x3208)

def ref29_Valid_L1 (x3211 : Int) (x3212 : (List Pair)) : Int → Option (Out Int (Out Unit Bool))
  | x3798 =>
    cond (decide (x3798 < (x3212.length : Int)))
    (((idx x3212 x3798).bind fun x3977 =>
    cond (decide (x3977.A < 0))
    (some (true))
    ((idx x3212 x3798).bind fun x3984 =>
    (idx x3212 x3798).bind fun x3990 =>
    cond (decide (x3984.A ≥ x3990.B))
    (some (true))
    ((idx x3212 x3798).bind fun x3997 =>
    some ((decide (x3997.B ≥ x3211))))) : Option Bool).bind fun x3973 =>
    cond x3973
    (some (.done (.done false)))
    ((cond (decide (x3798 > 0))
    ((idx x3212 x3798).bind fun x4049 =>
    (idx x3212 (IntKind.i64.wrap (x3798 - 1))).bind fun x4055 =>
    cond (decide (x4049.A < x4055.A))
    (some (true))
    ((idx x3212 x3798).bind fun x4062 =>
    (idx x3212 (IntKind.i64.wrap (x3798 - 1))).bind fun x4068 =>
    cond (x4062.A == x4068.A)
    ((idx x3212 x3798).bind fun x4074 =>
    (idx x3212 (IntKind.i64.wrap (x3798 - 1))).bind fun x4080 =>
    some ((decide (x4074.B ≤ x4080.B))))
    (some (false))))
    (some (false)) : Option Bool).bind fun x4045 =>
    cond x4045
    (some (.done (.done false)))
    (some (.go (IntKind.i64.wrap (x3798 + 1))))))
    (some (.done (.go ())))

def ref29_Valid (n : Nat) : Int → (List Pair) → Option Bool
  | x3211, x3212 =>
    (cond (decide (x3211 < 0))
    (some (true))
    (some ((decide (x3211 > 20)))) : Option Bool).bind fun x3215 =>
    cond x3215
    (some (false))
    ((loopN (ref29_Valid_L1 x3211 x3212) n 0 : Option (Out Unit Bool)).bind fun y3654 => (match y3654 with
    | .go _ =>
    some (true)
    | .done r => some r))

def ref29_Joined_L1 (x4091 : (List Pair)) (x4094 : Int) (x4095 : Int) : Int → Option (Out Int (Out Unit Bool))
  | x4213 =>
    cond (decide (x4213 < (x4091.length : Int)))
    (((idx x4091 x4213).bind fun x4260 =>
    cond (x4260.A == (if x4095 < x4094 then x4095 else x4094))
    ((idx x4091 x4213).bind fun x4266 =>
    some ((x4266.B == (if x4095 > x4094 then x4095 else x4094))))
    (some (false)) : Option Bool).bind fun x4257 =>
    cond x4257
    (some (.done (.done true)))
    (some (.go (IntKind.i64.wrap (x4213 + 1)))))
    (some (.done (.go ())))

def ref29_Joined (n : Nat) : (List Pair) → Int → Int → Option Bool
  | x4091, x4094, x4095 =>
    (loopN (ref29_Joined_L1 x4091 x4094 x4095) n 0 : Option (Out Unit Bool)).bind fun y4184 => (match y4184 with
    | .go _ =>
    some (false)
    | .done r => some r)

def ref29_grow_L25 (n : Nat) (x4275 : (List Pair)) (x4278 : (List Int)) (x5943 : Int) : (Bool × Int) → Option (Out (Bool × Int) Bool)
  | (x6685, x6686) =>
    cond (decide (x6686 < (x4278.length : Int)))
    ((cond x6685
    ((idx x4278 x6686).bind fun x6728 =>
    (ref29_Joined n x4275 x6728 x5943).bind fun x6734 =>
    some (x6734))
    (some (false)) : Option Bool).bind fun x6724 =>
    some (.go (x6724, (IntKind.i64.wrap (x6686 + 1)))))
    (some (.done x6685))

def ref29_grow_L21 (n : Nat) (self : (Int → (List Pair) → (List Int) → Int → Option (List Int))) (x4274 : Int) (x4275 : (List Pair)) (x4278 : (List Int)) : ((List Int) × Int) → Option (Out ((List Int) × Int) (List Int))
  | (x5940, x5943) =>
    cond (decide (x5943 < x4274))
    (((loopN (ref29_grow_L25 n x4275 x4278 x5943) n (true, 0) : Option Bool).bind fun x6650 =>
    cond (!x6650)
    (some (x5940))
    ((app ([] : List Int) x4278).bind fun x6742 =>
    (app x6742 [x5943]).bind fun x6752 =>
    (self x4274 x4275 x6752 (IntKind.i64.wrap (x5943 + 1))).bind fun x6759 =>
    cond (decide ((x6759.length : Int) > (x5940.length : Int)))
    (some (x6759))
    (some (x5940))) : Option (List Int)).bind fun x6559 =>
    some (.go (x6559, (IntKind.i64.wrap (x5943 + 1)))))
    (some (.done x5940))

def ref29_grow_F (n : Nat) (self : Int → (List Pair) → (List Int) → Int → Option (List Int)) : Int → (List Pair) → (List Int) → Int → Option (List Int)
  | x4274, x4275, x4278, x4281 =>
    (app ([] : List Int) x4278).bind fun x4287 =>
    (loopN (ref29_grow_L21 n self x4274 x4275 x4278) n (x4287, x4281) : Option (List Int)).bind fun x5526 =>
    some (x5526)
def ref29_grow : Nat → Int → (List Pair) → (List Int) → Int → Option (List Int)
  | 0 => fun _ _ _ _ => none
  | n + 1 => ref29_grow_F n (ref29_grow n)

def ref29_Max (n : Nat) : Int → (List Pair) → Option ((List Int) × Int)
  | x6766, x6767 =>
    (ref29_Valid n x6766 x6767).bind fun x6771 =>
    cond (!x6771)
    (some (([], 1)))
    ((ref29_grow n x6766 x6767 [] 0).bind fun x6774 =>
    some ((x6774, 0)))

def law29_CliqueMax (n : Nat) : Graph → Option Bool
  | x6780 =>
    ((law29_awake n ).bind fun x6798 =>
    cond (!x6798)
    (some (true))
    ((law29_few n (Graph.mk x6780.N x6780.E)).bind fun x6801 =>
    some ((!x6801))) : Option Bool).bind fun x6794 =>
    cond x6794
    ((law29_awake n ).bind fun x6804 =>
    some (x6804))
    ((clique_Max n x6780.N x6780.E).bind fun (x6807, x6808) =>
    (ref29_Max n x6780.N x6780.E).bind fun (x6814, x6815) =>
    (cond (x6808 == x6815)
    ((base_Ints n x6807 x6814).bind fun x6828 =>
    some (x6828))
    (some (false)) : Option Bool).bind fun x6824 =>
    some (x6824))

def law29_CliqueRemoves (n : Nat) : Graph → Int → Option Bool
  | x6831, x6834 =>
    ((law29_awake n ).bind fun x6850 =>
    cond (!x6850)
    (some (true))
    ((law29_few n (Graph.mk x6831.N x6831.E)).bind fun x6853 =>
    cond (!x6853)
    (some (true))
    (some (((x6831.E.length : Int) == 0)))) : Option Bool).bind fun x6846 =>
    cond x6846
    ((law29_awake n ).bind fun x6856 =>
    some (x6856))
    ((need (decide ((x6831.E.length : Int) ≠ 0))).bind fun _ =>
    (cut x6831.E 0 ((IntKind.i64.wrap x6834).tmod (x6831.E.length : Int))).bind fun x6860 =>
    (cut x6831.E (IntKind.i64.wrap (((IntKind.i64.wrap x6834).tmod (x6831.E.length : Int)) + 1)) (x6831.E.length : Int)).bind fun x6864 =>
    (app ([] : List Pair) x6860).bind fun x6872 =>
    (app x6872 x6864).bind fun x6878 =>
    (clique_Max n x6831.N x6831.E).bind fun (x6884, x6885) =>
    (clique_Max n x6831.N x6878).bind fun (x6892, x6893) =>
    cond (x6885 != 0)
    (some (((x6884.length : Int) == 0)))
    ((cond (x6893 == 0)
    (cond (decide ((x6892.length : Int) ≤ (x6884.length : Int)))
    (some ((decide ((x6892.length : Int) ≥ (IntKind.i64.wrap ((x6884.length : Int) - 1))))))
    (some (false)))
    (some (false)) : Option Bool).bind fun x6899 =>
    some (x6899)))

def ref29_Color_L169 (n : Nat) (x6903 : (List Pair)) (x15843 : (List Int)) (x15848 : Int) (x20285 : Int) : (Bool × Int) → Option (Out (Bool × Int) Bool)
  | (x20624, x20625) =>
    cond (decide (x20625 < x15848))
    ((cond x20624
    (some (true))
    ((idx x15843 x20625).bind fun x20673 =>
    cond (x20673 == x20285)
    ((ref29_Joined n x6903 x20625 x15848).bind fun x20681 =>
    some (x20681))
    (some (false))) : Option Bool).bind fun x20669 =>
    some (.go (x20669, (IntKind.i64.wrap (x20625 + 1)))))
    (some (.done x20624))

def ref29_Color_L167 (n : Nat) (x6903 : (List Pair)) (x15843 : (List Int)) (x15848 : Int) : (Int × Bool) → Option (Out (Int × Bool) Int)
  | (x20285, x20286) =>
    cond x20286
    ((loopN (ref29_Color_L169 n x6903 x15843 x15848 x20285) n (false, 0) : Option Bool).bind fun x20585 =>
    cond x20585
    (some (.go ((IntKind.i64.wrap (x20285 + 1)), x20585)))
    (some (.go (x20285, x20585))))
    (some (.done x20285))

def ref29_Color_L141 (n : Nat) (x6902 : Int) (x6903 : (List Pair)) : ((List Int) × Int × Int) → Option (Out ((List Int) × Int × Int) ((List Int) × Int))
  | (x15843, x15847, x15848) =>
    cond (decide (x15848 < x6902))
    (((loopN (ref29_Color_L167 n x6903 x15843 x15848) n (0, true) : Option Int).bind fun x20087 =>
    (app x15843 [x20087]).bind fun x20690 =>
    some ((x20690, (if (IntKind.i64.wrap (x20087 + 1)) > x15847 then (IntKind.i64.wrap (x20087 + 1)) else x15847))) : Option ((List Int) × Int)).bind fun (x19483, x19487) =>
    some (.go (x19483, x19487, (IntKind.i64.wrap (x15848 + 1)))))
    (some (.done (x15843, x15847)))

def ref29_Color (n : Nat) : Int → (List Pair) → Option ((List Int) × Int × Int)
  | x6902, x6903 =>
    (ref29_Valid n x6902 x6903).bind fun x6907 =>
    cond (!x6907)
    (some (([], 0, 1)))
    ((loopN (ref29_Color_L141 n x6902 x6903) n ([], 0, 0) : Option ((List Int) × Int)).bind fun (x13799, x13803) =>
    some ((x13799, x13803, 0)))

def clique_Complement_L13 (x20698 : Int) (x20703 : (List Int)) (x21932 : Int) : ((List Pair) × Int) → Option (Out ((List Pair) × Int) (List Pair))
  | (x22432, x22436) =>
    cond (decide (x22436 < x20698))
    (((idx x20703 x21932).bind fun x22515 =>
    (need (decide (0 ≤ x22436))).bind fun _ =>
    cond ((ib .and .u32 (x22515.fdiv (2 ^ min x22436.toNat (IntKind.u32).bits)) 1) == 0)
    ((app x22432 [(Pair.mk x21932 x22436)]).bind fun x22526 =>
    some (x22526))
    (some (x22432)) : Option (List Pair)).bind fun x22507 =>
    some (.go (x22507, (IntKind.i64.wrap (x22436 + 1)))))
    (some (.done x22432))

def clique_Complement_L11 (n : Nat) (x20698 : Int) (x20703 : (List Int)) : ((List Pair) × Int) → Option (Out ((List Pair) × Int) (List Pair))
  | (x21928, x21932) =>
    cond (decide (x21932 < x20698))
    ((loopN (clique_Complement_L13 x20698 x20703 x21932) n (x21928, (IntKind.i64.wrap (x21932 + 1))) : Option (List Pair)).bind fun x22382 =>
    some (.go (x22382, (IntKind.i64.wrap (x21932 + 1)))))
    (some (.done x21928))

def clique_Complement (n : Nat) : Int → (List Pair) → Option ((List Pair) × Int)
  | x20698, x20699 =>
    (clique_build n x20698 x20699).bind fun (x20703, x20704) =>
    cond (!x20704)
    (some (([], 1)))
    ((loopN (clique_Complement_L11 n x20698 x20703) n ([], 0) : Option (List Pair)).bind fun x21618 =>
    some ((x21618, 0)))

def ref29_Complement_L13 (n : Nat) (x22535 : Int) (x22536 : (List Pair)) (x23573 : Int) : ((List Pair) × Int) → Option (Out ((List Pair) × Int) (List Pair))
  | (x23993, x23997) =>
    cond (decide (x23997 < x22535))
    (((ref29_Joined n x22536 x23573 x23997).bind fun x24064 =>
    cond (!x24064)
    ((app x23993 [(Pair.mk x23573 x23997)]).bind fun x24071 =>
    some (x24071))
    (some (x23993)) : Option (List Pair)).bind fun x24056 =>
    some (.go (x24056, (IntKind.i64.wrap (x23997 + 1)))))
    (some (.done x23993))

def ref29_Complement_L11 (n : Nat) (x22535 : Int) (x22536 : (List Pair)) : ((List Pair) × Int) → Option (Out ((List Pair) × Int) (List Pair))
  | (x23569, x23573) =>
    cond (decide (x23573 < x22535))
    ((loopN (ref29_Complement_L13 n x22535 x22536 x23573) n (x23569, (IntKind.i64.wrap (x23573 + 1))) : Option (List Pair)).bind fun x23951 =>
    some (.go (x23951, (IntKind.i64.wrap (x23573 + 1)))))
    (some (.done x23569))

def ref29_Complement (n : Nat) : Int → (List Pair) → Option ((List Pair) × Int)
  | x22535, x22536 =>
    (ref29_Valid n x22535 x22536).bind fun x22540 =>
    cond (!x22540)
    (some (([], 1)))
    ((loopN (ref29_Complement_L11 n x22535 x22536) n ([], 0) : Option (List Pair)).bind fun x23307 =>
    some ((x23307, 0)))

def base_Pairs_L1 (x24080 : (List Pair)) (x24083 : (List Pair)) : Int → Option (Out Int (Out Unit Bool))
  | x24149 =>
    cond (decide (x24149 < (x24080.length : Int)))
    ((idx x24080 x24149).bind fun x24168 =>
    (idx x24083 x24149).bind fun x24174 =>
    cond (!((x24168.A == x24174.A) && ((x24168.B == x24174.B) && true)))
    (some (.done (.done false)))
    (some (.go (IntKind.i64.wrap (x24149 + 1)))))
    (some (.done (.go ())))

def base_Pairs (n : Nat) : (List Pair) → (List Pair) → Option Bool
  | x24080, x24083 =>
    cond ((x24080.length : Int) != (x24083.length : Int))
    (some (false))
    ((loopN (base_Pairs_L1 x24080 x24083) n 0 : Option (Out Unit Bool)).bind fun y24134 => (match y24134 with
    | .go _ =>
    some (true)
    | .done r => some r))

def law29_CliqueColors (n : Nat) : Graph → Option Bool
  | x24183 =>
    ((law29_awake n ).bind fun x24201 =>
    cond (!x24201)
    (some (true))
    ((law29_few n (Graph.mk x24183.N x24183.E)).bind fun x24204 =>
    some ((!x24204))) : Option Bool).bind fun x24197 =>
    cond x24197
    ((law29_awake n ).bind fun x24207 =>
    some (x24207))
    ((clique_Color n x24183.N x24183.E).bind fun (x24210, x24211, x24212) =>
    (ref29_Color n x24183.N x24183.E).bind fun (x24218, x24219, x24220) =>
    (clique_Complement n x24183.N x24183.E).bind fun (x24226, x24227) =>
    (ref29_Complement n x24183.N x24183.E).bind fun (x24233, x24234) =>
    (cond (x24212 == x24220)
    ((base_Ints n x24210 x24218).bind fun x24250 =>
    cond x24250
    (cond (x24211 == x24219)
    (cond (x24227 == x24234)
    ((base_Pairs n x24226 x24233).bind fun x24253 =>
    some (x24253))
    (some (false)))
    (some (false)))
    (some (false)))
    (some (false)) : Option Bool).bind fun x24246 =>
    some (x24246))

def clique_graph_common_L1 (x24256 : (List Int)) (x24259 : (List Int)) : (Int × Int) → Option (Out (Int × Int) (Out Int (Int × Bool)))
  | (x24399, x24400) =>
    cond (decide (x24400 < (x24259.length : Int)))
    ((idx x24259 x24400).bind fun x24437 =>
    (cond (decide (x24437 < 0))
    (some (true))
    (cond (decide (x24437 ≥ (x24256.length : Int)))
    (some (true))
    (cond (decide (x24400 > 0))
    ((idx x24259 (IntKind.i64.wrap (x24400 - 1))).bind fun x24454 =>
    cond (decide (x24454 ≥ x24437))
    (some (true))
    ((need (decide (0 ≤ x24437))).bind fun _ =>
    some (((ib .and .u32 (x24399.fdiv (2 ^ min x24437.toNat (IntKind.u32).bits)) 1) == 0))))
    ((need (decide (0 ≤ x24437))).bind fun _ =>
    some (((ib .and .u32 (x24399.fdiv (2 ^ min x24437.toNat (IntKind.u32).bits)) 1) == 0))))) : Option Bool).bind fun x24451 =>
    cond x24451
    (some (.done (.done (0, false))))
    ((idx x24256 x24437).bind fun x24463 =>
    some (.go ((ib .and .u32 x24399 x24463), (IntKind.i64.wrap (x24400 + 1))))))
    (some (.done (.go x24399)))

def clique_graph_common (n : Nat) : (List Int) → (List Int) → Option (Int × Bool)
  | x24256, x24259 =>
    (need (decide (0 ≤ (x24256.length : Int)))).bind fun _ =>
    (loopN (clique_graph_common_L1 x24256 x24259) n ((IntKind.u32.wrap ((IntKind.u32.wrap ((1 : Int) * 2 ^ min (x24256.length : Int).toNat (IntKind.u32).bits)) - 1)), 0) : Option (Out Int (Int × Bool))).bind fun y24366 => (match y24366 with
    | .go x24365 =>
    some ((x24365, true))
    | .done r => some r)

def clique_Is (n : Nat) : Int → (List Pair) → (List Int) → Option Bool
  | x24470, x24471, x24474 =>
    (clique_build n x24470 x24471).bind fun (x24477, x24478) =>
    cond (!x24478)
    (some (false))
    ((clique_graph_common n x24477 x24474).bind fun (x24484, x24485) =>
    some (x24485))

def law29_CliqueDifferent_L1 (x24488 : Graph) (x24515 : (List Int)) : Int → Option (Out Int (Out Unit Bool))
  | x24748 =>
    cond (decide (x24748 < (x24488.E.length : Int)))
    ((idx x24488.E x24748).bind fun x24805 =>
    (idx x24488.E x24748).bind fun x24811 =>
    (cond (decide (x24805.A < 0))
    (some (true))
    (cond (decide (x24811.B < 0))
    (some (true))
    (cond (decide (x24805.A ≥ (x24515.length : Int)))
    (some (true))
    (cond (decide (x24811.B ≥ (x24515.length : Int)))
    (some (true))
    ((idx x24515 x24805.A).bind fun x24843 =>
    (idx x24515 x24811.B).bind fun x24849 =>
    some ((x24843 == x24849)))))) : Option Bool).bind fun x24835 =>
    cond x24835
    (some (.done (.done false)))
    (some (.go (IntKind.i64.wrap (x24748 + 1)))))
    (some (.done (.go ())))

def law29_CliqueDifferent_L3 (x24515 : (List Int)) (x24516 : Int) : Int → Option (Out Int (Out Unit Bool))
  | x24975 =>
    cond (decide (x24975 < (x24515.length : Int)))
    (((idx x24515 x24975).bind fun x25022 =>
    cond (decide (x25022 < 0))
    (some (true))
    ((idx x24515 x24975).bind fun x25028 =>
    some ((decide (x25028 ≥ x24516)))) : Option Bool).bind fun x25019 =>
    cond x25019
    (some (.done (.done false)))
    (some (.go (IntKind.i64.wrap (x24975 + 1)))))
    (some (.done (.go ())))

def law29_CliqueDifferent (n : Nat) : Graph → Option Bool
  | x24488 =>
    ((law29_awake n ).bind fun x24506 =>
    cond (!x24506)
    (some (true))
    ((law29_few n (Graph.mk x24488.N x24488.E)).bind fun x24509 =>
    some ((!x24509))) : Option Bool).bind fun x24502 =>
    cond x24502
    ((law29_awake n ).bind fun x24512 =>
    some (x24512))
    ((clique_Color n x24488.N x24488.E).bind fun (x24515, x24516, x24517) =>
    cond (x24517 != 0)
    ((cond ((x24515.length : Int) == 0)
    (cond (x24516 == 0)
    ((clique_Is n x24488.N x24488.E []).bind fun x24530 =>
    some ((!x24530)))
    (some (false)))
    (some (false)) : Option Bool).bind fun x24526 =>
    some (x24526))
    (cond ((x24515.length : Int) != x24488.N)
    (some (false))
    ((loopN (law29_CliqueDifferent_L1 x24488 x24515) n 0 : Option (Out Unit Bool)).bind fun y24695 => (match y24695 with
    | .go _ =>
    (loopN (law29_CliqueDifferent_L3 x24515 x24516) n 0 : Option (Out Unit Bool)).bind fun y24946 => (match y24946 with
    | .go _ =>
    (clique_Max n x24488.N x24488.E).bind fun (x25036, x25037) =>
    (cond (x25037 == 0)
    (some ((decide ((x25036.length : Int) ≤ x24516))))
    (some (false)) : Option Bool).bind fun x25043 =>
    some (x25043)
    | .done r => some r)
    | .done r => some r))))

def clique_graph_count_L1 (n : Nat) (self : ((List Int) → Int → Int → Option Int)) (x25046 : (List Int)) (x25050 : Int) : (Int × Int) → Option (Out (Int × Int) Int)
  | (x25124, x25125) =>
    (clique_set_size n x25124).bind fun x25147 =>
    cond (decide (x25147 ≥ x25050))
    ((bits_TrailingZeros32 n x25124).bind fun x25150 =>
    (idx x25046 x25150).bind fun x25153 =>
    (self x25046 (ib .and .u32 (ib .and .u32 x25124 (IntKind.u32.wrap (x25124 - 1))) x25153) (IntKind.i64.wrap (x25050 - 1))).bind fun x25159 =>
    some (.go ((ib .and .u32 x25124 (IntKind.u32.wrap (x25124 - 1))), (IntKind.i64.wrap (x25125 + x25159)))))
    (some (.done x25125))

def clique_graph_count_F (n : Nat) (self : (List Int) → Int → Int → Option Int) : (List Int) → Int → Int → Option Int
  | x25046, x25049, x25050 =>
    cond (x25050 == 0)
    (some (1))
    ((loopN (clique_graph_count_L1 n self x25046 x25050) n (x25049, 0) : Option Int).bind fun x25105 =>
    some (x25105))
def clique_graph_count : Nat → (List Int) → Int → Int → Option Int
  | 0 => fun _ _ _ => none
  | n + 1 => clique_graph_count_F n (clique_graph_count n)

def clique_Count (n : Nat) : Int → (List Pair) → Int → Option (Int × Int)
  | x25163, x25164, x25167 =>
    (clique_build n x25163 x25164).bind fun (x25168, x25169) =>
    cond (!x25169)
    (some ((0, 1)))
    ((cond (decide (x25167 < 0))
    (some (true))
    (some ((decide (x25167 > x25163)))) : Option Bool).bind fun x25175 =>
    cond x25175
    (some ((0, 0)))
    ((need (decide (0 ≤ x25163))).bind fun _ =>
    (clique_graph_count n x25168 (IntKind.u32.wrap ((IntKind.u32.wrap ((1 : Int) * 2 ^ min x25163.toNat (IntKind.u32).bits)) - 1)) x25167).bind fun x25179 =>
    some ((x25179, 0))))

def ref29_count_L25 (n : Nat) (x25183 : (List Pair)) (x25186 : (List Int)) (x26796 : Int) : (Bool × Int) → Option (Out (Bool × Int) Bool)
  | (x27522, x27523) =>
    cond (decide (x27523 < (x25186.length : Int)))
    ((cond x27522
    ((idx x25186 x27523).bind fun x27565 =>
    (ref29_Joined n x25183 x27565 x26796).bind fun x27571 =>
    some (x27571))
    (some (false)) : Option Bool).bind fun x27561 =>
    some (.go (x27561, (IntKind.i64.wrap (x27523 + 1)))))
    (some (.done x27522))

def ref29_count_L21 (n : Nat) (self : (Int → (List Pair) → (List Int) → Int → Int → Option Int)) (x25182 : Int) (x25183 : (List Pair)) (x25186 : (List Int)) (x25190 : Int) : (Int × Int) → Option (Out (Int × Int) Int)
  | (x26795, x26796) =>
    cond (decide (x26796 < x25182))
    (((loopN (ref29_count_L25 n x25183 x25186 x26796) n (true, 0) : Option Bool).bind fun x27487 =>
    cond x27487
    ((app ([] : List Int) x25186).bind fun x27579 =>
    (app x27579 [x26796]).bind fun x27589 =>
    (self x25182 x25183 x27589 (IntKind.i64.wrap (x26796 + 1)) (IntKind.i64.wrap (x25190 - 1))).bind fun x27596 =>
    some ((IntKind.i64.wrap (x26795 + x27596))))
    (some (x26795)) : Option Int).bind fun x27398 =>
    some (.go (x27398, (IntKind.i64.wrap (x26796 + 1)))))
    (some (.done x26795))

def ref29_count_F (n : Nat) (self : Int → (List Pair) → (List Int) → Int → Int → Option Int) : Int → (List Pair) → (List Int) → Int → Int → Option Int
  | x25182, x25183, x25186, x25189, x25190 =>
    cond (x25190 == 0)
    (some (1))
    ((loopN (ref29_count_L21 n self x25182 x25183 x25186 x25190) n (0, x25189) : Option Int).bind fun x26393 =>
    some (x26393))
def ref29_count : Nat → Int → (List Pair) → (List Int) → Int → Int → Option Int
  | 0 => fun _ _ _ _ _ => none
  | n + 1 => ref29_count_F n (ref29_count n)

def ref29_Count (n : Nat) : Int → (List Pair) → Int → Option (Int × Int)
  | x27600, x27601, x27604 =>
    (ref29_Valid n x27600 x27601).bind fun x27605 =>
    cond (!x27605)
    (some ((0, 1)))
    ((cond (decide (x27604 < 0))
    (some (true))
    (some ((decide (x27604 > x27600)))) : Option Bool).bind fun x27608 =>
    cond x27608
    (some ((0, 0)))
    ((ref29_count n x27600 x27601 [] 0 x27604).bind fun x27611 =>
    some ((x27611, 0))))

def law29_CliqueCounts (n : Nat) : Graph → Int → Option Bool
  | x27614, x27617 =>
    ((law29_awake n ).bind fun x27633 =>
    cond (!x27633)
    (some (true))
    ((law29_few n (Graph.mk x27614.N x27614.E)).bind fun x27636 =>
    some ((!x27636))) : Option Bool).bind fun x27629 =>
    cond x27629
    ((law29_awake n ).bind fun x27639 =>
    some (x27639))
    ((clique_Count n x27614.N x27614.E x27617).bind fun (x27642, x27643) =>
    (ref29_Count n x27614.N x27614.E x27617).bind fun (x27646, x27647) =>
    (cond (x27643 == x27647)
    (some ((x27642 == x27646)))
    (some (false)) : Option Bool).bind fun x27650 =>
    some (x27650))

def clique_Independent (n : Nat) : Int → (List Pair) → Option ((List Int) × Int)
  | x27653, x27654 =>
    (clique_Complement n x27653 x27654).bind fun (x27658, x27659) =>
    cond (x27659 != 0)
    (some (([], x27659)))
    ((clique_Max n x27653 x27658).bind fun (x27665, x27666) =>
    some ((x27665, x27666)))

def ref29_Independent (n : Nat) : Int → (List Pair) → Option ((List Int) × Int)
  | x27672, x27673 =>
    (ref29_Complement n x27672 x27673).bind fun (x27677, x27678) =>
    cond (x27678 != 0)
    (some (([], x27678)))
    ((ref29_Max n x27672 x27677).bind fun (x27684, x27685) =>
    some ((x27684, x27685)))

def law29_CliqueIndependent (n : Nat) : Graph → Option Bool
  | x27691 =>
    ((law29_awake n ).bind fun x27709 =>
    cond (!x27709)
    (some (true))
    ((law29_few n (Graph.mk x27691.N x27691.E)).bind fun x27712 =>
    cond (!x27712)
    (some (true))
    (some ((decide (x27691.N > 11))))) : Option Bool).bind fun x27705 =>
    cond x27705
    ((law29_awake n ).bind fun x27715 =>
    some (x27715))
    ((clique_Independent n x27691.N x27691.E).bind fun (x27718, x27719) =>
    (ref29_Independent n x27691.N x27691.E).bind fun (x27725, x27726) =>
    (cond (x27719 == x27726)
    ((base_Ints n x27718 x27725).bind fun x27739 =>
    some (x27739))
    (some (false)) : Option Bool).bind fun x27735 =>
    some (x27735))

def ref29_Is_L13 (n : Nat) (x27743 : (List Pair)) (x27746 : (List Int)) (x28680 : Int) : Int → Option (Out Int (Out Unit (Out Int (Out Unit Bool))))
  | x29107 =>
    cond (decide (x29107 < x28680))
    ((idx x27746 x29107).bind fun x29128 =>
    (idx x27746 x28680).bind fun x29134 =>
    (ref29_Joined n x27743 x29128 x29134).bind fun x29140 =>
    cond (!x29140)
    (some (.done (.done (.done (.done false)))))
    (some (.go (IntKind.i64.wrap (x29107 + 1)))))
    (some (.done (.go ())))

def ref29_Is_L11 (n : Nat) (x27742 : Int) (x27743 : (List Pair)) (x27746 : (List Int)) : Int → Option (Out Int (Out Unit Bool))
  | x28680 =>
    cond (decide (x28680 < (x27746.length : Int)))
    ((((idx x27746 x28680).bind fun x29063 =>
    cond (decide (x29063 < 0))
    (some (true))
    ((idx x27746 x28680).bind fun x29070 =>
    cond (decide (x29070 ≥ x27742))
    (some (true))
    (cond (decide (x28680 > 0))
    ((idx x27746 x28680).bind fun x29077 =>
    (idx x27746 (IntKind.i64.wrap (x28680 - 1))).bind fun x29083 =>
    some ((decide (x29077 ≤ x29083))))
    (some (false)))) : Option Bool).bind fun x29059 =>
    cond x29059
    (some (.done (.done (.done false))))
    (loopN (ref29_Is_L13 n x27743 x27746 x28680) n 0) : Option (Out Unit (Out Int (Out Unit Bool)))).bind fun y29029 => (match y29029 with
    | .go _ =>
    some (.go (IntKind.i64.wrap (x28680 + 1)))
    | .done r => some r))
    (some (.done (.go ())))

def ref29_Is (n : Nat) : Int → (List Pair) → (List Int) → Option Bool
  | x27742, x27743, x27746 =>
    (ref29_Valid n x27742 x27743).bind fun x27749 =>
    cond (!x27749)
    (some (false))
    ((loopN (ref29_Is_L11 n x27742 x27743 x27746) n 0 : Option (Out Unit Bool)).bind fun y28449 => (match y28449 with
    | .go _ =>
    some (true)
    | .done r => some r))

def clique_Maximal (n : Nat) : Int → (List Pair) → (List Int) → Option Bool
  | x29147, x29148, x29151 =>
    (clique_build n x29147 x29148).bind fun (x29154, x29155) =>
    cond (!x29155)
    (some (false))
    ((clique_graph_common n x29154 x29151).bind fun (x29161, x29162) =>
    (cond x29162
    (some ((x29161 == 0)))
    (some (false)) : Option Bool).bind fun x29165 =>
    some (x29165))

def ref29_Maximal_L25 (n : Nat) (x29169 : (List Pair)) (x29172 : (List Int)) (x31097 : Int) : (Bool × Int) → Option (Out (Bool × Int) Bool)
  | (x31984, x31985) =>
    cond (decide (x31985 < (x29172.length : Int)))
    ((cond x31984
    ((idx x29172 x31985).bind fun x32045 =>
    cond (x31097 != x32045)
    ((idx x29172 x31985).bind fun x32051 =>
    (ref29_Joined n x29169 x31097 x32051).bind fun x32057 =>
    some (x32057))
    (some (false)))
    (some (false)) : Option Bool).bind fun x32041 =>
    some (.go (x32041, (IntKind.i64.wrap (x31985 + 1)))))
    (some (.done x31984))

def ref29_Maximal_L21 (n : Nat) (x29168 : Int) (x29169 : (List Pair)) (x29172 : (List Int)) : Int → Option (Out Int (Out Unit Bool))
  | x31097 =>
    cond (decide (x31097 < x29168))
    (((loopN (ref29_Maximal_L25 n x29169 x29172 x31097) n (true, 0) : Option Bool).bind fun x31940 =>
    cond x31940
    (some (.done (.done (.done false))))
    (some (.go ())) : Option (Out Unit (Out Int (Out Unit Bool)))).bind fun y31821 => (match y31821 with
    | .go _ =>
    some (.go (IntKind.i64.wrap (x31097 + 1)))
    | .done r => some r))
    (some (.done (.go ())))

def ref29_Maximal (n : Nat) : Int → (List Pair) → (List Int) → Option Bool
  | x29168, x29169, x29172 =>
    (ref29_Is n x29168 x29169 x29172).bind fun x29175 =>
    cond (!x29175)
    (some (false))
    ((loopN (ref29_Maximal_L21 n x29168 x29169 x29172) n 0 : Option (Out Unit Bool)).bind fun y30620 => (match y30620 with
    | .go _ =>
    some (true)
    | .done r => some r))

def law29_CliqueIs (n : Nat) : Graph → (List Int) → Option Bool
  | x32063, x32066 =>
    ((law29_awake n ).bind fun x32084 =>
    cond (!x32084)
    (some (true))
    ((law29_few n (Graph.mk x32063.N x32063.E)).bind fun x32087 =>
    cond (!x32087)
    (some (true))
    (some ((decide ((x32066.length : Int) > 100))))) : Option Bool).bind fun x32080 =>
    cond x32080
    ((law29_awake n ).bind fun x32090 =>
    some (x32090))
    ((app ([] : List Pair) x32063.E).bind fun x32097 =>
    (app ([] : List Int) x32066).bind fun x32107 =>
    ((clique_Is n x32063.N x32097 x32107).bind fun x32138 =>
    (ref29_Is n x32063.N x32063.E x32066).bind fun x32140 =>
    cond (x32138 == x32140)
    ((clique_Maximal n x32063.N x32097 x32107).bind fun x32142 =>
    (ref29_Maximal n x32063.N x32063.E x32066).bind fun x32144 =>
    cond (x32142 == x32144)
    ((base_Pairs n x32097 x32063.E).bind fun x32146 =>
    cond x32146
    ((base_Ints n x32107 x32066).bind fun x32148 =>
    some (x32148))
    (some (false)))
    (some (false)))
    (some (false)) : Option Bool).bind fun x32131 =>
    some (x32131))

def law29_CliqueComplements (n : Nat) : Graph → Option Bool
  | x32154 =>
    ((law29_awake n ).bind fun x32172 =>
    cond (!x32172)
    (some (true))
    ((law29_few n (Graph.mk x32154.N x32154.E)).bind fun x32175 =>
    cond (!x32175)
    (some (true))
    (some ((decide (x32154.N > 11))))) : Option Bool).bind fun x32168 =>
    cond x32168
    ((law29_awake n ).bind fun x32178 =>
    some (x32178))
    ((clique_Complement n x32154.N x32154.E).bind fun (x32181, x32182) =>
    cond (x32182 != 0)
    (some (((x32181.length : Int) == 0)))
    ((clique_Complement n x32154.N x32181).bind fun (x32188, x32189) =>
    (clique_Independent n x32154.N x32154.E).bind fun (x32195, x32196) =>
    (cond (x32189 == 0)
    ((base_Pairs n x32188 x32154.E).bind fun x32212 =>
    cond x32212
    (cond ((IntKind.i64.wrap ((x32181.length : Int) + (x32154.E.length : Int))) == (IntKind.i64.wrap ((IntKind.i64.wrap (x32154.N * (IntKind.i64.wrap (x32154.N - 1)))).tdiv 2)))
    (cond (x32196 == 0)
    ((clique_Is n x32154.N x32181 x32195).bind fun x32215 =>
    some (x32215))
    (some (false)))
    (some (false)))
    (some (false)))
    (some (false)) : Option Bool).bind fun x32208 =>
    some (x32208)))

def law29_CliqueGreatest (n : Nat) : Graph → (List Int) → Option Bool
  | x32218, x32221 =>
    ((law29_awake n ).bind fun x32239 =>
    cond (!x32239)
    (some (true))
    ((law29_few n (Graph.mk x32218.N x32218.E)).bind fun x32242 =>
    cond (!x32242)
    (some (true))
    (some ((decide ((x32221.length : Int) > 100))))) : Option Bool).bind fun x32235 =>
    cond x32235
    ((law29_awake n ).bind fun x32245 =>
    some (x32245))
    ((clique_Max n x32218.N x32218.E).bind fun (x32248, x32249) =>
    cond (x32249 != 0)
    (((clique_Is n x32218.N x32218.E x32221).bind fun x32265 =>
    cond (!x32265)
    ((clique_Is n x32218.N x32218.E []).bind fun x32268 =>
    some ((!x32268)))
    (some (false)) : Option Bool).bind fun x32261 =>
    some (x32261))
    (((clique_Is n x32218.N x32218.E x32248).bind fun x32284 =>
    cond (!x32284)
    (some (true))
    ((clique_Maximal n x32218.N x32218.E x32248).bind fun x32287 =>
    cond (!x32287)
    (some (true))
    ((clique_Is n x32218.N x32218.E x32221).bind fun x32290 =>
    cond x32290
    (some ((decide ((x32221.length : Int) > (x32248.length : Int)))))
    (some (false)))) : Option Bool).bind fun x32280 =>
    cond x32280
    (some (false))
    ((clique_Count n x32218.N x32218.E (x32248.length : Int)).bind fun (x32293, x32294) =>
    (clique_Count n x32218.N x32218.E (IntKind.i64.wrap ((x32248.length : Int) + 1))).bind fun (x32297, x32298) =>
    (cond (x32294 == 0)
    (cond (x32298 == 0)
    (cond (decide (x32293 > 0))
    (some ((x32297 == 0)))
    (some (false)))
    (some (false)))
    (some (false)) : Option Bool).bind fun x32301 =>
    some (x32301))))

end Go.Proofs.YtminclnaelbolaaDoor
