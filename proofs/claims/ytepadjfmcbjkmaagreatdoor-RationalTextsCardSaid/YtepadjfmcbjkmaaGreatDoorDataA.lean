/-
  What the functions of the program compute, as plain Lean functions.
-/
import Derived.Test.YtepadjfmcbjkmaaGreatDoorCoreA
import Derived.Lib.Bytealg
namespace Go.Proofs.YtepadjfmcbjkmaaGreatDoor
open Go Go.Proofs.YtepadjfmcbjkmaaGreatDoor.Gw Go.RowKit
set_option linter.unusedVariables false
def pow10 : List Int := [1, 10, 100, 1000, 10000, 100000, 1000000, 10000000, 100000000, 1000000000, 10000000000, 100000000000, 1000000000000, 10000000000000, 100000000000000, 1000000000000000, 10000000000000000, 100000000000000000, 1000000000000000000, 10000000000000000000]
structure Int_2 where
  Neg : Bool
  Mag : (List Int)
structure Rational where
  Num : Int_2
  Den : Int_2
structure Interval where
  Lo : Rational
  Hi : Rational
def okInt_2 (x : Int_2) : Prop := True ∧ (x.Mag.length ≤ maxLen ∧ ∀ yxMag ∈ x.Mag, inK .u32 yxMag)
def okRational (x : Rational) : Prop := okInt_2 x.Num ∧ okInt_2 x.Den
def strconv_FormatUint (n : Nat) (x b : Int) : Option ByteArray := fmtU x b
def strconv_ParseUint (n : Nat) (s : ByteArray) (b k : Int) : Option (Int × Unit) := parU s b k
def strings_Repeat (n : Nat) (s : ByteArray) (c : Int) : Option ByteArray := repS s c
def strings_Join (n : Nat) (xs : List ByteArray) (sep : ByteArray) : Option ByteArray := joinS xs sep
def stringslite_IndexByte (n : Nat) (s : ByteArray) (c : Int) : Option Int := some (Lib.indexByte s.data.toList c.toNat.toUInt8)
def integer_trim_L1 : (List Int) → Option (Out (List Int) (List Int))
  | x96 =>
    (cond (decide ((x96.length : Int) > 0))
    ((idx x96 (IntKind.i64.wrap ((x96.length : Int) - 1))).bind fun x133 =>
    some ((x133 == 0)))
    (some (false)) : Option Bool).bind fun x130 =>
    cond x130
    ((cut x96 0 (IntKind.i64.wrap ((x96.length : Int) - 1))).bind fun x139 =>
    some (.go x139))
    (some (.done x96))

def integer_trim (n : Nat) : (List Int) → Option (List Int)
  | x1 =>
    (loopN (integer_trim_L1) n x1 : Option (List Int)).bind fun x72 =>
    some (x72)

def integer_made (n : Nat) : Bool → (List Int) → Option Int_2
  | x144, x145 =>
    (integer_trim n x145).bind fun x151 =>
    cond ((x151.length : Int) == 0)
    (some ((Int_2.mk false [])))
    (some ((Int_2.mk x144 x151)))

def integer_Of (n : Nat) : Int → Option Int_2
  | x163 =>
    (cond (decide (x163 < 0))
    (some ((IntKind.u64.wrap (0 - (IntKind.u64.wrap x163)))))
    (some ((IntKind.u64.wrap x163))) : Option Int).bind fun x167 =>
    (integer_made n (decide (x163 < 0)) [(IntKind.u32.wrap x167), (IntKind.u32.wrap (x167.fdiv (2 ^ min (32 : Int).toNat (IntKind.u64).bits)))]).bind fun x174 =>
    some ((Int_2.mk x174.Neg x174.Mag))

def integer_Sign (n : Nat) : Int_2 → Option Int
  | x181 =>
    (integer_trim n x181.Mag).bind fun x189 =>
    cond ((x189.length : Int) == 0)
    (some (0))
    (cond x181.Neg
    (some ((-1)))
    (some (1)))

def slices_Cloneuint32_uint32_ (n : Nat) : (List Int) → Option (List Int)
  | x195 =>
    (app ([] : List Int) x195).bind fun x205 =>
    some (x205)

def integer_Neg (n : Nat) : Int_2 → Option Int_2
  | x212 =>
    (integer_trim n x212.Mag).bind fun x242 =>
    (slices_Cloneuint32_uint32_ n x242).bind fun x248 =>
    (integer_made n (!x212.Neg) x248).bind fun x254 =>
    some ((Int_2.mk x254.Neg x254.Mag))

def integer_Abs (n : Nat) : Int_2 → Option Int_2
  | x261 =>
    (integer_trim n x261.Mag).bind fun x272 =>
    (slices_Cloneuint32_uint32_ n x272).bind fun x278 =>
    (integer_made n false x278).bind fun x284 =>
    some ((Int_2.mk x284.Neg x284.Mag))

def integer_compare_L1 (x291 : (List Int)) (x294 : (List Int)) : Int → Option (Out Int (Out Unit Int))
  | x413 =>
    cond (decide (x413 ≥ 0))
    ((idx x291 x413).bind fun x445 =>
    (idx x294 x413).bind fun x451 =>
    cond (x445 != x451)
    ((idx x291 x413).bind fun x458 =>
    (idx x294 x413).bind fun x464 =>
    cond (decide (x458 < x464))
    (some (.done (.done (-1))))
    (some (.done (.done 1))))
    (some (.go (IntKind.i64.wrap (x413 - 1)))))
    (some (.done (.go ())))

def integer_compare (n : Nat) : (List Int) → (List Int) → Option Int
  | x291, x294 =>
    cond ((x291.length : Int) != (x294.length : Int))
    (cond (decide ((x291.length : Int) < (x294.length : Int)))
    (some ((-1)))
    (some (1)))
    ((loopN (integer_compare_L1 x291 x294) n (IntKind.i64.wrap ((x291.length : Int) - 1)) : Option (Out Unit Int)).bind fun y385 => (match y385 with
    | .go _ =>
    some (0)
    | .done r => some r))

def bits_Div32 (n : Nat) : Int → Int → Int → Option (Int × Int)
  | x474, x475, x476 =>
    ((cond (x476 != 0)
    (some ((decide (x476 ≤ x474))))
    (some (false)) : Option Bool).bind fun x482 =>
    cond x482
    (none)
    (some (())) : Option Unit).bind fun _ =>
    (need (decide ((IntKind.u64.wrap x476) ≠ 0))).bind fun _ =>
    (need (decide ((IntKind.u64.wrap x476) ≠ 0))).bind fun _ =>
    some (((IntKind.u32.wrap (IntKind.u64.wrap ((ib .or .u64 (IntKind.u64.wrap ((IntKind.u64.wrap x474) * 2 ^ min (32 : Int).toNat (IntKind.u64).bits)) (IntKind.u64.wrap x475)).tdiv (IntKind.u64.wrap x476)))), (IntKind.u32.wrap ((ib .or .u64 (IntKind.u64.wrap ((IntKind.u64.wrap x474) * 2 ^ min (32 : Int).toNat (IntKind.u64).bits)) (IntKind.u64.wrap x475)).tmod (IntKind.u64.wrap x476)))))

def integer_short_L1 (n : Nat) (x488 : (List Int)) (x491 : Int) : ((List Int) × Int × Int) → Option (Out ((List Int) × Int × Int) ((List Int) × Int))
  | (x616, x620, x621) =>
    cond (decide (x621 ≥ 0))
    ((idx x488 x621).bind fun x655 =>
    (bits_Div32 n x620 x655 x491).bind fun (x661, x662) =>
    (idx x616 x621).bind fun x665 =>
    some (.go ((upd x616 x621 x661), x662, (IntKind.i64.wrap (x621 - 1)))))
    (some (.done (x616, x620)))

def integer_short (n : Nat) : (List Int) → Int → Option ((List Int) × Int)
  | x488, x491 =>
    (mk (x488.length : Int) 0).bind fun x493 =>
    (loopN (integer_short_L1 n x488 x491) n (x493, 0, (IntKind.i64.wrap ((x488.length : Int) - 1))) : Option ((List Int) × Int)).bind fun (x585, x589) =>
    some ((x585, x589))

def bits_Len32 (n : Nat) : Int → Option Int
  | x680 =>
    (cond (decide (x680 ≥ 65536))
    (some (((x680.fdiv (2 ^ min (16 : Int).toNat (IntKind.u32).bits)), 16)))
    (some ((x680, 0))) : Option (Int × Int)).bind fun (x681, x682) =>
    (cond (decide (x681 ≥ 256))
    (some (((x681.fdiv (2 ^ min (8 : Int).toNat (IntKind.u32).bits)), (IntKind.i64.wrap (x682 + 8)))))
    (some ((x681, x682))) : Option (Int × Int)).bind fun (x685, x686) =>
    (bidx (ByteArray.mk #[0, 1, 2, 2, 3, 3, 3, 3, 4, 4, 4, 4, 4, 4, 4, 4, 5, 5, 5, 5, 5, 5, 5, 5, 5, 5, 5, 5, 5, 5, 5, 5, 6, 6, 6, 6, 6, 6, 6, 6, 6, 6, 6, 6, 6, 6, 6, 6, 6, 6, 6, 6, 6, 6, 6, 6, 6, 6, 6, 6, 6, 6, 6, 6, 7, 7, 7, 7, 7, 7, 7, 7, 7, 7, 7, 7, 7, 7, 7, 7, 7, 7, 7, 7, 7, 7, 7, 7, 7, 7, 7, 7, 7, 7, 7, 7, 7, 7, 7, 7, 7, 7, 7, 7, 7, 7, 7, 7, 7, 7, 7, 7, 7, 7, 7, 7, 7, 7, 7, 7, 7, 7, 7, 7, 7, 7, 7, 7, 8, 8, 8, 8, 8, 8, 8, 8, 8, 8, 8, 8, 8, 8, 8, 8, 8, 8, 8, 8, 8, 8, 8, 8, 8, 8, 8, 8, 8, 8, 8, 8, 8, 8, 8, 8, 8, 8, 8, 8, 8, 8, 8, 8, 8, 8, 8, 8, 8, 8, 8, 8, 8, 8, 8, 8, 8, 8, 8, 8, 8, 8, 8, 8, 8, 8, 8, 8, 8, 8, 8, 8, 8, 8, 8, 8, 8, 8, 8, 8, 8, 8, 8, 8, 8, 8, 8, 8, 8, 8, 8, 8, 8, 8, 8, 8, 8, 8, 8, 8, 8, 8, 8, 8, 8, 8, 8, 8, 8, 8, 8, 8, 8, 8, 8, 8, 8, 8, 8, 8, 8, 8, 8, 8, 8, 8, 8, 8]) (IntKind.u8.wrap x685)).bind fun x689 =>
    some ((IntKind.i64.wrap (x686 + (IntKind.i64.wrap x689))))

def bits_LeadingZeros32 (n : Nat) : Int → Option Int
  | x691 =>
    (bits_Len32 n x691).bind fun x692 =>
    some ((IntKind.i64.wrap (32 - x692)))

def integer_shifted_L1 (x695 : (List Int)) (x698 : Int) : ((List Int) × Int) → Option (Out ((List Int) × Int) (List Int))
  | (x893, x897) =>
    cond (decide (x897 < (x695.length : Int)))
    ((idx x695 x897).bind fun x948 =>
    (need (decide (0 ≤ x698))).bind fun _ =>
    (idx x893 x897).bind fun x955 =>
    (idx x893 x897).bind fun x963 =>
    (idx (upd x893 x897 (ib .or .u32 x955 (IntKind.u32.wrap (IntKind.u64.wrap ((IntKind.u64.wrap x948) * 2 ^ min x698.toNat (IntKind.u64).bits))))) (IntKind.i64.wrap (x897 + 1))).bind fun x976 =>
    some (.go ((upd (upd x893 x897 (ib .or .u32 x955 (IntKind.u32.wrap (IntKind.u64.wrap ((IntKind.u64.wrap x948) * 2 ^ min x698.toNat (IntKind.u64).bits))))) (IntKind.i64.wrap (x897 + 1)) (IntKind.u32.wrap ((IntKind.u64.wrap ((IntKind.u64.wrap x948) * 2 ^ min x698.toNat (IntKind.u64).bits)).fdiv (2 ^ min (32 : Int).toNat (IntKind.u64).bits)))), (IntKind.i64.wrap (x897 + 1)))))
    (some (.done x893))

def integer_shifted (n : Nat) : (List Int) → Int → Option (List Int)
  | x695, x698 =>
    (mk (IntKind.i64.wrap ((x695.length : Int) + 1)) 0).bind fun x701 =>
    (loopN (integer_shifted_L1 x695 x698) n (x701, 0) : Option (List Int)).bind fun x845 =>
    some (x845)

def bits_Sub32 (n : Nat) : Int → Int → Int → Option (Int × Int)
  | x990, x991, x992 =>
    some (((IntKind.u32.wrap ((IntKind.u32.wrap (x990 - x991)) - x992)), ((ib .or .u32 (ib .and .u32 (ib .xor .u32 (if (IntKind.u32).signed then -1 else (IntKind.u32).max) x990) x991) (ib .and .u32 (ib .xor .u32 (if (IntKind.u32).signed then -1 else (IntKind.u32).max) (ib .xor .u32 x990 x991)) (IntKind.u32.wrap ((IntKind.u32.wrap (x990 - x991)) - x992)))).fdiv (2 ^ min (31 : Int).toNat (IntKind.u32).bits))))

def bits_Add32 (n : Nat) : Int → Int → Int → Option (Int × Int)
  | x993, x994, x995 =>
    some (((IntKind.u32.wrap (IntKind.u64.wrap ((IntKind.u64.wrap ((IntKind.u64.wrap x993) + (IntKind.u64.wrap x994))) + (IntKind.u64.wrap x995)))), (IntKind.u32.wrap ((IntKind.u64.wrap ((IntKind.u64.wrap ((IntKind.u64.wrap x993) + (IntKind.u64.wrap x994))) + (IntKind.u64.wrap x995))).fdiv (2 ^ min (32 : Int).toNat (IntKind.u64).bits)))))

def integer_divide_L91 (x_0 : (List Int)) (x_1 : (List Int)) (x_2 : Int) : (Int × Int) → Option (Out (Int × Int) Int)
  | (x_3, x_4) =>
    (cond (decide (x_3 ≥ 4294967296))
    (some (true))
    ((idx x_0 (IntKind.i64.wrap ((x_0.length : Int) - 2))).bind fun x_5 =>
    (idx x_1 (IntKind.i64.wrap ((IntKind.i64.wrap (x_2 + (x_0.length : Int))) - 2))).bind fun x_6 =>
    some ((decide ((IntKind.u64.wrap (x_3 * (IntKind.u64.wrap x_5))) > (ib .or .u64 (IntKind.u64.wrap (x_4 * 2 ^ min (32 : Int).toNat (IntKind.u64).bits)) (IntKind.u64.wrap x_6)))))) : Option Bool).bind fun x_7 =>
    cond x_7
    ((idx x_0 (IntKind.i64.wrap ((x_0.length : Int) - 1))).bind fun x_8 =>
    cond (decide ((IntKind.u64.wrap (x_4 + (IntKind.u64.wrap x_8))) ≥ 4294967296))
    (some (.done (IntKind.u64.wrap (x_3 - 1))))
    (some (.go ((IntKind.u64.wrap (x_3 - 1)), (IntKind.u64.wrap (x_4 + (IntKind.u64.wrap x_8)))))))
    (some (.done x_3))

def integer_divide_L93 (n : Nat) (x_0 : (List Int)) (x_1 : Int) (x_2 : Int) : ((List Int) × Int × Int × Int) → Option (Out ((List Int) × Int × Int × Int) ((List Int) × Int × Int))
  | (x_3, x_4, x_5, x_6) =>
    cond (decide (x_6 < (x_0.length : Int)))
    ((idx x_0 x_6).bind fun x_7 =>
    (idx x_3 (IntKind.i64.wrap (x_6 + x_1))).bind fun x_8 =>
    (bits_Sub32 n x_8 (IntKind.u32.wrap (IntKind.u64.wrap ((IntKind.u64.wrap (x_2 * (IntKind.u64.wrap x_7))) + x_4))) x_5).bind fun (x_9, x_a) =>
    (idx x_3 (IntKind.i64.wrap (x_6 + x_1))).bind fun x_b =>
    some (.go ((upd x_3 (IntKind.i64.wrap (x_6 + x_1)) x_9), ((IntKind.u64.wrap ((IntKind.u64.wrap (x_2 * (IntKind.u64.wrap x_7))) + x_4)).fdiv (2 ^ min (32 : Int).toNat (IntKind.u64).bits)), x_a, (IntKind.i64.wrap (x_6 + 1)))))
    (some (.done (x_3, x_4, x_5)))

def integer_divide_L97 (n : Nat) (x_0 : (List Int)) (x_1 : Int) : ((List Int) × Int × Int) → Option (Out ((List Int) × Int × Int) ((List Int) × Int))
  | (x_2, x_3, x_4) =>
    cond (decide (x_4 < (x_0.length : Int)))
    ((idx x_0 x_4).bind fun x_5 =>
    (idx x_2 (IntKind.i64.wrap (x_4 + x_1))).bind fun x_6 =>
    (bits_Add32 n x_6 x_5 x_3).bind fun (x_7, x_8) =>
    (idx x_2 (IntKind.i64.wrap (x_4 + x_1))).bind fun x_9 =>
    some (.go ((upd x_2 (IntKind.i64.wrap (x_4 + x_1)) x_7), x_8, (IntKind.i64.wrap (x_4 + 1)))))
    (some (.done (x_2, x_3)))

def integer_divide_L81 (n : Nat) (x_0 : (List Int)) : ((List Int) × (List Int) × Int) → Option (Out ((List Int) × (List Int) × Int) ((List Int) × (List Int)))
  | (x_1, x_2, x_3) =>
    cond (decide (x_3 ≥ 0))
    (((idx x_1 (IntKind.i64.wrap (x_3 + (x_0.length : Int)))).bind fun x_4 =>
    (idx x_1 (IntKind.i64.wrap ((IntKind.i64.wrap (x_3 + (x_0.length : Int))) - 1))).bind fun x_5 =>
    (idx x_0 (IntKind.i64.wrap ((x_0.length : Int) - 1))).bind fun x_6 =>
    (need (decide ((IntKind.u64.wrap x_6) ≠ 0))).bind fun _ =>
    (idx x_0 (IntKind.i64.wrap ((x_0.length : Int) - 1))).bind fun x_7 =>
    (need (decide ((IntKind.u64.wrap x_7) ≠ 0))).bind fun _ =>
    (loopN (integer_divide_L91 x_0 x_1 x_3) n ((IntKind.u64.wrap ((ib .or .u64 (IntKind.u64.wrap ((IntKind.u64.wrap x_4) * 2 ^ min (32 : Int).toNat (IntKind.u64).bits)) (IntKind.u64.wrap x_5)).tdiv (IntKind.u64.wrap x_6))), ((ib .or .u64 (IntKind.u64.wrap ((IntKind.u64.wrap x_4) * 2 ^ min (32 : Int).toNat (IntKind.u64).bits)) (IntKind.u64.wrap x_5)).tmod (IntKind.u64.wrap x_7))) : Option Int).bind fun x_8 =>
    (loopN (integer_divide_L93 n x_0 x_3 x_8) n (x_1, 0, 0, 0) : Option ((List Int) × Int × Int)).bind fun (x_9, x_a, x_b) =>
    (idx x_9 (IntKind.i64.wrap (x_3 + (x_0.length : Int)))).bind fun x_c =>
    (bits_Sub32 n x_c (IntKind.u32.wrap x_a) x_b).bind fun (x_d, x_e) =>
    (idx x_9 (IntKind.i64.wrap (x_3 + (x_0.length : Int)))).bind fun x_f =>
    (cond (x_e != 0)
    ((loopN (integer_divide_L97 n x_0 x_3) n ((upd x_9 (IntKind.i64.wrap (x_3 + (x_0.length : Int))) x_d), 0, 0) : Option ((List Int) × Int)).bind fun (x_g, x_h) =>
    (idx x_g (IntKind.i64.wrap (x_3 + (x_0.length : Int)))).bind fun x_i =>
    (idx x_g (IntKind.i64.wrap (x_3 + (x_0.length : Int)))).bind fun x_j =>
    some (((upd x_g (IntKind.i64.wrap (x_3 + (x_0.length : Int))) (IntKind.u32.wrap (x_i + x_h))), (IntKind.u64.wrap (x_8 - 1)))))
    (some (((upd x_9 (IntKind.i64.wrap (x_3 + (x_0.length : Int))) x_d), x_8))) : Option ((List Int) × Int)).bind fun (x_k, x_l) =>
    (idx x_2 x_3).bind fun x_m =>
    some ((x_k, (upd x_2 x_3 (IntKind.u32.wrap x_l)))) : Option ((List Int) × (List Int))).bind fun (x_n, x_o) =>
    some (.go (x_n, x_o, (IntKind.i64.wrap (x_3 - 1)))))
    (some (.done (x_1, x_2)))

def integer_divide_L99 (x_0 : Int) (x_1 : (List Int)) (x_2 : (List Int)) : ((List Int) × Int) → Option (Out ((List Int) × Int) (List Int))
  | (x_3, x_4) =>
    cond (decide (x_4 < (x_2.length : Int)))
    ((idx x_1 (IntKind.i64.wrap (x_4 + 1))).bind fun x_5 =>
    (idx x_1 x_4).bind fun x_6 =>
    (need (decide (0 ≤ (IntKind.u64.wrap x_0)))).bind fun _ =>
    (idx x_3 x_4).bind fun x_7 =>
    some (.go ((upd x_3 x_4 (IntKind.u32.wrap ((ib .or .u64 (IntKind.u64.wrap ((IntKind.u64.wrap x_5) * 2 ^ min (32 : Int).toNat (IntKind.u64).bits)) (IntKind.u64.wrap x_6)).fdiv (2 ^ min (IntKind.u64.wrap x_0).toNat (IntKind.u64).bits)))), (IntKind.i64.wrap (x_4 + 1)))))
    (some (.done x_3))

def integer_divide (n : Nat) : (List Int) → (List Int) → Option ((List Int) × (List Int))
  | x996, x999 =>
    (integer_compare n x996 x999).bind fun x_0 =>
    cond (decide (x_0 < 0))
    ((slices_Cloneuint32_uint32_ n x996).bind fun x_1 =>
    some (([], x_1)))
    (cond ((x999.length : Int) == 1)
    ((idx x999 0).bind fun x_2 =>
    (integer_short n x996 x_2).bind fun (x_3, x_4) =>
    some ((x_3, [x_4])))
    ((idx x999 (IntKind.i64.wrap ((x999.length : Int) - 1))).bind fun x_5 =>
    (bits_LeadingZeros32 n x_5).bind fun x_6 =>
    (integer_shifted n x996 (IntKind.u64.wrap x_6)).bind fun x_7 =>
    (integer_shifted n x999 (IntKind.u64.wrap x_6)).bind fun x_8 =>
    (cut x_8 0 (x999.length : Int)).bind fun x_9 =>
    (mk (IntKind.i64.wrap ((x_7.length : Int) - (x_9.length : Int))) 0).bind fun x_a =>
    (loopN (integer_divide_L81 n x_9) n (x_7, x_a, (IntKind.i64.wrap ((IntKind.i64.wrap ((x_7.length : Int) - (x_9.length : Int))) - 1))) : Option ((List Int) × (List Int))).bind fun (x_b, x_c) =>
    (mk (x_9.length : Int) 0).bind fun x_d =>
    (loopN (integer_divide_L99 x_6 x_b x_d) n (x_d, 0) : Option (List Int)).bind fun x_e =>
    some ((x_c, x_e))))

def integer_plus_L1 (n : Nat) (x_0 : (List Int)) (x_1 : (List Int)) : ((List Int) × Int × Int) → Option (Out ((List Int) × Int × Int) ((List Int) × Int))
  | (x_2, x_3, x_4) =>
    cond (decide (x_4 < (x_0.length : Int)))
    ((idx x_0 x_4).bind fun x_5 =>
    (cond (decide (x_4 < (x_1.length : Int)))
    ((idx x_1 x_4).bind fun x_6 =>
    some (x_6))
    (some (0)) : Option Int).bind fun x_7 =>
    (bits_Add32 n x_5 x_7 x_3).bind fun (x_8, x_9) =>
    (app x_2 [x_8]).bind fun x_a =>
    some (.go (x_a, x_9, (IntKind.i64.wrap (x_4 + 1)))))
    (some (.done (x_2, x_3)))

def integer_plus (n : Nat) : (List Int) → (List Int) → Option (List Int)
  | x_0, x_1 =>
    (cond (decide ((x_0.length : Int) < (x_1.length : Int)))
    (some ((x_1, x_0)))
    (some ((x_0, x_1))) : Option ((List Int) × (List Int))).bind fun (x_2, x_3) =>
    (mkc 0 (IntKind.i64.wrap ((x_2.length : Int) + 1)) 0).bind fun x_4 =>
    (loopN (integer_plus_L1 n x_2 x_3) n (x_4, 0, 0) : Option ((List Int) × Int)).bind fun (x_5, x_6) =>
    (app x_5 [x_6]).bind fun x_7 =>
    some (x_7)

def integer_minus_L1 (n : Nat) (x_0 : (List Int)) (x_1 : (List Int)) : ((List Int) × Int × Int) → Option (Out ((List Int) × Int × Int) (List Int))
  | (x_2, x_3, x_4) =>
    cond (decide (x_4 < (x_0.length : Int)))
    ((idx x_0 x_4).bind fun x_5 =>
    (cond (decide (x_4 < (x_1.length : Int)))
    ((idx x_1 x_4).bind fun x_6 =>
    some (x_6))
    (some (0)) : Option Int).bind fun x_7 =>
    (bits_Sub32 n x_5 x_7 x_3).bind fun (x_8, x_9) =>
    (app x_2 [x_8]).bind fun x_a =>
    some (.go (x_a, x_9, (IntKind.i64.wrap (x_4 + 1)))))
    (some (.done x_2))

def integer_minus (n : Nat) : (List Int) → (List Int) → Option (List Int)
  | x_0, x_1 =>
    (mkc 0 (x_0.length : Int) 0).bind fun x_2 =>
    (loopN (integer_minus_L1 n x_0 x_1) n (x_2, 0, 0) : Option (List Int)).bind fun x_3 =>
    some (x_3)

def integer_Add (n : Nat) : Int_2 → Int_2 → Option Int_2
  | x_0, x_1 =>
    (integer_trim n x_0.Mag).bind fun x_2 =>
    (integer_trim n x_1.Mag).bind fun x_3 =>
    cond (x_0.Neg == x_1.Neg)
    ((integer_plus n x_2 x_3).bind fun x_4 =>
    (integer_made n x_0.Neg x_4).bind fun x_5 =>
    some ((Int_2.mk x_5.Neg x_5.Mag)))
    ((integer_compare n x_2 x_3).bind fun x_6 =>
    cond (decide (x_6 ≥ 0))
    ((integer_minus n x_2 x_3).bind fun x_7 =>
    (integer_made n x_0.Neg x_7).bind fun x_8 =>
    some ((Int_2.mk x_8.Neg x_8.Mag)))
    ((integer_minus n x_3 x_2).bind fun x_9 =>
    (integer_made n x_1.Neg x_9).bind fun x_a =>
    some ((Int_2.mk x_a.Neg x_a.Mag))))

def integer_DivMod (n : Nat) : Int_2 → Int_2 → Option (Int_2 × Int_2 × Int)
  | x_0, x_1 =>
    (integer_trim n x_0.Mag).bind fun x_2 =>
    (integer_trim n x_1.Mag).bind fun x_3 =>
    cond ((x_3.length : Int) == 0)
    (some (((Int_2.mk false []), (Int_2.mk false []), 10)))
    ((integer_divide n x_2 x_3).bind fun (x_4, x_5) =>
    ((integer_made n (!(x_0.Neg == x_1.Neg)) x_4).bind fun x_6 =>
    (integer_made n x_0.Neg x_5).bind fun x_7 =>
    some ((x_6.Neg, x_6.Mag, x_7.Neg, x_7.Mag)) : Option (Bool × (List Int) × Bool × (List Int))).bind fun (x_8, x_9, x_a, x_b) =>
    (cond x_a
    ((integer_Add n (Int_2.mk x_a x_b) (Int_2.mk false x_3)).bind fun x_c =>
    (integer_Add n (Int_2.mk x_8 x_9) (Int_2.mk (!x_1.Neg) [1])).bind fun x_d =>
    some ((x_d.Neg, x_d.Mag, x_c.Neg, x_c.Mag)))
    (some ((x_8, x_9, x_a, x_b))) : Option (Bool × (List Int) × Bool × (List Int))).bind fun (x_e, x_f, x_g, x_h) =>
    some (((Int_2.mk x_e x_f), (Int_2.mk x_g x_h), 0)))

def integer_Gcd_L1 (n : Nat) : (Bool × (List Int) × Bool × (List Int)) → Option (Out (Bool × (List Int) × Bool × (List Int)) (Bool × (List Int)))
  | (x_0, x_1, x_2, x_3) =>
    cond (decide ((x_3.length : Int) > 0))
    ((integer_DivMod n (Int_2.mk x_0 x_1) (Int_2.mk x_2 x_3)).bind fun (x_4, x_5, x_6) =>
    some (.go (x_2, x_3, x_5.Neg, x_5.Mag)))
    (some (.done (x_0, x_1)))

def integer_Gcd (n : Nat) : Int_2 → Int_2 → Option Int_2
  | x_0, x_1 =>
    ((integer_Abs n (Int_2.mk x_0.Neg x_0.Mag)).bind fun x_2 =>
    (integer_Abs n (Int_2.mk x_1.Neg x_1.Mag)).bind fun x_3 =>
    some ((x_2.Neg, x_2.Mag, x_3.Neg, x_3.Mag)) : Option (Bool × (List Int) × Bool × (List Int))).bind fun (x_4, x_5, x_6, x_7) =>
    (loopN (integer_Gcd_L1 n) n (x_4, x_5, x_6, x_7) : Option (Bool × (List Int))).bind fun (x_8, x_9) =>
    some ((Int_2.mk x_8 x_9))

def rational_New (n : Nat) : Int_2 → Int_2 → Option Rational
  | x_0, x_1 =>
    (integer_Sign n (Int_2.mk x_1.Neg x_1.Mag)).bind fun x_2 =>
    cond (x_2 == 0)
    ((integer_Of n 0).bind fun x_3 =>
    (integer_Of n 1).bind fun x_4 =>
    some ((Rational.mk (Int_2.mk x_3.Neg x_3.Mag) (Int_2.mk x_4.Neg x_4.Mag))))
    (((integer_Sign n (Int_2.mk x_1.Neg x_1.Mag)).bind fun x_5 =>
    cond (decide (x_5 < 0))
    ((integer_Neg n (Int_2.mk x_0.Neg x_0.Mag)).bind fun x_6 =>
    (integer_Neg n (Int_2.mk x_1.Neg x_1.Mag)).bind fun x_7 =>
    some ((x_6.Neg, x_6.Mag, x_7.Neg, x_7.Mag)))
    (some ((x_0.Neg, x_0.Mag, x_1.Neg, x_1.Mag))) : Option (Bool × (List Int) × Bool × (List Int))).bind fun (x_8, x_9, x_a, x_b) =>
    (integer_Gcd n (Int_2.mk x_8 x_9) (Int_2.mk x_a x_b)).bind fun x_c =>
    (integer_DivMod n (Int_2.mk x_8 x_9) (Int_2.mk x_c.Neg x_c.Mag)).bind fun (x_d, x_e, x_f) =>
    (integer_DivMod n (Int_2.mk x_a x_b) (Int_2.mk x_c.Neg x_c.Mag)).bind fun (x_g, x_h, x_i) =>
    some ((Rational.mk (Int_2.mk x_d.Neg x_d.Mag) (Int_2.mk x_g.Neg x_g.Mag))))

def rational_Of (n : Nat) : Int → Int → Option Rational
  | x_0, x_1 =>
    (integer_Of n x_0).bind fun x_2 =>
    (integer_Of n x_1).bind fun x_3 =>
    (rational_New n x_2 x_3).bind fun x_4 =>
    some ((Rational.mk (Int_2.mk x_4.Num.Neg x_4.Num.Mag) (Int_2.mk x_4.Den.Neg x_4.Den.Mag)))

def rational_Norm (n : Nat) : Rational → Option Rational
  | x_0 =>
    (rational_New n (Int_2.mk x_0.Num.Neg x_0.Num.Mag) (Int_2.mk x_0.Den.Neg x_0.Den.Mag)).bind fun x_1 =>
    some ((Rational.mk (Int_2.mk x_1.Num.Neg x_1.Num.Mag) (Int_2.mk x_1.Den.Neg x_1.Den.Mag)))

def integer_Cmp (n : Nat) : Int_2 → Int_2 → Option Int
  | x_0, x_1 =>
    (integer_Sign n (Int_2.mk x_0.Neg x_0.Mag)).bind fun x_2 =>
    (integer_Sign n (Int_2.mk x_1.Neg x_1.Mag)).bind fun x_3 =>
    cond (decide (x_2 < x_3))
    (some ((-1)))
    (cond (decide (x_2 > x_3))
    (some (1))
    ((integer_trim n x_0.Mag).bind fun x_4 =>
    (integer_trim n x_1.Mag).bind fun x_5 =>
    (integer_compare n x_4 x_5).bind fun x_6 =>
    some ((IntKind.i64.wrap (x_2 * x_6)))))

def rational_one (n : Nat) : Int_2 → Option Bool
  | x_0 =>
    (integer_Of n 1).bind fun x_1 =>
    (integer_Cmp n (Int_2.mk x_0.Neg x_0.Mag) x_1).bind fun x_2 =>
    some ((x_2 == 0))

def stringslite_HasPrefix (n : Nat) : ByteArray → ByteArray → Option Bool
  | x_0, x_1 =>
    (cond (decide ((x_0.size : Int) ≥ (x_1.size : Int)))
    ((scut x_0 0 (x_1.size : Int)).bind fun x_2 =>
    some ((x_2.toList == x_1.toList)))
    (some (false)) : Option Bool).bind fun x_3 =>
    some (x_3)

def slices_Reversestring_string__L0 : ((List ByteArray) × Int × Int) → Option (Out ((List ByteArray) × Int × Int) (List ByteArray))
  | (x_0, x_1, x_2) =>
    cond (decide (x_1 < x_2))
    (((idx x_0 x_2).bind fun x_3 =>
    (idx x_0 x_1).bind fun x_4 =>
    (idx x_0 x_1).bind fun x_5 =>
    (idx (upd x_0 x_1 x_3) x_2).bind fun x_6 =>
    some ((upd (upd x_0 x_1 x_3) x_2 x_4)) : Option (List ByteArray)).bind fun x_7 =>
    some (.go (x_7, (IntKind.i64.wrap (x_1 + 1)), (IntKind.i64.wrap (x_2 - 1)))))
    (some (.done x_0))

def slices_Reversestring_string_ (n : Nat) : (List ByteArray) → Option (List ByteArray)
  | x_0 =>
    loopN (slices_Reversestring_string__L0) n (x_0, 0, (IntKind.i64.wrap ((x_0.length : Int) - 1)))

def integer_Text_L1 (n : Nat) : ((List Int) × (List ByteArray)) → Option (Out ((List Int) × (List ByteArray)) (List ByteArray))
  | (x_0, x_1) =>
    cond (decide ((x_0.length : Int) > 0))
    ((integer_short n x_0 1000000000).bind fun (x_2, x_3) =>
    (integer_trim n x_2).bind fun x_4 =>
    (strconv_FormatUint n (IntKind.u64.wrap x_3) 10).bind fun x_5 =>
    (cond (decide ((x_4.length : Int) > 0))
    ((strings_Repeat n (ByteArray.mk #[48]) (IntKind.i64.wrap (9 - (x_5.size : Int)))).bind fun x_6 =>
    (need (decide (x_6.size + x_5.size ≤ 9223372036854775807))).bind fun _ =>
    some ((x_6 ++ x_5)))
    (some (x_5)) : Option ByteArray).bind fun x_7 =>
    (app x_1 [x_7]).bind fun x_8 =>
    some (.go (x_4, x_8)))
    (some (.done x_1))

def integer_Text (n : Nat) : Int_2 → Option ByteArray
  | x_0 =>
    (integer_trim n x_0.Mag).bind fun x_1 =>
    (slices_Cloneuint32_uint32_ n x_1).bind fun x_2 =>
    cond ((x_2.length : Int) == 0)
    (some ((ByteArray.mk #[48])))
    ((loopN (integer_Text_L1 n) n (x_2, []) : Option (List ByteArray)).bind fun x_3 =>
    (cond x_0.Neg
    ((app x_3 [(ByteArray.mk #[45])]).bind fun x_4 =>
    some (x_4))
    (some (x_3)) : Option (List ByteArray)).bind fun x_5 =>
    (slices_Reversestring_string_ n x_5).bind fun x_6 =>
    (strings_Join n x_6 (ByteArray.mk #[])).bind fun x_7 =>
    some (x_7))

def rational_Text (n : Nat) : Rational → Option ByteArray
  | x_0 =>
    (rational_Norm n (Rational.mk (Int_2.mk x_0.Num.Neg x_0.Num.Mag) (Int_2.mk x_0.Den.Neg x_0.Den.Mag))).bind fun x_1 =>
    (rational_one n (Int_2.mk x_1.Den.Neg x_1.Den.Mag)).bind fun x_2 =>
    cond x_2
    ((integer_Text n (Int_2.mk x_1.Num.Neg x_1.Num.Mag)).bind fun x_3 =>
    some (x_3))
    ((integer_Text n (Int_2.mk x_1.Num.Neg x_1.Num.Mag)).bind fun x_4 =>
    (need (decide (x_4.size + (ByteArray.mk #[47]).size ≤ 9223372036854775807))).bind fun _ =>
    (integer_Text n (Int_2.mk x_1.Den.Neg x_1.Den.Mag)).bind fun x_5 =>
    (need (decide ((x_4 ++ (ByteArray.mk #[47])).size + x_5.size ≤ 9223372036854775807))).bind fun _ =>
    some (((x_4 ++ (ByteArray.mk #[47])) ++ x_5)))

def integer_times_L25 (x_0 : (List Int)) (x_1 : Int) (x_2 : Int) : ((List Int) × Int × Int) → Option (Out ((List Int) × Int × Int) ((List Int) × Int))
  | (x_3, x_4, x_5) =>
    cond (decide (x_5 < (x_0.length : Int)))
    ((idx x_0 x_5).bind fun x_6 =>
    (idx x_3 (IntKind.i64.wrap (x_1 + x_5))).bind fun x_7 =>
    (idx x_3 (IntKind.i64.wrap (x_1 + x_5))).bind fun x_8 =>
    some (.go ((upd x_3 (IntKind.i64.wrap (x_1 + x_5)) (IntKind.u32.wrap (IntKind.u64.wrap ((IntKind.u64.wrap ((IntKind.u64.wrap ((IntKind.u64.wrap x_2) * (IntKind.u64.wrap x_6))) + (IntKind.u64.wrap x_7))) + x_4)))), ((IntKind.u64.wrap ((IntKind.u64.wrap ((IntKind.u64.wrap ((IntKind.u64.wrap x_2) * (IntKind.u64.wrap x_6))) + (IntKind.u64.wrap x_7))) + x_4)).fdiv (2 ^ min (32 : Int).toNat (IntKind.u64).bits)), (IntKind.i64.wrap (x_5 + 1)))))
    (some (.done (x_3, x_4)))

def integer_times_L21 (n : Nat) (x_0 : (List Int)) (x_1 : (List Int)) : ((List Int) × Int) → Option (Out ((List Int) × Int) (List Int))
  | (x_2, x_3) =>
    cond (decide (x_3 < (x_0.length : Int)))
    (((idx x_0 x_3).bind fun x_4 =>
    (loopN (integer_times_L25 x_1 x_3 x_4) n (x_2, 0, 0) : Option ((List Int) × Int)).bind fun (x_5, x_6) =>
    (idx x_5 (IntKind.i64.wrap (x_3 + (x_1.length : Int)))).bind fun x_7 =>
    some ((upd x_5 (IntKind.i64.wrap (x_3 + (x_1.length : Int))) (IntKind.u32.wrap x_6))) : Option (List Int)).bind fun x_8 =>
    some (.go (x_8, (IntKind.i64.wrap (x_3 + 1)))))
    (some (.done x_2))

def integer_times (n : Nat) : (List Int) → (List Int) → Option (List Int)
  | x_0, x_1 =>
    (mk (IntKind.i64.wrap ((x_0.length : Int) + (x_1.length : Int))) 0).bind fun x_2 =>
    (loopN (integer_times_L21 n x_0 x_1) n (x_2, 0) : Option (List Int)).bind fun x_3 =>
    some (x_3)

def integer_Mul (n : Nat) : Int_2 → Int_2 → Option Int_2
  | x_0, x_1 =>
    (integer_trim n x_0.Mag).bind fun x_2 =>
    (integer_trim n x_1.Mag).bind fun x_3 =>
    (integer_times n x_2 x_3).bind fun x_4 =>
    (integer_made n (!(x_0.Neg == x_1.Neg)) x_4).bind fun x_5 =>
    some ((Int_2.mk x_5.Neg x_5.Mag))

def rational_Add (n : Nat) : Rational → Rational → Option Rational
  | x_0, x_1 =>
    (rational_Norm n (Rational.mk (Int_2.mk x_0.Num.Neg x_0.Num.Mag) (Int_2.mk x_0.Den.Neg x_0.Den.Mag))).bind fun x_2 =>
    (rational_Norm n (Rational.mk (Int_2.mk x_1.Num.Neg x_1.Num.Mag) (Int_2.mk x_1.Den.Neg x_1.Den.Mag))).bind fun x_3 =>
    (integer_Mul n (Int_2.mk x_2.Num.Neg x_2.Num.Mag) (Int_2.mk x_3.Den.Neg x_3.Den.Mag)).bind fun x_4 =>
    (integer_Mul n (Int_2.mk x_3.Num.Neg x_3.Num.Mag) (Int_2.mk x_2.Den.Neg x_2.Den.Mag)).bind fun x_5 =>
    (integer_Add n x_4 x_5).bind fun x_6 =>
    (integer_Mul n (Int_2.mk x_2.Den.Neg x_2.Den.Mag) (Int_2.mk x_3.Den.Neg x_3.Den.Mag)).bind fun x_7 =>
    (rational_New n x_6 x_7).bind fun x_8 =>
    some ((Rational.mk (Int_2.mk x_8.Num.Neg x_8.Num.Mag) (Int_2.mk x_8.Den.Neg x_8.Den.Mag)))

def law02_awake (n : Nat) : Option Bool :=
    ((rational_Of n 6 (-4)).bind fun x_0 =>
    (rational_Text n x_0).bind fun x_1 =>
    cond (x_1.toList == (ByteArray.mk #[45, 51, 47, 50]).toList)
    ((rational_Of n 1 2).bind fun x_2 =>
    (rational_Of n 1 3).bind fun x_3 =>
    (rational_Add n x_2 x_3).bind fun x_4 =>
    (rational_Text n x_4).bind fun x_5 =>
    some ((x_5.toList == (ByteArray.mk #[53, 47, 54]).toList)))
    (some (false)) : Option Bool).bind fun x_6 =>
    some (x_6)

def ref02_Few_L1 (x_0 : (List Rational)) : (Int × Int) → Option (Out (Int × Int) Int)
  | (x_1, x_2) =>
    (cond (decide (x_2 < (x_0.length : Int)))
    (some ((decide (x_2 < 50))))
    (some (false)) : Option Bool).bind fun x_3 =>
    cond x_3
    ((idx x_0 x_2).bind fun x_4 =>
    (idx x_0 x_2).bind fun x_5 =>
    some (.go ((IntKind.i64.wrap (x_1 + (IntKind.i64.wrap ((if 100 < (x_4.Num.Mag.length : Int) then 100 else (x_4.Num.Mag.length : Int)) + (if 100 < (x_5.Den.Mag.length : Int) then 100 else (x_5.Den.Mag.length : Int)))))), (IntKind.i64.wrap (x_2 + 1)))))
    (some (.done x_1))

def ref02_Few (n : Nat) : (List Rational) → Option Bool
  | x_0 =>
    (loopN (ref02_Few_L1 x_0) n (0, 0) : Option Int).bind fun x_1 =>
    (cond (decide ((x_0.length : Int) ≤ 12))
    (some ((decide (x_1 ≤ 60))))
    (some (false)) : Option Bool).bind fun x_2 =>
    some (x_2)

def law02_few (n : Nat) : (List Rational) → Option Bool
  | x_0 =>
    (ref02_Few n x_0).bind fun x_1 =>
    some (x_1)

def ref01_trim_L1 : (List Int) → Option (Out (List Int) (List Int))
  | x_0 =>
    (cond (decide ((x_0.length : Int) > 0))
    ((idx x_0 (IntKind.i64.wrap ((x_0.length : Int) - 1))).bind fun x_1 =>
    some ((x_1 == 0)))
    (some (false)) : Option Bool).bind fun x_2 =>
    cond x_2
    ((cut x_0 0 (IntKind.i64.wrap ((x_0.length : Int) - 1))).bind fun x_3 =>
    some (.go x_3))
    (some (.done x_0))

def ref01_trim (n : Nat) : (List Int) → Option (List Int)
  | x_0 =>
    (loopN (ref01_trim_L1) n x_0 : Option (List Int)).bind fun x_1 =>
    (app ([] : List Int) x_1).bind fun x_2 =>
    some (x_2)

def ref01_Sign (n : Nat) : Int_2 → Option Int
  | x_0 =>
    (ref01_trim n x_0.Mag).bind fun x_1 =>
    cond ((x_1.length : Int) == 0)
    (some (0))
    (cond x_0.Neg
    (some ((-1)))
    (some (1)))

def ref01_Norm (n : Nat) : Int_2 → Option Int_2
  | x_0 =>
    (ref01_trim n x_0.Mag).bind fun x_1 =>
    (cond x_0.Neg
    (some (((decide ((x_1.length : Int) > 0)), x_1)))
    (some ((false, x_1))) : Option (Bool × (List Int))).bind fun (x_2, x_3) =>
    some ((Int_2.mk x_2 x_3))

def ref01_Of (n : Nat) : Int → Option Int_2
  | x_0 =>
    (cond (decide (x_0 < 0))
    (some ((IntKind.u64.wrap (0 - (IntKind.u64.wrap x_0)))))
    (some ((IntKind.u64.wrap x_0))) : Option Int).bind fun x_1 =>
    (ref01_Norm n (Int_2.mk (decide (x_0 < 0)) [(IntKind.u32.wrap x_1), (IntKind.u32.wrap (x_1.fdiv (2 ^ min (32 : Int).toNat (IntKind.u64).bits)))])).bind fun x_2 =>
    some ((Int_2.mk x_2.Neg x_2.Mag))

def ref02_One (n : Nat) : Option Int_2 :=
    (ref01_Of n 1).bind fun x_0 =>
    some ((Int_2.mk x_0.Neg x_0.Mag))

def ref01_Neg (n : Nat) : Int_2 → Option Int_2
  | x_0 =>
    (ref01_Norm n (Int_2.mk (!x_0.Neg) x_0.Mag)).bind fun x_1 =>
    some ((Int_2.mk x_1.Neg x_1.Mag))

def ref01_Abs (n : Nat) : Int_2 → Option Int_2
  | x_0 =>
    (ref01_Norm n (Int_2.mk false x_0.Mag)).bind fun x_1 =>
    some ((Int_2.mk x_1.Neg x_1.Mag))

def ref01_half_L1 (x_0 : (List Int)) : ((List Int) × Int) → Option (Out ((List Int) × Int) (List Int))
  | (x_1, x_2) =>
    cond (decide (x_2 < (x_1.length : Int)))
    (((idx x_1 x_2).bind fun x_3 =>
    (idx x_1 x_2).bind fun x_4 =>
    cond (decide ((IntKind.i64.wrap (x_2 + 1)) < (x_0.length : Int)))
    ((idx (upd x_1 x_2 (x_3.fdiv (2 ^ min (1 : Int).toNat (IntKind.u32).bits))) x_2).bind fun x_5 =>
    (idx x_0 (IntKind.i64.wrap (x_2 + 1))).bind fun x_6 =>
    (idx (upd x_1 x_2 (x_3.fdiv (2 ^ min (1 : Int).toNat (IntKind.u32).bits))) x_2).bind fun x_7 =>
    some ((upd (upd x_1 x_2 (x_3.fdiv (2 ^ min (1 : Int).toNat (IntKind.u32).bits))) x_2 (IntKind.u32.wrap (x_5 + (IntKind.u32.wrap ((x_6.tmod 2) * 2 ^ min (31 : Int).toNat (IntKind.u32).bits)))))))
    (some ((upd x_1 x_2 (x_3.fdiv (2 ^ min (1 : Int).toNat (IntKind.u32).bits))))) : Option (List Int)).bind fun x_8 =>
    some (.go (x_8, (IntKind.i64.wrap (x_2 + 1)))))
    (some (.done x_1))

def ref01_half (n : Nat) : (List Int) → Option (List Int)
  | x_0 =>
    (app ([] : List Int) x_0).bind fun x_1 =>
    (loopN (ref01_half_L1 x_0) n (x_1, 0) : Option (List Int)).bind fun x_2 =>
    (ref01_trim n x_2).bind fun x_3 =>
    some (x_3)

def ref01_cmp_L1 (x_0 : (List Int)) (x_1 : (List Int)) : Int → Option (Out Int (Out Unit Int))
  | x_2 =>
    cond (decide (x_2 ≥ 0))
    ((idx x_0 x_2).bind fun x_3 =>
    (idx x_1 x_2).bind fun x_4 =>
    cond (decide (x_3 < x_4))
    (some (.done (.done (-1))))
    ((idx x_0 x_2).bind fun x_5 =>
    (idx x_1 x_2).bind fun x_6 =>
    cond (decide (x_5 > x_6))
    (some (.done (.done 1)))
    (some (.go (IntKind.i64.wrap (x_2 - 1))))))
    (some (.done (.go ())))

def ref01_cmp (n : Nat) : (List Int) → (List Int) → Option Int
  | x_0, x_1 =>
    cond ((x_0.length : Int) != (x_1.length : Int))
    (cond (decide ((x_0.length : Int) < (x_1.length : Int)))
    (some ((-1)))
    (some (1)))
    ((loopN (ref01_cmp_L1 x_0 x_1) n (IntKind.i64.wrap ((x_0.length : Int) - 1)) : Option (Out Unit Int)).bind fun y_2 => (match y_2 with
    | .go _ =>
    some (0)
    | .done r => some r))

def ref01_sub_L1 (x_0 : (List Int)) (x_1 : (List Int)) : ((List Int) × Int × Int) → Option (Out ((List Int) × Int × Int) (List Int))
  | (x_2, x_3, x_4) =>
    cond (decide (x_4 < (x_0.length : Int)))
    ((idx x_0 x_4).bind fun x_5 =>
    (cond (decide (x_4 < (x_1.length : Int)))
    ((idx x_1 x_4).bind fun x_6 =>
    some ((IntKind.i64.wrap ((IntKind.i64.wrap ((IntKind.i64.wrap x_5) - x_3)) - (IntKind.i64.wrap x_6)))))
    (some ((IntKind.i64.wrap ((IntKind.i64.wrap x_5) - x_3)))) : Option Int).bind fun x_7 =>
    (cond (decide (x_7 < 0))
    (some ((1, (IntKind.i64.wrap (x_7 + 4294967296)))))
    (some ((0, x_7))) : Option (Int × Int)).bind fun (x_8, x_9) =>
    (app x_2 [(IntKind.u32.wrap x_9)]).bind fun x_a =>
    some (.go (x_a, x_8, (IntKind.i64.wrap (x_4 + 1)))))
    (some (.done x_2))

def ref01_sub (n : Nat) : (List Int) → (List Int) → Option (List Int)
  | x_0, x_1 =>
    (loopN (ref01_sub_L1 x_0 x_1) n ([], 0, 0) : Option (List Int)).bind fun x_2 =>
    (ref01_trim n x_2).bind fun x_3 =>
    some (x_3)

def ref01_add_L1 (x_0 : (List Int)) (x_1 : (List Int)) : ((List Int) × Int × Int) → Option (Out ((List Int) × Int × Int) (List Int))
  | (x_2, x_3, x_4) =>
    (cond (decide (x_4 < (x_0.length : Int)))
    (some (true))
    (cond (decide (x_4 < (x_1.length : Int)))
    (some (true))
    (some ((decide (x_3 > 0))))) : Option Bool).bind fun x_5 =>
    cond x_5
    ((cond (decide (x_4 < (x_0.length : Int)))
    ((idx x_0 x_4).bind fun x_6 =>
    some ((IntKind.u64.wrap (x_3 + (IntKind.u64.wrap x_6)))))
    (some (x_3)) : Option Int).bind fun x_7 =>
    (cond (decide (x_4 < (x_1.length : Int)))
    ((idx x_1 x_4).bind fun x_8 =>
    some ((IntKind.u64.wrap (x_7 + (IntKind.u64.wrap x_8)))))
    (some (x_7)) : Option Int).bind fun x_9 =>
    (app x_2 [(IntKind.u32.wrap x_9)]).bind fun x_a =>
    some (.go (x_a, (x_9.fdiv (2 ^ min (32 : Int).toNat (IntKind.u64).bits)), (IntKind.i64.wrap (x_4 + 1)))))
    (some (.done x_2))

def ref01_add (n : Nat) : (List Int) → (List Int) → Option (List Int)
  | x_0, x_1 =>
    (loopN (ref01_add_L1 x_0 x_1) n ([], 0, 0) : Option (List Int)).bind fun x_2 =>
    (ref01_trim n x_2).bind fun x_3 =>
    some (x_3)

def ref01_Gcd_L1 (n : Nat) : ((List Int) × (List Int) × Int) → Option (Out ((List Int) × (List Int) × Int) ((List Int) × (List Int) × Int))
  | (x_0, x_1, x_2) =>
    ((idx x_0 0).bind fun x_3 =>
    cond ((x_3.tmod 2) == 0)
    ((idx x_1 0).bind fun x_4 =>
    some (((x_4.tmod 2) == 0)))
    (some (false)) : Option Bool).bind fun x_5 =>
    cond x_5
    ((ref01_half n x_0).bind fun x_6 =>
    (ref01_half n x_1).bind fun x_7 =>
    some (.go (x_6, x_7, (IntKind.i64.wrap (x_2 + 1)))))
    (some (.done (x_0, x_1, x_2)))

def ref01_Gcd_L3 (n : Nat) : ((List Int) × (List Int)) → Option (Out ((List Int) × (List Int)) (List Int))
  | (x_0, x_1) =>
    (ref01_cmp n x_0 x_1).bind fun x_2 =>
    cond (x_2 != 0)
    ((idx x_0 0).bind fun x_3 =>
    cond ((x_3.tmod 2) == 0)
    ((ref01_half n x_0).bind fun x_4 =>
    some (.go (x_4, x_1)))
    ((idx x_1 0).bind fun x_5 =>
    cond ((x_5.tmod 2) == 0)
    ((ref01_half n x_1).bind fun x_6 =>
    some (.go (x_0, x_6)))
    ((ref01_cmp n x_0 x_1).bind fun x_7 =>
    cond (decide (x_7 > 0))
    ((ref01_sub n x_0 x_1).bind fun x_8 =>
    some (.go (x_8, x_1)))
    ((ref01_sub n x_1 x_0).bind fun x_9 =>
    some (.go (x_0, x_9))))))
    (some (.done x_0))

def ref01_Gcd_L5 (n : Nat) (x_0 : Int) : ((List Int) × Int) → Option (Out ((List Int) × Int) (List Int))
  | (x_1, x_2) =>
    cond (decide (x_2 < x_0))
    ((ref01_add n x_1 x_1).bind fun x_3 =>
    some (.go (x_3, (IntKind.i64.wrap (x_2 + 1)))))
    (some (.done x_1))

def ref01_Gcd (n : Nat) : Int_2 → Int_2 → Option Int_2
  | x_0, x_1 =>
    (ref01_trim n x_0.Mag).bind fun x_2 =>
    (ref01_trim n x_1.Mag).bind fun x_3 =>
    cond ((x_2.length : Int) == 0)
    ((ref01_Abs n (Int_2.mk x_1.Neg x_1.Mag)).bind fun x_4 =>
    some ((Int_2.mk x_4.Neg x_4.Mag)))
    (cond ((x_3.length : Int) == 0)
    ((ref01_Abs n (Int_2.mk x_0.Neg x_0.Mag)).bind fun x_5 =>
    some ((Int_2.mk x_5.Neg x_5.Mag)))
    ((loopN (ref01_Gcd_L1 n) n (x_2, x_3, 0) : Option ((List Int) × (List Int) × Int)).bind fun (x_6, x_7, x_8) =>
    (loopN (ref01_Gcd_L3 n) n (x_6, x_7) : Option (List Int)).bind fun x_9 =>
    (loopN (ref01_Gcd_L5 n x_8) n (x_9, 0) : Option (List Int)).bind fun x_a =>
    some ((Int_2.mk false x_a))))

def ref01_bit (n : Nat) : (List Int) → Int → Option Int
  | x_0, x_1 =>
    cond (decide ((IntKind.i64.wrap (x_1.tdiv 32)) ≥ (x_0.length : Int)))
    (some (0))
    ((idx x_0 (IntKind.i64.wrap (x_1.tdiv 32))).bind fun x_2 =>
    (need (decide (0 ≤ (IntKind.u64.wrap (x_1.tmod 32))))).bind fun _ =>
    some (((x_2.fdiv (2 ^ min (IntKind.u64.wrap (x_1.tmod 32)).toNat (IntKind.u32).bits)).tmod 2)))

def ref01_divide_L1 (n : Nat) (x_0 : (List Int)) (x_1 : (List Int)) : ((List Int) × (List Int) × Int) → Option (Out ((List Int) × (List Int) × Int) ((List Int) × (List Int)))
  | (x_2, x_3, x_4) =>
    cond (decide (x_4 ≥ 0))
    (((ref01_add n x_3 x_3).bind fun x_5 =>
    ((ref01_bit n x_0 x_4).bind fun x_6 =>
    cond (x_6 == 1)
    ((ref01_add n x_5 [1]).bind fun x_7 =>
    some (x_7))
    (some (x_5)) : Option (List Int)).bind fun x_8 =>
    (ref01_cmp n x_8 x_1).bind fun x_9 =>
    cond (decide (x_9 ≥ 0))
    ((ref01_sub n x_8 x_1).bind fun x_a =>
    (idx x_2 (IntKind.i64.wrap (x_4.tdiv 32))).bind fun x_b =>
    (need (decide (0 ≤ (IntKind.u64.wrap (x_4.tmod 32))))).bind fun _ =>
    (idx x_2 (IntKind.i64.wrap (x_4.tdiv 32))).bind fun x_c =>
    some (((upd x_2 (IntKind.i64.wrap (x_4.tdiv 32)) (IntKind.u32.wrap (x_b + (IntKind.u32.wrap ((1 : Int) * 2 ^ min (IntKind.u64.wrap (x_4.tmod 32)).toNat (IntKind.u32).bits))))), x_a)))
    (some ((x_2, x_8))) : Option ((List Int) × (List Int))).bind fun (x_d, x_e) =>
    some (.go (x_d, x_e, (IntKind.i64.wrap (x_4 - 1)))))
    (some (.done (x_2, x_3)))

def ref01_divide (n : Nat) : (List Int) → (List Int) → Option ((List Int) × (List Int))
  | x_0, x_1 =>
    (mk (x_0.length : Int) 0).bind fun x_2 =>
    (loopN (ref01_divide_L1 n x_0 x_1) n (x_2, [], (IntKind.i64.wrap ((IntKind.i64.wrap (32 * (x_0.length : Int))) - 1))) : Option ((List Int) × (List Int))).bind fun (x_3, x_4) =>
    (ref01_trim n x_3).bind fun x_5 =>
    some ((x_5, x_4))

def ref01_Add (n : Nat) : Int_2 → Int_2 → Option Int_2
  | x_0, x_1 =>
    (ref01_Norm n (Int_2.mk x_0.Neg x_0.Mag)).bind fun x_2 =>
    (ref01_Norm n (Int_2.mk x_1.Neg x_1.Mag)).bind fun x_3 =>
    cond (x_2.Neg == x_3.Neg)
    ((ref01_add n x_2.Mag x_3.Mag).bind fun x_4 =>
    (ref01_Norm n (Int_2.mk x_2.Neg x_4)).bind fun x_5 =>
    some ((Int_2.mk x_5.Neg x_5.Mag)))
    ((ref01_cmp n x_2.Mag x_3.Mag).bind fun x_6 =>
    cond (decide (x_6 < 0))
    ((ref01_sub n x_3.Mag x_2.Mag).bind fun x_7 =>
    (ref01_Norm n (Int_2.mk x_3.Neg x_7)).bind fun x_8 =>
    some ((Int_2.mk x_8.Neg x_8.Mag)))
    ((ref01_sub n x_2.Mag x_3.Mag).bind fun x_9 =>
    (ref01_Norm n (Int_2.mk x_2.Neg x_9)).bind fun x_a =>
    some ((Int_2.mk x_a.Neg x_a.Mag))))

def ref01_Sub (n : Nat) : Int_2 → Int_2 → Option Int_2
  | x_0, x_1 =>
    (ref01_Neg n (Int_2.mk x_1.Neg x_1.Mag)).bind fun x_2 =>
    (ref01_Add n (Int_2.mk x_0.Neg x_0.Mag) x_2).bind fun x_3 =>
    some ((Int_2.mk x_3.Neg x_3.Mag))

def ref01_DivMod (n : Nat) : Int_2 → Int_2 → Option (Int_2 × Int_2 × Int)
  | x_0, x_1 =>
    (ref01_Sign n (Int_2.mk x_1.Neg x_1.Mag)).bind fun x_2 =>
    cond (x_2 == 0)
    (some (((Int_2.mk false []), (Int_2.mk false []), 10)))
    ((ref01_trim n x_0.Mag).bind fun x_3 =>
    (ref01_trim n x_1.Mag).bind fun x_4 =>
    (ref01_divide n x_3 x_4).bind fun (x_5, x_6) =>
    (ref01_Norm n (Int_2.mk (!(x_0.Neg == x_1.Neg)) x_5)).bind fun x_7 =>
    (ref01_Norm n (Int_2.mk x_0.Neg x_6)).bind fun x_8 =>
    (cond x_8.Neg
    ((ref01_Abs n (Int_2.mk x_1.Neg x_1.Mag)).bind fun x_9 =>
    (ref01_Add n (Int_2.mk x_8.Neg x_8.Mag) x_9).bind fun x_a =>
    cond x_1.Neg
    ((ref01_Of n 1).bind fun x_b =>
    (ref01_Add n (Int_2.mk x_7.Neg x_7.Mag) x_b).bind fun x_c =>
    some ((x_c.Neg, x_c.Mag, x_a.Neg, x_a.Mag)))
    ((ref01_Of n 1).bind fun x_d =>
    (ref01_Sub n (Int_2.mk x_7.Neg x_7.Mag) x_d).bind fun x_e =>
    some ((x_e.Neg, x_e.Mag, x_a.Neg, x_a.Mag))))
    (some ((x_7.Neg, x_7.Mag, x_8.Neg, x_8.Mag))) : Option (Bool × (List Int) × Bool × (List Int))).bind fun (x_f, x_g, x_h, x_i) =>
    some (((Int_2.mk x_f x_g), (Int_2.mk x_h x_i), 0)))

def ref02_part (n : Nat) : Int_2 → Int_2 → Option Int_2
  | x_0, x_1 =>
    (ref01_DivMod n (Int_2.mk x_0.Neg x_0.Mag) (Int_2.mk x_1.Neg x_1.Mag)).bind fun (x_2, x_3, x_4) =>
    some ((Int_2.mk x_2.Neg x_2.Mag))

def ref02_New (n : Nat) : Int_2 → Int_2 → Option Rational
  | x_0, x_1 =>
    ((ref01_Sign n (Int_2.mk x_0.Neg x_0.Mag)).bind fun x_2 =>
    cond (x_2 == 0)
    (some (true))
    ((ref01_Sign n (Int_2.mk x_1.Neg x_1.Mag)).bind fun x_3 =>
    some ((x_3 == 0))) : Option Bool).bind fun x_4 =>
    cond x_4
    ((ref01_Of n 0).bind fun x_5 =>
    (ref02_One n ).bind fun x_6 =>
    some ((Rational.mk (Int_2.mk x_5.Neg x_5.Mag) (Int_2.mk x_6.Neg x_6.Mag))))
    (((ref01_Sign n (Int_2.mk x_1.Neg x_1.Mag)).bind fun x_7 =>
    cond (decide (x_7 < 0))
    ((ref01_Neg n (Int_2.mk x_0.Neg x_0.Mag)).bind fun x_8 =>
    (ref01_Neg n (Int_2.mk x_1.Neg x_1.Mag)).bind fun x_9 =>
    some ((x_8.Neg, x_8.Mag, x_9.Neg, x_9.Mag)))
    (some ((x_0.Neg, x_0.Mag, x_1.Neg, x_1.Mag))) : Option (Bool × (List Int) × Bool × (List Int))).bind fun (x_a, x_b, x_c, x_d) =>
    (ref01_Gcd n (Int_2.mk x_a x_b) (Int_2.mk x_c x_d)).bind fun x_e =>
    (ref02_part n (Int_2.mk x_a x_b) (Int_2.mk x_e.Neg x_e.Mag)).bind fun x_f =>
    (ref02_part n (Int_2.mk x_c x_d) (Int_2.mk x_e.Neg x_e.Mag)).bind fun x_g =>
    some ((Rational.mk (Int_2.mk x_f.Neg x_f.Mag) (Int_2.mk x_g.Neg x_g.Mag))))

def ref02_Norm (n : Nat) : Rational → Option Rational
  | x_0 =>
    (ref02_New n (Int_2.mk x_0.Num.Neg x_0.Num.Mag) (Int_2.mk x_0.Den.Neg x_0.Den.Mag)).bind fun x_1 =>
    some ((Rational.mk (Int_2.mk x_1.Num.Neg x_1.Num.Mag) (Int_2.mk x_1.Den.Neg x_1.Den.Mag)))

def ref02_Sign (n : Nat) : Rational → Option Int
  | x_0 =>
    (ref02_Norm n (Rational.mk (Int_2.mk x_0.Num.Neg x_0.Num.Mag) (Int_2.mk x_0.Den.Neg x_0.Den.Mag))).bind fun x_1 =>
    (ref01_Sign n (Int_2.mk x_1.Num.Neg x_1.Num.Mag)).bind fun x_2 =>
    some (x_2)

def ref01_Mul_L13 (x_0 : Int_2) (x_1 : Int_2) (x_2 : Int) : ((List Int) × Int × Int) → Option (Out ((List Int) × Int × Int) (List Int))
  | (x_3, x_4, x_5) =>
    (cond (decide (x_5 < (x_1.Mag.length : Int)))
    (some (true))
    (some ((decide (x_4 > 0)))) : Option Bool).bind fun x_6 =>
    cond x_6
    ((idx x_3 (IntKind.i64.wrap (x_2 + x_5))).bind fun x_7 =>
    (cond (decide (x_5 < (x_1.Mag.length : Int)))
    ((idx x_0.Mag x_2).bind fun x_8 =>
    (idx x_1.Mag x_5).bind fun x_9 =>
    some ((IntKind.u64.wrap ((IntKind.u64.wrap ((IntKind.u64.wrap x_7) + x_4)) + (IntKind.u64.wrap ((IntKind.u64.wrap x_8) * (IntKind.u64.wrap x_9)))))))
    (some ((IntKind.u64.wrap ((IntKind.u64.wrap x_7) + x_4)))) : Option Int).bind fun x_a =>
    (idx x_3 (IntKind.i64.wrap (x_2 + x_5))).bind fun x_b =>
    some (.go ((upd x_3 (IntKind.i64.wrap (x_2 + x_5)) (IntKind.u32.wrap x_a)), (x_a.fdiv (2 ^ min (32 : Int).toNat (IntKind.u64).bits)), (IntKind.i64.wrap (x_5 + 1)))))
    (some (.done x_3))

def ref01_Mul_L11 (n : Nat) (x_0 : Int_2) (x_1 : Int_2) : ((List Int) × Int) → Option (Out ((List Int) × Int) (List Int))
  | (x_2, x_3) =>
    cond (decide (x_3 < (x_0.Mag.length : Int)))
    ((loopN (ref01_Mul_L13 x_0 x_1 x_3) n (x_2, 0, 0) : Option (List Int)).bind fun x_4 =>
    some (.go (x_4, (IntKind.i64.wrap (x_3 + 1)))))
    (some (.done x_2))

def ref01_Mul (n : Nat) : Int_2 → Int_2 → Option Int_2
  | x_0, x_1 =>
    (mk (IntKind.i64.wrap ((IntKind.i64.wrap ((x_0.Mag.length : Int) + (x_1.Mag.length : Int))) + 1)) 0).bind fun x_2 =>
    (loopN (ref01_Mul_L11 n x_0 x_1) n (x_2, 0) : Option (List Int)).bind fun x_3 =>
    (ref01_Norm n (Int_2.mk (!(x_0.Neg == x_1.Neg)) x_3)).bind fun x_4 =>
    some ((Int_2.mk x_4.Neg x_4.Mag))

def ref02_Div (n : Nat) : Rational → Rational → Option (Rational × Int)
  | x_0, x_1 =>
    (ref02_Norm n (Rational.mk (Int_2.mk x_0.Num.Neg x_0.Num.Mag) (Int_2.mk x_0.Den.Neg x_0.Den.Mag))).bind fun x_2 =>
    (ref02_Norm n (Rational.mk (Int_2.mk x_1.Num.Neg x_1.Num.Mag) (Int_2.mk x_1.Den.Neg x_1.Den.Mag))).bind fun x_3 =>
    (ref02_Sign n (Rational.mk (Int_2.mk x_3.Num.Neg x_3.Num.Mag) (Int_2.mk x_3.Den.Neg x_3.Den.Mag))).bind fun x_4 =>
    cond (x_4 == 0)
    (some (((Rational.mk (Int_2.mk false []) (Int_2.mk false [])), 10)))
    ((ref01_Mul n (Int_2.mk x_2.Num.Neg x_2.Num.Mag) (Int_2.mk x_3.Den.Neg x_3.Den.Mag)).bind fun x_5 =>
    (ref01_Mul n (Int_2.mk x_2.Den.Neg x_2.Den.Mag) (Int_2.mk x_3.Num.Neg x_3.Num.Mag)).bind fun x_6 =>
    (ref02_New n x_5 x_6).bind fun x_7 =>
    some (((Rational.mk (Int_2.mk x_7.Num.Neg x_7.Num.Mag) (Int_2.mk x_7.Den.Neg x_7.Den.Mag)), 0)))

def ref01_Cmp (n : Nat) : Int_2 → Int_2 → Option Int
  | x_0, x_1 =>
    (ref01_Norm n (Int_2.mk x_0.Neg x_0.Mag)).bind fun x_2 =>
    (ref01_Norm n (Int_2.mk x_1.Neg x_1.Mag)).bind fun x_3 =>
    cond (!(x_2.Neg == x_3.Neg))
    (cond x_2.Neg
    (some ((-1)))
    (some (1)))
    (cond x_2.Neg
    ((ref01_cmp n x_3.Mag x_2.Mag).bind fun x_4 =>
    some (x_4))
    ((ref01_cmp n x_2.Mag x_3.Mag).bind fun x_5 =>
    some (x_5)))

def base_Int_L1 (x_0 : Int_2) (x_1 : Int_2) : Int → Option (Out Int (Out Unit Bool))
  | x_2 =>
    cond (decide (x_2 < (x_0.Mag.length : Int)))
    ((idx x_0.Mag x_2).bind fun x_3 =>
    (idx x_1.Mag x_2).bind fun x_4 =>
    cond (x_3 != x_4)
    (some (.done (.done false)))
    (some (.go (IntKind.i64.wrap (x_2 + 1)))))
    (some (.done (.go ())))

def base_Int (n : Nat) : Int_2 → Int_2 → Option Bool
  | x_0, x_1 =>
    (cond (!(x_0.Neg == x_1.Neg))
    (some (true))
    (some (((x_0.Mag.length : Int) != (x_1.Mag.length : Int)))) : Option Bool).bind fun x_2 =>
    cond x_2
    (some (false))
    ((loopN (base_Int_L1 x_0 x_1) n 0 : Option (Out Unit Bool)).bind fun y_3 => (match y_3 with
    | .go _ =>
    some (true)
    | .done r => some r))

def base_Rational (n : Nat) : Rational → Rational → Option Bool
  | x_0, x_1 =>
    ((base_Int n (Int_2.mk x_0.Num.Neg x_0.Num.Mag) (Int_2.mk x_1.Num.Neg x_1.Num.Mag)).bind fun x_2 =>
    cond x_2
    ((base_Int n (Int_2.mk x_0.Den.Neg x_0.Den.Mag) (Int_2.mk x_1.Den.Neg x_1.Den.Mag)).bind fun x_3 =>
    some (x_3))
    (some (false)) : Option Bool).bind fun x_4 =>
    some (x_4)

def rational_Cmp (n : Nat) : Rational → Rational → Option Int
  | x_0, x_1 =>
    (rational_Norm n (Rational.mk (Int_2.mk x_0.Num.Neg x_0.Num.Mag) (Int_2.mk x_0.Den.Neg x_0.Den.Mag))).bind fun x_2 =>
    (rational_Norm n (Rational.mk (Int_2.mk x_1.Num.Neg x_1.Num.Mag) (Int_2.mk x_1.Den.Neg x_1.Den.Mag))).bind fun x_3 =>
    (integer_Mul n (Int_2.mk x_2.Num.Neg x_2.Num.Mag) (Int_2.mk x_3.Den.Neg x_3.Den.Mag)).bind fun x_4 =>
    (integer_Mul n (Int_2.mk x_3.Num.Neg x_3.Num.Mag) (Int_2.mk x_2.Den.Neg x_2.Den.Mag)).bind fun x_5 =>
    (integer_Cmp n x_4 x_5).bind fun x_6 =>
    some (x_6)

def ref02_Neg (n : Nat) : Rational → Option Rational
  | x_0 =>
    (ref02_Norm n (Rational.mk (Int_2.mk x_0.Num.Neg x_0.Num.Mag) (Int_2.mk x_0.Den.Neg x_0.Den.Mag))).bind fun x_1 =>
    (ref01_Neg n (Int_2.mk x_1.Num.Neg x_1.Num.Mag)).bind fun x_2 =>
    (ref02_New n x_2 (Int_2.mk x_1.Den.Neg x_1.Den.Mag)).bind fun x_3 =>
    some ((Rational.mk (Int_2.mk x_3.Num.Neg x_3.Num.Mag) (Int_2.mk x_3.Den.Neg x_3.Den.Mag)))

def ref02_Add (n : Nat) : Rational → Rational → Option Rational
  | x_0, x_1 =>
    (ref02_Norm n (Rational.mk (Int_2.mk x_0.Num.Neg x_0.Num.Mag) (Int_2.mk x_0.Den.Neg x_0.Den.Mag))).bind fun x_2 =>
    (ref02_Norm n (Rational.mk (Int_2.mk x_1.Num.Neg x_1.Num.Mag) (Int_2.mk x_1.Den.Neg x_1.Den.Mag))).bind fun x_3 =>
    (ref01_Mul n (Int_2.mk x_2.Num.Neg x_2.Num.Mag) (Int_2.mk x_3.Den.Neg x_3.Den.Mag)).bind fun x_4 =>
    (ref01_Mul n (Int_2.mk x_3.Num.Neg x_3.Num.Mag) (Int_2.mk x_2.Den.Neg x_2.Den.Mag)).bind fun x_5 =>
    (ref01_Add n x_4 x_5).bind fun x_6 =>
    (ref01_Mul n (Int_2.mk x_2.Den.Neg x_2.Den.Mag) (Int_2.mk x_3.Den.Neg x_3.Den.Mag)).bind fun x_7 =>
    (ref02_New n x_6 x_7).bind fun x_8 =>
    some ((Rational.mk (Int_2.mk x_8.Num.Neg x_8.Num.Mag) (Int_2.mk x_8.Den.Neg x_8.Den.Mag)))

def ref02_Sub (n : Nat) : Rational → Rational → Option Rational
  | x_0, x_1 =>
    (ref02_Neg n (Rational.mk (Int_2.mk x_1.Num.Neg x_1.Num.Mag) (Int_2.mk x_1.Den.Neg x_1.Den.Mag))).bind fun x_2 =>
    (ref02_Add n (Rational.mk (Int_2.mk x_0.Num.Neg x_0.Num.Mag) (Int_2.mk x_0.Den.Neg x_0.Den.Mag)) x_2).bind fun x_3 =>
    some ((Rational.mk (Int_2.mk x_3.Num.Neg x_3.Num.Mag) (Int_2.mk x_3.Den.Neg x_3.Den.Mag)))

def ref02_Cmp (n : Nat) : Rational → Rational → Option Int
  | x_0, x_1 =>
    (ref02_Sub n (Rational.mk (Int_2.mk x_0.Num.Neg x_0.Num.Mag) (Int_2.mk x_0.Den.Neg x_0.Den.Mag)) (Rational.mk (Int_2.mk x_1.Num.Neg x_1.Num.Mag) (Int_2.mk x_1.Den.Neg x_1.Den.Mag))).bind fun x_2 =>
    (ref02_Sign n x_2).bind fun x_3 =>
    some (x_3)

def rational_Floor (n : Nat) : Rational → Option Int_2
  | x_0 =>
    (rational_Norm n (Rational.mk (Int_2.mk x_0.Num.Neg x_0.Num.Mag) (Int_2.mk x_0.Den.Neg x_0.Den.Mag))).bind fun x_1 =>
    (integer_DivMod n (Int_2.mk x_1.Num.Neg x_1.Num.Mag) (Int_2.mk x_1.Den.Neg x_1.Den.Mag)).bind fun (x_2, x_3, x_4) =>
    some ((Int_2.mk x_2.Neg x_2.Mag))

def ref02_Floor (n : Nat) : Rational → Option Int_2
  | x_0 =>
    (ref02_Norm n (Rational.mk (Int_2.mk x_0.Num.Neg x_0.Num.Mag) (Int_2.mk x_0.Den.Neg x_0.Den.Mag))).bind fun x_1 =>
    (ref02_part n (Int_2.mk x_1.Num.Neg x_1.Num.Mag) (Int_2.mk x_1.Den.Neg x_1.Den.Mag)).bind fun x_2 =>
    some ((Int_2.mk x_2.Neg x_2.Mag))

def rational_Neg (n : Nat) : Rational → Option Rational
  | x_0 =>
    (integer_Neg n (Int_2.mk x_0.Num.Neg x_0.Num.Mag)).bind fun x_1 =>
    (rational_New n x_1 (Int_2.mk x_0.Den.Neg x_0.Den.Mag)).bind fun x_2 =>
    some ((Rational.mk (Int_2.mk x_2.Num.Neg x_2.Num.Mag) (Int_2.mk x_2.Den.Neg x_2.Den.Mag)))

def integer_Norm (n : Nat) : Int_2 → Option Int_2
  | x_0 =>
    (integer_trim n x_0.Mag).bind fun x_1 =>
    (slices_Cloneuint32_uint32_ n x_1).bind fun x_2 =>
    (integer_made n x_0.Neg x_2).bind fun x_3 =>
    some ((Int_2.mk x_3.Neg x_3.Mag))

def rational_whole (n : Nat) : Int_2 → Option Rational
  | x_0 =>
    (integer_Norm n (Int_2.mk x_0.Neg x_0.Mag)).bind fun x_1 =>
    (integer_Of n 1).bind fun x_2 =>
    some ((Rational.mk (Int_2.mk x_1.Neg x_1.Mag) (Int_2.mk x_2.Neg x_2.Mag)))

def rational_Sub (n : Nat) : Rational → Rational → Option Rational
  | x_0, x_1 =>
    (rational_Neg n (Rational.mk (Int_2.mk x_1.Num.Neg x_1.Num.Mag) (Int_2.mk x_1.Den.Neg x_1.Den.Mag))).bind fun x_2 =>
    (rational_Add n (Rational.mk (Int_2.mk x_0.Num.Neg x_0.Num.Mag) (Int_2.mk x_0.Den.Neg x_0.Den.Mag)) x_2).bind fun x_3 =>
    some ((Rational.mk (Int_2.mk x_3.Num.Neg x_3.Num.Mag) (Int_2.mk x_3.Den.Neg x_3.Den.Mag)))

def rational_inverse (n : Nat) : Rational → Option Rational
  | x_0 =>
    some ((Rational.mk (Int_2.mk x_0.Den.Neg x_0.Den.Mag) (Int_2.mk x_0.Num.Neg x_0.Num.Mag)))

def rational_simplest_F (n : Nat) (self : Rational → Rational → Option Rational) : Rational → Rational → Option Rational
  | x_0, x_1 =>
    (rational_Floor n (Rational.mk (Int_2.mk x_0.Num.Neg x_0.Num.Mag) (Int_2.mk x_0.Den.Neg x_0.Den.Mag))).bind fun x_2 =>
    (integer_Mul n (Int_2.mk x_2.Neg x_2.Mag) (Int_2.mk x_0.Den.Neg x_0.Den.Mag)).bind fun x_3 =>
    (integer_Cmp n (Int_2.mk x_0.Num.Neg x_0.Num.Mag) x_3).bind fun x_4 =>
    cond (x_4 == 0)
    ((rational_whole n (Int_2.mk x_2.Neg x_2.Mag)).bind fun x_5 =>
    some ((Rational.mk (Int_2.mk x_5.Num.Neg x_5.Num.Mag) (Int_2.mk x_5.Den.Neg x_5.Den.Mag))))
    (((integer_Of n 1).bind fun x_6 =>
    (integer_Add n (Int_2.mk x_2.Neg x_2.Mag) x_6).bind fun x_7 =>
    (rational_whole n x_7).bind fun x_8 =>
    some ((x_8.Num.Neg, x_8.Num.Mag, x_8.Den.Neg, x_8.Den.Mag)) : Option (Bool × (List Int) × Bool × (List Int))).bind fun (x_9, x_a, x_b, x_c) =>
    (rational_Cmp n (Rational.mk (Int_2.mk x_9 x_a) (Int_2.mk x_b x_c)) (Rational.mk (Int_2.mk x_1.Num.Neg x_1.Num.Mag) (Int_2.mk x_1.Den.Neg x_1.Den.Mag))).bind fun x_d =>
    cond (decide (x_d ≤ 0))
    (some ((Rational.mk (Int_2.mk x_9 x_a) (Int_2.mk x_b x_c))))
    ((rational_whole n (Int_2.mk x_2.Neg x_2.Mag)).bind fun x_e =>
    (rational_Sub n (Rational.mk (Int_2.mk x_1.Num.Neg x_1.Num.Mag) (Int_2.mk x_1.Den.Neg x_1.Den.Mag)) (Rational.mk (Int_2.mk x_e.Num.Neg x_e.Num.Mag) (Int_2.mk x_e.Den.Neg x_e.Den.Mag))).bind fun x_f =>
    (rational_inverse n x_f).bind fun x_g =>
    (rational_Sub n (Rational.mk (Int_2.mk x_0.Num.Neg x_0.Num.Mag) (Int_2.mk x_0.Den.Neg x_0.Den.Mag)) (Rational.mk (Int_2.mk x_e.Num.Neg x_e.Num.Mag) (Int_2.mk x_e.Den.Neg x_e.Den.Mag))).bind fun x_h =>
    (rational_inverse n x_h).bind fun x_i =>
    (self x_g x_i).bind fun x_j =>
    (rational_inverse n x_j).bind fun x_k =>
    (rational_Add n (Rational.mk (Int_2.mk x_e.Num.Neg x_e.Num.Mag) (Int_2.mk x_e.Den.Neg x_e.Den.Mag)) x_k).bind fun x_l =>
    some ((Rational.mk (Int_2.mk x_l.Num.Neg x_l.Num.Mag) (Int_2.mk x_l.Den.Neg x_l.Den.Mag)))))
def rational_simplest : Nat → Rational → Rational → Option Rational
  | 0 => fun _ _ => none
  | n + 1 => rational_simplest_F n (rational_simplest n)

def ref02_Of (n : Nat) : Int → Int → Option Rational
  | x_0, x_1 =>
    (ref01_Of n x_0).bind fun x_2 =>
    (ref01_Of n x_1).bind fun x_3 =>
    (ref02_New n x_2 x_3).bind fun x_4 =>
    some ((Rational.mk (Int_2.mk x_4.Num.Neg x_4.Num.Mag) (Int_2.mk x_4.Den.Neg x_4.Den.Mag)))

def ref02_simple_F (n : Nat) (self : Rational → Rational → Option Rational) : Rational → Rational → Option Rational
  | x_0, x_1 =>
    (ref02_Floor n (Rational.mk (Int_2.mk x_0.Num.Neg x_0.Num.Mag) (Int_2.mk x_0.Den.Neg x_0.Den.Mag))).bind fun x_2 =>
    (ref02_One n ).bind fun x_3 =>
    (ref02_New n x_2 x_3).bind fun x_4 =>
    (ref02_Cmp n (Rational.mk (Int_2.mk x_4.Num.Neg x_4.Num.Mag) (Int_2.mk x_4.Den.Neg x_4.Den.Mag)) (Rational.mk (Int_2.mk x_0.Num.Neg x_0.Num.Mag) (Int_2.mk x_0.Den.Neg x_0.Den.Mag))).bind fun x_5 =>
    cond (x_5 == 0)
    (some ((Rational.mk (Int_2.mk x_4.Num.Neg x_4.Num.Mag) (Int_2.mk x_4.Den.Neg x_4.Den.Mag))))
    (((ref02_Of n 1 1).bind fun x_6 =>
    (ref02_Add n (Rational.mk (Int_2.mk x_4.Num.Neg x_4.Num.Mag) (Int_2.mk x_4.Den.Neg x_4.Den.Mag)) x_6).bind fun x_7 =>
    some ((x_7.Num.Neg, x_7.Num.Mag, x_7.Den.Neg, x_7.Den.Mag)) : Option (Bool × (List Int) × Bool × (List Int))).bind fun (x_8, x_9, x_a, x_b) =>
    (ref02_Cmp n (Rational.mk (Int_2.mk x_8 x_9) (Int_2.mk x_a x_b)) (Rational.mk (Int_2.mk x_1.Num.Neg x_1.Num.Mag) (Int_2.mk x_1.Den.Neg x_1.Den.Mag))).bind fun x_c =>
    cond (decide (x_c ≤ 0))
    (some ((Rational.mk (Int_2.mk x_8 x_9) (Int_2.mk x_a x_b))))
    (((ref02_Of n 1 1).bind fun x_d =>
    (ref02_Sub n (Rational.mk (Int_2.mk x_1.Num.Neg x_1.Num.Mag) (Int_2.mk x_1.Den.Neg x_1.Den.Mag)) (Rational.mk (Int_2.mk x_4.Num.Neg x_4.Num.Mag) (Int_2.mk x_4.Den.Neg x_4.Den.Mag))).bind fun x_e =>
    (ref02_Div n x_d x_e).bind fun (x_f, x_g) =>
    some ((x_f.Num.Neg, x_f.Num.Mag, x_f.Den.Neg, x_f.Den.Mag)) : Option (Bool × (List Int) × Bool × (List Int))).bind fun (x_h, x_i, x_j, x_k) =>
    ((ref02_Of n 1 1).bind fun x_l =>
    (ref02_Sub n (Rational.mk (Int_2.mk x_0.Num.Neg x_0.Num.Mag) (Int_2.mk x_0.Den.Neg x_0.Den.Mag)) (Rational.mk (Int_2.mk x_4.Num.Neg x_4.Num.Mag) (Int_2.mk x_4.Den.Neg x_4.Den.Mag))).bind fun x_m =>
    (ref02_Div n x_l x_m).bind fun (x_n, x_o) =>
    some ((x_n.Num.Neg, x_n.Num.Mag, x_n.Den.Neg, x_n.Den.Mag)) : Option (Bool × (List Int) × Bool × (List Int))).bind fun (x_p, x_q, x_r, x_s) =>
    ((ref02_Of n 1 1).bind fun x_t =>
    (self (Rational.mk (Int_2.mk x_h x_i) (Int_2.mk x_j x_k)) (Rational.mk (Int_2.mk x_p x_q) (Int_2.mk x_r x_s))).bind fun x_u =>
    (ref02_Div n x_t x_u).bind fun (x_v, x_w) =>
    some ((x_v.Num.Neg, x_v.Num.Mag, x_v.Den.Neg, x_v.Den.Mag)) : Option (Bool × (List Int) × Bool × (List Int))).bind fun (x_x, x_y, x_z, x_10) =>
    (ref02_Add n (Rational.mk (Int_2.mk x_4.Num.Neg x_4.Num.Mag) (Int_2.mk x_4.Den.Neg x_4.Den.Mag)) (Rational.mk (Int_2.mk x_x x_y) (Int_2.mk x_z x_10))).bind fun x_11 =>
    some ((Rational.mk (Int_2.mk x_11.Num.Neg x_11.Num.Mag) (Int_2.mk x_11.Den.Neg x_11.Den.Mag)))))
def ref02_simple : Nat → Rational → Rational → Option Rational
  | 0 => fun _ _ => none
  | n + 1 => ref02_simple_F n (ref02_simple n)

def stringslite_Index (n : Nat) : ByteArray → ByteArray → Option Int
  | x_0, x_1 =>
    (cond ((x_1.size : Int) == 0)
    (some (true))
    (some ((x_1.toList == x_0.toList))) : Option Bool).bind fun x_2 =>
    cond x_2
    (some (0))
    (cond ((x_1.size : Int) == 1)
    ((bidx x_1 0).bind fun x_3 =>
    (stringslite_IndexByte n x_0 x_3).bind fun x_4 =>
    some (x_4))
    (cond (decide ((x_1.size : Int) ≥ (x_0.size : Int)))
    (some ((-1)))
    (none)))

def stringslite_Cut (n : Nat) : ByteArray → ByteArray → Option (ByteArray × ByteArray × Bool)
  | x_0, x_1 =>
    (stringslite_Index n x_0 x_1).bind fun x_2 =>
    cond (decide (x_2 ≥ 0))
    ((scut x_0 0 x_2).bind fun x_3 =>
    (scut x_0 (IntKind.i64.wrap (x_2 + (x_1.size : Int))) (x_0.size : Int)).bind fun x_4 =>
    some ((x_3, x_4, true)))
    (some ((x_0, (ByteArray.mk #[]), false)))

def strings_Cut (n : Nat) : ByteArray → ByteArray → Option (ByteArray × ByteArray × Bool)
  | x_0, x_1 =>
    (stringslite_Cut n x_0 x_1).bind fun (x_2, x_3, x_4) =>
    some ((x_2, x_3, x_4))

def stringslite_CutPrefix (n : Nat) : ByteArray → ByteArray → Option (ByteArray × Bool)
  | x_0, x_1 =>
    (stringslite_HasPrefix n x_0 x_1).bind fun x_2 =>
    cond (!x_2)
    (some ((x_0, false)))
    ((scut x_0 (x_1.size : Int) (x_0.size : Int)).bind fun x_3 =>
    some ((x_3, true)))

def strings_CutPrefix (n : Nat) : ByteArray → ByteArray → Option (ByteArray × Bool)
  | x_0, x_1 =>
    (stringslite_CutPrefix n x_0 x_1).bind fun (x_2, x_3) =>
    some ((x_2, x_3))

def strings_makeASCIISet_L1 (x_0 : ByteArray) : ((List Bool) × Int) → Option (Out ((List Bool) × Int) (Out (List Bool) ((List Bool) × Bool)))
  | (x_1, x_2) =>
    cond (decide (x_2 < (x_0.size : Int)))
    ((bidx x_0 x_2).bind fun x_3 =>
    cond (decide (x_3 ≥ 128))
    (some (.done (.done (x_1, false))))
    ((idx x_1 x_3).bind fun x_4 =>
    some (.go ((upd x_1 x_3 true), (IntKind.i64.wrap (x_2 + 1))))))
    (some (.done (.go x_1)))

def strings_makeASCIISet (n : Nat) : ByteArray → Option ((List Bool) × Bool)
  | x_0 =>
    (loopN (strings_makeASCIISet_L1 x_0) n ((List.replicate 256 false), 0) : Option (Out (List Bool) ((List Bool) × Bool))).bind fun y_1 => (match y_1 with
    | .go x_2 =>
    some ((x_2, true))
    | .done r => some r)

def strings_asciiSet_contains (n : Nat) : (List Bool) → Int → Option (Bool × (List Bool))
  | x_0, x_1 =>
    (idx x_0 x_1).bind fun x_2 =>
    some ((x_2, x_0))

def strings_trimRightASCII_L1 (n : Nat) : (ByteArray × (List Bool)) → Option (Out (ByteArray × (List Bool)) (ByteArray × (List Bool)))
  | (x_0, x_1) =>
    cond (decide ((x_0.size : Int) > 0))
    ((bidx x_0 (IntKind.i64.wrap ((x_0.size : Int) - 1))).bind fun x_2 =>
    (strings_asciiSet_contains n x_1 x_2).bind fun (x_3, x_4) =>
    cond (!x_3)
    (some (.done (x_0, x_4)))
    ((scut x_0 0 (IntKind.i64.wrap ((x_0.size : Int) - 1))).bind fun x_5 =>
    some (.go (x_5, x_4))))
    (some (.done (x_0, x_1)))

def strings_trimRightASCII (n : Nat) : ByteArray → (List Bool) → Option (ByteArray × (List Bool))
  | x_0, x_1 =>
    (loopN (strings_trimRightASCII_L1 n) n (x_0, x_1) : Option (ByteArray × (List Bool))).bind fun (x_2, x_3) =>
    some ((x_2, x_3))

def strings_trimLeftASCII_L1 (n : Nat) : (ByteArray × (List Bool)) → Option (Out (ByteArray × (List Bool)) (ByteArray × (List Bool)))
  | (x_0, x_1) =>
    cond (decide ((x_0.size : Int) > 0))
    ((bidx x_0 0).bind fun x_2 =>
    (strings_asciiSet_contains n x_1 x_2).bind fun (x_3, x_4) =>
    cond (!x_3)
    (some (.done (x_0, x_4)))
    ((scut x_0 1 (x_0.size : Int)).bind fun x_5 =>
    some (.go (x_5, x_4))))
    (some (.done (x_0, x_1)))

def strings_trimLeftASCII (n : Nat) : ByteArray → (List Bool) → Option (ByteArray × (List Bool))
  | x_0, x_1 =>
    (loopN (strings_trimLeftASCII_L1 n) n (x_0, x_1) : Option (ByteArray × (List Bool))).bind fun (x_2, x_3) =>
    some ((x_2, x_3))

def strings_Trim (n : Nat) : ByteArray → ByteArray → Option ByteArray
  | x_0, x_1 =>
    (cond (x_0.toList == (ByteArray.mk #[]).toList)
    (some (true))
    (some ((x_1.toList == (ByteArray.mk #[]).toList))) : Option Bool).bind fun x_2 =>
    cond x_2
    (some (x_0))
    ((cond ((x_1.size : Int) == 1)
    ((bidx x_1 0).bind fun x_3 =>
    some ((decide (x_3 < 128))))
    (some (false)) : Option Bool).bind fun x_4 =>
    cond x_4
    (none)
    ((strings_makeASCIISet n x_1).bind fun (x_5, x_6) =>
    cond x_6
    ((strings_trimRightASCII n x_0 x_5).bind fun (x_7, x_8) =>
    (strings_trimLeftASCII n x_7 x_8).bind fun (x_9, x_a) =>
    some (x_9))
    (none)))

def integer_Parse_L1 (n : Nat) : (ByteArray × (List Int)) → Option (Out (ByteArray × (List Int)) (List Int))
  | (x_0, x_1) =>
    cond (decide ((x_0.size : Int) > 0))
    ((scut x_0 0 (IntKind.i64.wrap (((IntKind.i64.wrap ((x_0.size : Int) - 1)).tmod 9) + 1))).bind fun x_2 =>
    (strconv_ParseUint n x_2 10 32).bind fun (x_3, x_4) =>
    (integer_times n x_1 [1000000000]).bind fun x_5 =>
    (integer_plus n x_5 [(IntKind.u32.wrap x_3)]).bind fun x_6 =>
    (integer_trim n x_6).bind fun x_7 =>
    (scut x_0 (IntKind.i64.wrap (((IntKind.i64.wrap ((x_0.size : Int) - 1)).tmod 9) + 1)) (x_0.size : Int)).bind fun x_8 =>
    some (.go (x_8, x_7)))
    (some (.done x_1))

def integer_Parse (n : Nat) : ByteArray → Option (Int_2 × Int)
  | x_0 =>
    cond (decide ((x_0.size : Int) > 2000))
    (some (((Int_2.mk false []), 6)))
    ((strings_CutPrefix n x_0 (ByteArray.mk #[45])).bind fun (x_1, x_2) =>
    (cond (x_1.toList == (ByteArray.mk #[]).toList)
    (some (true))
    ((bidx x_1 0).bind fun x_3 =>
    cond (x_3 == 48)
    (cond (!(x_0.toList == (ByteArray.mk #[48]).toList))
    (some (true))
    ((strings_Trim n x_1 (ByteArray.mk #[48, 49, 50, 51, 52, 53, 54, 55, 56, 57])).bind fun x_4 =>
    some ((!(x_4.toList == (ByteArray.mk #[]).toList)))))
    ((strings_Trim n x_1 (ByteArray.mk #[48, 49, 50, 51, 52, 53, 54, 55, 56, 57])).bind fun x_5 =>
    some ((!(x_5.toList == (ByteArray.mk #[]).toList))))) : Option Bool).bind fun x_6 =>
    cond x_6
    (some (((Int_2.mk false []), 3)))
    ((loopN (integer_Parse_L1 n) n (x_1, []) : Option (List Int)).bind fun x_7 =>
    (integer_made n x_2 x_7).bind fun x_8 =>
    some (((Int_2.mk x_8.Neg x_8.Mag), 0))))

def rational_Parse (n : Nat) : ByteArray → Option (Rational × Int)
  | x_0 =>
    (strings_Cut n x_0 (ByteArray.mk #[47])).bind fun (x_1, x_2, x_3) =>
    (cond (decide ((x_0.size : Int) > 4000))
    (some (true))
    (cond (decide ((x_1.size : Int) > 2000))
    (some (true))
    (some ((decide ((x_2.size : Int) > 2000))))) : Option Bool).bind fun x_4 =>
    cond x_4
    (some (((Rational.mk (Int_2.mk false []) (Int_2.mk false [])), 6)))
    ((cond (!x_3)
    (some ((ByteArray.mk #[49])))
    (some (x_2)) : Option ByteArray).bind fun x_5 =>
    (integer_Parse n x_1).bind fun (x_6, x_7) =>
    (integer_Parse n x_5).bind fun (x_8, x_9) =>
    (cond (x_7 != 0)
    (some (true))
    (cond (x_9 != 0)
    (some (true))
    ((integer_Sign n (Int_2.mk x_8.Neg x_8.Mag)).bind fun x_a =>
    some ((decide (x_a ≤ 0))))) : Option Bool).bind fun x_b =>
    cond x_b
    (some (((Rational.mk (Int_2.mk false []) (Int_2.mk false [])), 3)))
    ((rational_New n (Int_2.mk x_6.Neg x_6.Mag) (Int_2.mk x_8.Neg x_8.Mag)).bind fun x_c =>
    (rational_Text n (Rational.mk (Int_2.mk x_c.Num.Neg x_c.Num.Mag) (Int_2.mk x_c.Den.Neg x_c.Den.Mag))).bind fun x_d =>
    cond (!(x_d.toList == x_0.toList))
    (some (((Rational.mk (Int_2.mk false []) (Int_2.mk false [])), 3)))
    (some (((Rational.mk (Int_2.mk x_c.Num.Neg x_c.Num.Mag) (Int_2.mk x_c.Den.Neg x_c.Den.Mag)), 0)))))

def ref01_Text_L13 : ((List Int) × Int × Int) → Option (Out ((List Int) × Int × Int) ((List Int) × Int))
  | (x_0, x_1, x_2) =>
    cond (decide (x_2 ≥ 0))
    ((idx x_0 x_2).bind fun x_3 =>
    (idx x_0 x_2).bind fun x_4 =>
    some (.go ((upd x_0 x_2 (IntKind.u32.wrap (IntKind.u64.wrap ((IntKind.u64.wrap ((IntKind.u64.wrap (x_1 * 4294967296)) + (IntKind.u64.wrap x_3))).tdiv 10)))), ((IntKind.u64.wrap ((IntKind.u64.wrap (x_1 * 4294967296)) + (IntKind.u64.wrap x_3))).tmod 10), (IntKind.i64.wrap (x_2 - 1)))))
    (some (.done (x_0, x_1)))

def ref01_Text_L11 (n : Nat) : (ByteArray × (List Int)) → Option (Out (ByteArray × (List Int)) ByteArray)
  | (x_0, x_1) =>
    cond (decide ((x_1.length : Int) > 0))
    ((loopN (ref01_Text_L13) n (x_1, 0, (IntKind.i64.wrap ((x_1.length : Int) - 1))) : Option ((List Int) × Int)).bind fun (x_2, x_3) =>
    (need (decide ((strOfNums [(IntKind.u8.wrap (IntKind.u64.wrap (48 + x_3)))]).size + x_0.size ≤ 9223372036854775807))).bind fun _ =>
    (ref01_trim n x_2).bind fun x_4 =>
    some (.go (((strOfNums [(IntKind.u8.wrap (IntKind.u64.wrap (48 + x_3)))]) ++ x_0), x_4)))
    (some (.done x_0))

def ref01_Text (n : Nat) : Int_2 → Option ByteArray
  | x_0 =>
    (ref01_trim n x_0.Mag).bind fun x_1 =>
    (loopN (ref01_Text_L11 n) n ((ByteArray.mk #[]), x_1) : Option ByteArray).bind fun x_2 =>
    cond (x_2.toList == (ByteArray.mk #[]).toList)
    (some ((ByteArray.mk #[48])))
    (cond x_0.Neg
    ((need (decide ((ByteArray.mk #[45]).size + x_2.size ≤ 9223372036854775807))).bind fun _ =>
    some (((ByteArray.mk #[45]) ++ x_2)))
    (some (x_2)))

def ref02_Text (n : Nat) : Rational → Option ByteArray
  | x_0 =>
    (ref02_Norm n (Rational.mk (Int_2.mk x_0.Num.Neg x_0.Num.Mag) (Int_2.mk x_0.Den.Neg x_0.Den.Mag))).bind fun x_1 =>
    (ref02_One n ).bind fun x_2 =>
    (ref01_Cmp n (Int_2.mk x_1.Den.Neg x_1.Den.Mag) x_2).bind fun x_3 =>
    cond (x_3 == 0)
    ((ref01_Text n (Int_2.mk x_1.Num.Neg x_1.Num.Mag)).bind fun x_4 =>
    some (x_4))
    ((ref01_Text n (Int_2.mk x_1.Num.Neg x_1.Num.Mag)).bind fun x_5 =>
    (need (decide (x_5.size + (ByteArray.mk #[47]).size ≤ 9223372036854775807))).bind fun _ =>
    (ref01_Text n (Int_2.mk x_1.Den.Neg x_1.Den.Mag)).bind fun x_6 =>
    (need (decide ((x_5 ++ (ByteArray.mk #[47])).size + x_6.size ≤ 9223372036854775807))).bind fun _ =>
    some (((x_5 ++ (ByteArray.mk #[47])) ++ x_6)))

def law02_RationalTexts (n : Nat) : Rational → Rational → Option Bool
  | x_0, x_1 =>
    ((law02_awake n ).bind fun x_2 =>
    cond (!x_2)
    (some ((x_0.Num.Mag, x_0.Den.Mag, x_1.Num.Mag, x_1.Den.Mag, true)))
    ((law02_few n [(Rational.mk (Int_2.mk x_0.Num.Neg x_0.Num.Mag) (Int_2.mk x_0.Den.Neg x_0.Den.Mag)), (Rational.mk (Int_2.mk x_1.Num.Neg x_1.Num.Mag) (Int_2.mk x_1.Den.Neg x_1.Den.Mag))]).bind fun x_3 =>
    some ((x_0.Num.Mag, x_0.Den.Mag, x_1.Num.Mag, x_1.Den.Mag, (!x_3)))) : Option ((List Int) × (List Int) × (List Int) × (List Int) × Bool)).bind fun (x_4, x_5, x_6, x_7, x_8) =>
    cond x_8
    ((law02_awake n ).bind fun x_9 =>
    some (x_9))
    ((rational_Text n (Rational.mk (Int_2.mk x_0.Num.Neg x_4) (Int_2.mk x_0.Den.Neg x_5))).bind fun x_a =>
    (rational_Parse n x_a).bind fun (x_b, x_c) =>
    ((ref02_Text n (Rational.mk (Int_2.mk x_0.Num.Neg x_4) (Int_2.mk x_0.Den.Neg x_5))).bind fun x_d =>
    cond (x_a.toList == x_d.toList)
    (cond (x_c == 0)
    ((ref02_Norm n (Rational.mk (Int_2.mk x_0.Num.Neg x_4) (Int_2.mk x_0.Den.Neg x_5))).bind fun x_e =>
    (base_Rational n (Rational.mk (Int_2.mk x_b.Num.Neg x_b.Num.Mag) (Int_2.mk x_b.Den.Neg x_b.Den.Mag)) x_e).bind fun x_f =>
    cond x_f
    ((rational_Text n (Rational.mk (Int_2.mk x_1.Num.Neg x_6) (Int_2.mk x_1.Den.Neg x_7))).bind fun x_g =>
    (rational_Cmp n (Rational.mk (Int_2.mk x_0.Num.Neg x_4) (Int_2.mk x_0.Den.Neg x_5)) (Rational.mk (Int_2.mk x_1.Num.Neg x_6) (Int_2.mk x_1.Den.Neg x_7))).bind fun x_h =>
    some (((x_a.toList == x_g.toList) == (x_h == 0))))
    (some (false)))
    (some (false)))
    (some (false)) : Option Bool).bind fun x_i =>
    some (x_i))

end Go.Proofs.YtepadjfmcbjkmaaGreatDoor
