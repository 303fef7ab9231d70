/-
  What the functions of the program compute, as plain Lean functions.
-/
import Derived.Test.YthhghkcopfnbiaaGreatDoorCoreA
import Derived.Test.YthhghkcopfnbiaaGreatDoorCoreB
namespace Go.Proofs.YthhghkcopfnbiaaGreatDoor
open Go Go.Proofs.YthhghkcopfnbiaaGreatDoor.Gw Go.RowKit
set_option linter.unusedVariables false
def pow10 : List Int := [1, 10, 100, 1000, 10000, 100000, 1000000, 10000000, 100000000, 1000000000, 10000000000, 100000000000, 1000000000000, 10000000000000, 100000000000000, 1000000000000000, 10000000000000000, 100000000000000000, 1000000000000000000, 10000000000000000000]
structure Int_2 where
  Neg : Bool
  Mag : (List Int)
def okInt_2 (x : Int_2) : Prop := True ∧ (x.Mag.length ≤ maxLen ∧ ∀ yxMag ∈ x.Mag, inK .u32 yxMag)
def strconv_FormatUint (n : Nat) (x b : Int) : Option ByteArray := fmtU x b
def strconv_ParseUint (n : Nat) (s : ByteArray) (b k : Int) : Option (Int × Unit) := parU s b k
def strings_Repeat (n : Nat) (s : ByteArray) (c : Int) : Option ByteArray := repS s c
def strings_Join (n : Nat) (xs : List ByteArray) (sep : ByteArray) : Option ByteArray := joinS xs sep
def integer_trim_L1 : (List Int) → Option (Out (List Int) (List Int))
  | x96 =>
    (cond (decide ((x96.length : Int) > 0))
    ((idx x96 (IntKind.i64.wrap ((x96.length : Int) - 1))).bind fun x133 =>
    some ((x133 == 0)))
    (some (false)) : Option Bool).bind fun x130 =>
    cond x130
    ((cut x96 0 (IntKind.i64.wrap ((x96.length : Int) - 1))).bind fun x139 =>
    some (.go x139))
    (some (.done x96))

def integer_trim (n : Nat) : (List Int) → Option (List Int)
  | x1 =>
    (loopN (integer_trim_L1) n x1 : Option (List Int)).bind fun x72 =>
    some (x72)

def integer_made (n : Nat) : Bool → (List Int) → Option Int_2
  | x144, x145 =>
    (integer_trim n x145).bind fun x151 =>
    cond ((x151.length : Int) == 0)
    (some ((Int_2.mk false [])))
    (some ((Int_2.mk x144 x151)))

def integer_Of (n : Nat) : Int → Option Int_2
  | x163 =>
    (cond (decide (x163 < 0))
    (some ((IntKind.u64.wrap (0 - (IntKind.u64.wrap x163)))))
    (some ((IntKind.u64.wrap x163))) : Option Int).bind fun x167 =>
    (integer_made n (decide (x163 < 0)) [(IntKind.u32.wrap x167), (IntKind.u32.wrap (x167.fdiv (2 ^ min (32 : Int).toNat (IntKind.u64).bits)))]).bind fun x174 =>
    some ((Int_2.mk x174.Neg x174.Mag))

def integer_compare_L1 (x181 : (List Int)) (x184 : (List Int)) : Int → Option (Out Int (Out Unit Int))
  | x303 =>
    cond (decide (x303 ≥ 0))
    ((idx x181 x303).bind fun x335 =>
    (idx x184 x303).bind fun x341 =>
    cond (x335 != x341)
    ((idx x181 x303).bind fun x348 =>
    (idx x184 x303).bind fun x354 =>
    cond (decide (x348 < x354))
    (some (.done (.done (-1))))
    (some (.done (.done 1))))
    (some (.go (IntKind.i64.wrap (x303 - 1)))))
    (some (.done (.go ())))

def integer_compare (n : Nat) : (List Int) → (List Int) → Option Int
  | x181, x184 =>
    cond ((x181.length : Int) != (x184.length : Int))
    (cond (decide ((x181.length : Int) < (x184.length : Int)))
    (some ((-1)))
    (some (1)))
    ((loopN (integer_compare_L1 x181 x184) n (IntKind.i64.wrap ((x181.length : Int) - 1)) : Option (Out Unit Int)).bind fun y275 => (match y275 with
    | .go _ =>
    some (0)
    | .done r => some r))

def slices_Cloneuint32_uint32_ (n : Nat) : (List Int) → Option (List Int)
  | x364 =>
    (app ([] : List Int) x364).bind fun x374 =>
    some (x374)

def bits_Div32 (n : Nat) : Int → Int → Int → Option (Int × Int)
  | x381, x382, x383 =>
    ((cond (x383 != 0)
    (some ((decide (x383 ≤ x381))))
    (some (false)) : Option Bool).bind fun x389 =>
    cond x389
    (none)
    (some (())) : Option Unit).bind fun _ =>
    (need (decide ((IntKind.u64.wrap x383) ≠ 0))).bind fun _ =>
    (need (decide ((IntKind.u64.wrap x383) ≠ 0))).bind fun _ =>
    some (((IntKind.u32.wrap (IntKind.u64.wrap ((ib .or .u64 (IntKind.u64.wrap ((IntKind.u64.wrap x381) * 2 ^ min (32 : Int).toNat (IntKind.u64).bits)) (IntKind.u64.wrap x382)).tdiv (IntKind.u64.wrap x383)))), (IntKind.u32.wrap ((ib .or .u64 (IntKind.u64.wrap ((IntKind.u64.wrap x381) * 2 ^ min (32 : Int).toNat (IntKind.u64).bits)) (IntKind.u64.wrap x382)).tmod (IntKind.u64.wrap x383)))))

def integer_short_L1 (n : Nat) (x395 : (List Int)) (x398 : Int) : ((List Int) × Int × Int) → Option (Out ((List Int) × Int × Int) ((List Int) × Int))
  | (x523, x527, x528) =>
    cond (decide (x528 ≥ 0))
    ((idx x395 x528).bind fun x562 =>
    (bits_Div32 n x527 x562 x398).bind fun (x568, x569) =>
    (idx x523 x528).bind fun x572 =>
    some (.go ((upd x523 x528 x568), x569, (IntKind.i64.wrap (x528 - 1)))))
    (some (.done (x523, x527)))

def integer_short (n : Nat) : (List Int) → Int → Option ((List Int) × Int)
  | x395, x398 =>
    (mk (x395.length : Int) 0).bind fun x400 =>
    (loopN (integer_short_L1 n x395 x398) n (x400, 0, (IntKind.i64.wrap ((x395.length : Int) - 1))) : Option ((List Int) × Int)).bind fun (x492, x496) =>
    some ((x492, x496))

def bits_Len32 (n : Nat) : Int → Option Int
  | x587 =>
    (cond (decide (x587 ≥ 65536))
    (some (((x587.fdiv (2 ^ min (16 : Int).toNat (IntKind.u32).bits)), 16)))
    (some ((x587, 0))) : Option (Int × Int)).bind fun (x588, x589) =>
    (cond (decide (x588 ≥ 256))
    (some (((x588.fdiv (2 ^ min (8 : Int).toNat (IntKind.u32).bits)), (IntKind.i64.wrap (x589 + 8)))))
    (some ((x588, x589))) : Option (Int × Int)).bind fun (x592, x593) =>
    (bidx (ByteArray.mk #[0, 1, 2, 2, 3, 3, 3, 3, 4, 4, 4, 4, 4, 4, 4, 4, 5, 5, 5, 5, 5, 5, 5, 5, 5, 5, 5, 5, 5, 5, 5, 5, 6, 6, 6, 6, 6, 6, 6, 6, 6, 6, 6, 6, 6, 6, 6, 6, 6, 6, 6, 6, 6, 6, 6, 6, 6, 6, 6, 6, 6, 6, 6, 6, 7, 7, 7, 7, 7, 7, 7, 7, 7, 7, 7, 7, 7, 7, 7, 7, 7, 7, 7, 7, 7, 7, 7, 7, 7, 7, 7, 7, 7, 7, 7, 7, 7, 7, 7, 7, 7, 7, 7, 7, 7, 7, 7, 7, 7, 7, 7, 7, 7, 7, 7, 7, 7, 7, 7, 7, 7, 7, 7, 7, 7, 7, 7, 7, 8, 8, 8, 8, 8, 8, 8, 8, 8, 8, 8, 8, 8, 8, 8, 8, 8, 8, 8, 8, 8, 8, 8, 8, 8, 8, 8, 8, 8, 8, 8, 8, 8, 8, 8, 8, 8, 8, 8, 8, 8, 8, 8, 8, 8, 8, 8, 8, 8, 8, 8, 8, 8, 8, 8, 8, 8, 8, 8, 8, 8, 8, 8, 8, 8, 8, 8, 8, 8, 8, 8, 8, 8, 8, 8, 8, 8, 8, 8, 8, 8, 8, 8, 8, 8, 8, 8, 8, 8, 8, 8, 8, 8, 8, 8, 8, 8, 8, 8, 8, 8, 8, 8, 8, 8, 8, 8, 8, 8, 8, 8, 8, 8, 8, 8, 8, 8, 8, 8, 8, 8, 8, 8, 8, 8, 8, 8, 8]) (IntKind.u8.wrap x592)).bind fun x596 =>
    some ((IntKind.i64.wrap (x593 + (IntKind.i64.wrap x596))))

def bits_LeadingZeros32 (n : Nat) : Int → Option Int
  | x598 =>
    (bits_Len32 n x598).bind fun x599 =>
    some ((IntKind.i64.wrap (32 - x599)))

def integer_shifted_L1 (x602 : (List Int)) (x605 : Int) : ((List Int) × Int) → Option (Out ((List Int) × Int) (List Int))
  | (x800, x804) =>
    cond (decide (x804 < (x602.length : Int)))
    ((idx x602 x804).bind fun x855 =>
    (need (decide (0 ≤ x605))).bind fun _ =>
    (idx x800 x804).bind fun x862 =>
    (idx x800 x804).bind fun x870 =>
    (idx (upd x800 x804 (ib .or .u32 x862 (IntKind.u32.wrap (IntKind.u64.wrap ((IntKind.u64.wrap x855) * 2 ^ min x605.toNat (IntKind.u64).bits))))) (IntKind.i64.wrap (x804 + 1))).bind fun x883 =>
    some (.go ((upd (upd x800 x804 (ib .or .u32 x862 (IntKind.u32.wrap (IntKind.u64.wrap ((IntKind.u64.wrap x855) * 2 ^ min x605.toNat (IntKind.u64).bits))))) (IntKind.i64.wrap (x804 + 1)) (IntKind.u32.wrap ((IntKind.u64.wrap ((IntKind.u64.wrap x855) * 2 ^ min x605.toNat (IntKind.u64).bits)).fdiv (2 ^ min (32 : Int).toNat (IntKind.u64).bits)))), (IntKind.i64.wrap (x804 + 1)))))
    (some (.done x800))

def integer_shifted (n : Nat) : (List Int) → Int → Option (List Int)
  | x602, x605 =>
    (mk (IntKind.i64.wrap ((x602.length : Int) + 1)) 0).bind fun x608 =>
    (loopN (integer_shifted_L1 x602 x605) n (x608, 0) : Option (List Int)).bind fun x752 =>
    some (x752)

def bits_Sub32 (n : Nat) : Int → Int → Int → Option (Int × Int)
  | x897, x898, x899 =>
    some (((IntKind.u32.wrap ((IntKind.u32.wrap (x897 - x898)) - x899)), ((ib .or .u32 (ib .and .u32 (ib .xor .u32 (if (IntKind.u32).signed then -1 else (IntKind.u32).max) x897) x898) (ib .and .u32 (ib .xor .u32 (if (IntKind.u32).signed then -1 else (IntKind.u32).max) (ib .xor .u32 x897 x898)) (IntKind.u32.wrap ((IntKind.u32.wrap (x897 - x898)) - x899)))).fdiv (2 ^ min (31 : Int).toNat (IntKind.u32).bits))))

def bits_Add32 (n : Nat) : Int → Int → Int → Option (Int × Int)
  | x900, x901, x902 =>
    some (((IntKind.u32.wrap (IntKind.u64.wrap ((IntKind.u64.wrap ((IntKind.u64.wrap x900) + (IntKind.u64.wrap x901))) + (IntKind.u64.wrap x902)))), (IntKind.u32.wrap ((IntKind.u64.wrap ((IntKind.u64.wrap ((IntKind.u64.wrap x900) + (IntKind.u64.wrap x901))) + (IntKind.u64.wrap x902))).fdiv (2 ^ min (32 : Int).toNat (IntKind.u64).bits)))))

def integer_divide_L91 (x980 : (List Int)) (x_0 : (List Int)) (x_1 : Int) : (Int × Int) → Option (Out (Int × Int) Int)
  | (x_2, x_3) =>
    (cond (decide (x_2 ≥ 4294967296))
    (some (true))
    ((idx x980 (IntKind.i64.wrap ((x980.length : Int) - 2))).bind fun x_4 =>
    (idx x_0 (IntKind.i64.wrap ((IntKind.i64.wrap (x_1 + (x980.length : Int))) - 2))).bind fun x_5 =>
    some ((decide ((IntKind.u64.wrap (x_2 * (IntKind.u64.wrap x_4))) > (ib .or .u64 (IntKind.u64.wrap (x_3 * 2 ^ min (32 : Int).toNat (IntKind.u64).bits)) (IntKind.u64.wrap x_5)))))) : Option Bool).bind fun x_6 =>
    cond x_6
    ((idx x980 (IntKind.i64.wrap ((x980.length : Int) - 1))).bind fun x_7 =>
    cond (decide ((IntKind.u64.wrap (x_3 + (IntKind.u64.wrap x_7))) ≥ 4294967296))
    (some (.done (IntKind.u64.wrap (x_2 - 1))))
    (some (.go ((IntKind.u64.wrap (x_2 - 1)), (IntKind.u64.wrap (x_3 + (IntKind.u64.wrap x_7)))))))
    (some (.done x_2))

def integer_divide_L93 (n : Nat) (x980 : (List Int)) (x_0 : Int) (x_1 : Int) : ((List Int) × Int × Int × Int) → Option (Out ((List Int) × Int × Int × Int) ((List Int) × Int × Int))
  | (x_2, x_3, x_4, x_5) =>
    cond (decide (x_5 < (x980.length : Int)))
    ((idx x980 x_5).bind fun x_6 =>
    (idx x_2 (IntKind.i64.wrap (x_5 + x_0))).bind fun x_7 =>
    (bits_Sub32 n x_7 (IntKind.u32.wrap (IntKind.u64.wrap ((IntKind.u64.wrap (x_1 * (IntKind.u64.wrap x_6))) + x_3))) x_4).bind fun (x_8, x_9) =>
    (idx x_2 (IntKind.i64.wrap (x_5 + x_0))).bind fun x_a =>
    some (.go ((upd x_2 (IntKind.i64.wrap (x_5 + x_0)) x_8), ((IntKind.u64.wrap ((IntKind.u64.wrap (x_1 * (IntKind.u64.wrap x_6))) + x_3)).fdiv (2 ^ min (32 : Int).toNat (IntKind.u64).bits)), x_9, (IntKind.i64.wrap (x_5 + 1)))))
    (some (.done (x_2, x_3, x_4)))

def integer_divide_L97 (n : Nat) (x980 : (List Int)) (x_0 : Int) : ((List Int) × Int × Int) → Option (Out ((List Int) × Int × Int) ((List Int) × Int))
  | (x_1, x_2, x_3) =>
    cond (decide (x_3 < (x980.length : Int)))
    ((idx x980 x_3).bind fun x_4 =>
    (idx x_1 (IntKind.i64.wrap (x_3 + x_0))).bind fun x_5 =>
    (bits_Add32 n x_5 x_4 x_2).bind fun (x_6, x_7) =>
    (idx x_1 (IntKind.i64.wrap (x_3 + x_0))).bind fun x_8 =>
    some (.go ((upd x_1 (IntKind.i64.wrap (x_3 + x_0)) x_6), x_7, (IntKind.i64.wrap (x_3 + 1)))))
    (some (.done (x_1, x_2)))

def integer_divide_L81 (n : Nat) (x980 : (List Int)) : ((List Int) × (List Int) × Int) → Option (Out ((List Int) × (List Int) × Int) ((List Int) × (List Int)))
  | (x_0, x_1, x_2) =>
    cond (decide (x_2 ≥ 0))
    (((idx x_0 (IntKind.i64.wrap (x_2 + (x980.length : Int)))).bind fun x_3 =>
    (idx x_0 (IntKind.i64.wrap ((IntKind.i64.wrap (x_2 + (x980.length : Int))) - 1))).bind fun x_4 =>
    (idx x980 (IntKind.i64.wrap ((x980.length : Int) - 1))).bind fun x_5 =>
    (need (decide ((IntKind.u64.wrap x_5) ≠ 0))).bind fun _ =>
    (idx x980 (IntKind.i64.wrap ((x980.length : Int) - 1))).bind fun x_6 =>
    (need (decide ((IntKind.u64.wrap x_6) ≠ 0))).bind fun _ =>
    (loopN (integer_divide_L91 x980 x_0 x_2) n ((IntKind.u64.wrap ((ib .or .u64 (IntKind.u64.wrap ((IntKind.u64.wrap x_3) * 2 ^ min (32 : Int).toNat (IntKind.u64).bits)) (IntKind.u64.wrap x_4)).tdiv (IntKind.u64.wrap x_5))), ((ib .or .u64 (IntKind.u64.wrap ((IntKind.u64.wrap x_3) * 2 ^ min (32 : Int).toNat (IntKind.u64).bits)) (IntKind.u64.wrap x_4)).tmod (IntKind.u64.wrap x_6))) : Option Int).bind fun x_7 =>
    (loopN (integer_divide_L93 n x980 x_2 x_7) n (x_0, 0, 0, 0) : Option ((List Int) × Int × Int)).bind fun (x_8, x_9, x_a) =>
    (idx x_8 (IntKind.i64.wrap (x_2 + (x980.length : Int)))).bind fun x_b =>
    (bits_Sub32 n x_b (IntKind.u32.wrap x_9) x_a).bind fun (x_c, x_d) =>
    (idx x_8 (IntKind.i64.wrap (x_2 + (x980.length : Int)))).bind fun x_e =>
    (cond (x_d != 0)
    ((loopN (integer_divide_L97 n x980 x_2) n ((upd x_8 (IntKind.i64.wrap (x_2 + (x980.length : Int))) x_c), 0, 0) : Option ((List Int) × Int)).bind fun (x_f, x_g) =>
    (idx x_f (IntKind.i64.wrap (x_2 + (x980.length : Int)))).bind fun x_h =>
    (idx x_f (IntKind.i64.wrap (x_2 + (x980.length : Int)))).bind fun x_i =>
    some (((upd x_f (IntKind.i64.wrap (x_2 + (x980.length : Int))) (IntKind.u32.wrap (x_h + x_g))), (IntKind.u64.wrap (x_7 - 1)))))
    (some (((upd x_8 (IntKind.i64.wrap (x_2 + (x980.length : Int))) x_c), x_7))) : Option ((List Int) × Int)).bind fun (x_j, x_k) =>
    (idx x_1 x_2).bind fun x_l =>
    some ((x_j, (upd x_1 x_2 (IntKind.u32.wrap x_k)))) : Option ((List Int) × (List Int))).bind fun (x_m, x_n) =>
    some (.go (x_m, x_n, (IntKind.i64.wrap (x_2 - 1)))))
    (some (.done (x_0, x_1)))

def integer_divide_L99 (x943 : Int) (x_0 : (List Int)) (x_1 : (List Int)) : ((List Int) × Int) → Option (Out ((List Int) × Int) (List Int))
  | (x_2, x_3) =>
    cond (decide (x_3 < (x_1.length : Int)))
    ((idx x_0 (IntKind.i64.wrap (x_3 + 1))).bind fun x_4 =>
    (idx x_0 x_3).bind fun x_5 =>
    (need (decide (0 ≤ (IntKind.u64.wrap x943)))).bind fun _ =>
    (idx x_2 x_3).bind fun x_6 =>
    some (.go ((upd x_2 x_3 (IntKind.u32.wrap ((ib .or .u64 (IntKind.u64.wrap ((IntKind.u64.wrap x_4) * 2 ^ min (32 : Int).toNat (IntKind.u64).bits)) (IntKind.u64.wrap x_5)).fdiv (2 ^ min (IntKind.u64.wrap x943).toNat (IntKind.u64).bits)))), (IntKind.i64.wrap (x_3 + 1)))))
    (some (.done x_2))

def integer_divide (n : Nat) : (List Int) → (List Int) → Option ((List Int) × (List Int))
  | x903, x906 =>
    (integer_compare n x903 x906).bind fun x911 =>
    cond (decide (x911 < 0))
    ((slices_Cloneuint32_uint32_ n x903).bind fun x914 =>
    some (([], x914)))
    (cond ((x906.length : Int) == 1)
    ((idx x906 0).bind fun x920 =>
    (integer_short n x903 x920).bind fun (x926, x927) =>
    some ((x926, [x927])))
    ((idx x906 (IntKind.i64.wrap ((x906.length : Int) - 1))).bind fun x937 =>
    (bits_LeadingZeros32 n x937).bind fun x943 =>
    (integer_shifted n x903 (IntKind.u64.wrap x943)).bind fun x965 =>
    (integer_shifted n x906 (IntKind.u64.wrap x943)).bind fun x972 =>
    (cut x972 0 (x906.length : Int)).bind fun x980 =>
    (mk (IntKind.i64.wrap ((x965.length : Int) - (x980.length : Int))) 0).bind fun x984 =>
    (loopN (integer_divide_L81 n x980) n (x965, x984, (IntKind.i64.wrap ((IntKind.i64.wrap ((x965.length : Int) - (x980.length : Int))) - 1))) : Option ((List Int) × (List Int))).bind fun (x_0, x_1) =>
    (mk (x980.length : Int) 0).bind fun x_2 =>
    (loopN (integer_divide_L99 x943 x_0 x_2) n (x_2, 0) : Option (List Int)).bind fun x_3 =>
    some ((x_1, x_3))))

def integer_plus_L1 (n : Nat) (x_0 : (List Int)) (x_1 : (List Int)) : ((List Int) × Int × Int) → Option (Out ((List Int) × Int × Int) ((List Int) × Int))
  | (x_2, x_3, x_4) =>
    cond (decide (x_4 < (x_0.length : Int)))
    ((idx x_0 x_4).bind fun x_5 =>
    (cond (decide (x_4 < (x_1.length : Int)))
    ((idx x_1 x_4).bind fun x_6 =>
    some (x_6))
    (some (0)) : Option Int).bind fun x_7 =>
    (bits_Add32 n x_5 x_7 x_3).bind fun (x_8, x_9) =>
    (app x_2 [x_8]).bind fun x_a =>
    some (.go (x_a, x_9, (IntKind.i64.wrap (x_4 + 1)))))
    (some (.done (x_2, x_3)))

def integer_plus (n : Nat) : (List Int) → (List Int) → Option (List Int)
  | x_0, x_1 =>
    (cond (decide ((x_0.length : Int) < (x_1.length : Int)))
    (some ((x_1, x_0)))
    (some ((x_0, x_1))) : Option ((List Int) × (List Int))).bind fun (x_2, x_3) =>
    (mkc 0 (IntKind.i64.wrap ((x_2.length : Int) + 1)) 0).bind fun x_4 =>
    (loopN (integer_plus_L1 n x_2 x_3) n (x_4, 0, 0) : Option ((List Int) × Int)).bind fun (x_5, x_6) =>
    (app x_5 [x_6]).bind fun x_7 =>
    some (x_7)

def integer_minus_L1 (n : Nat) (x_0 : (List Int)) (x_1 : (List Int)) : ((List Int) × Int × Int) → Option (Out ((List Int) × Int × Int) (List Int))
  | (x_2, x_3, x_4) =>
    cond (decide (x_4 < (x_0.length : Int)))
    ((idx x_0 x_4).bind fun x_5 =>
    (cond (decide (x_4 < (x_1.length : Int)))
    ((idx x_1 x_4).bind fun x_6 =>
    some (x_6))
    (some (0)) : Option Int).bind fun x_7 =>
    (bits_Sub32 n x_5 x_7 x_3).bind fun (x_8, x_9) =>
    (app x_2 [x_8]).bind fun x_a =>
    some (.go (x_a, x_9, (IntKind.i64.wrap (x_4 + 1)))))
    (some (.done x_2))

def integer_minus (n : Nat) : (List Int) → (List Int) → Option (List Int)
  | x_0, x_1 =>
    (mkc 0 (x_0.length : Int) 0).bind fun x_2 =>
    (loopN (integer_minus_L1 n x_0 x_1) n (x_2, 0, 0) : Option (List Int)).bind fun x_3 =>
    some (x_3)

def integer_Add (n : Nat) : Int_2 → Int_2 → Option Int_2
  | x_0, x_1 =>
    (integer_trim n x_0.Mag).bind fun x_2 =>
    (integer_trim n x_1.Mag).bind fun x_3 =>
    cond (x_0.Neg == x_1.Neg)
    ((integer_plus n x_2 x_3).bind fun x_4 =>
    (integer_made n x_0.Neg x_4).bind fun x_5 =>
    some ((Int_2.mk x_5.Neg x_5.Mag)))
    ((integer_compare n x_2 x_3).bind fun x_6 =>
    cond (decide (x_6 ≥ 0))
    ((integer_minus n x_2 x_3).bind fun x_7 =>
    (integer_made n x_0.Neg x_7).bind fun x_8 =>
    some ((Int_2.mk x_8.Neg x_8.Mag)))
    ((integer_minus n x_3 x_2).bind fun x_9 =>
    (integer_made n x_1.Neg x_9).bind fun x_a =>
    some ((Int_2.mk x_a.Neg x_a.Mag))))

def integer_DivMod (n : Nat) : Int_2 → Int_2 → Option (Int_2 × Int_2 × Int)
  | x_0, x_1 =>
    (integer_trim n x_0.Mag).bind fun x_2 =>
    (integer_trim n x_1.Mag).bind fun x_3 =>
    cond ((x_3.length : Int) == 0)
    (some (((Int_2.mk false []), (Int_2.mk false []), 10)))
    ((integer_divide n x_2 x_3).bind fun (x_4, x_5) =>
    ((integer_made n (!(x_0.Neg == x_1.Neg)) x_4).bind fun x_6 =>
    (integer_made n x_0.Neg x_5).bind fun x_7 =>
    some ((x_6.Neg, x_6.Mag, x_7.Neg, x_7.Mag)) : Option (Bool × (List Int) × Bool × (List Int))).bind fun (x_8, x_9, x_a, x_b) =>
    (cond x_a
    ((integer_Add n (Int_2.mk x_a x_b) (Int_2.mk false x_3)).bind fun x_c =>
    (integer_Add n (Int_2.mk x_8 x_9) (Int_2.mk (!x_1.Neg) [1])).bind fun x_d =>
    some ((x_d.Neg, x_d.Mag, x_c.Neg, x_c.Mag)))
    (some ((x_8, x_9, x_a, x_b))) : Option (Bool × (List Int) × Bool × (List Int))).bind fun (x_e, x_f, x_g, x_h) =>
    some (((Int_2.mk x_e x_f), (Int_2.mk x_g x_h), 0)))

def integer_Small_L1 (x_0 : (List Int)) : (Int × Int) → Option (Out (Int × Int) Int)
  | (x_1, x_2) =>
    cond (decide (x_2 < (x_0.length : Int)))
    ((idx x_0 x_2).bind fun x_3 =>
    (need (decide (0 ≤ (IntKind.i64.wrap (32 * x_2))))).bind fun _ =>
    some (.go ((ib .or .u64 x_1 (IntKind.u64.wrap ((IntKind.u64.wrap x_3) * 2 ^ min (IntKind.i64.wrap (32 * x_2)).toNat (IntKind.u64).bits))), (IntKind.i64.wrap (x_2 + 1)))))
    (some (.done x_1))

def integer_Small (n : Nat) : Int_2 → Option (Int × Bool)
  | x_0 =>
    (integer_trim n x_0.Mag).bind fun x_1 =>
    cond (decide ((x_1.length : Int) > 2))
    (some ((0, false)))
    ((loopN (integer_Small_L1 x_1) n (0, 0) : Option Int).bind fun x_2 =>
    (cond x_0.Neg
    (some ((decide (x_2 ≤ 9223372036854775808))))
    (some (false)) : Option Bool).bind fun x_3 =>
    cond x_3
    (some (((IntKind.i64.wrap (IntKind.u64.wrap (0 - x_2))), true)))
    ((cond (!x_0.Neg)
    (some ((decide (x_2 < 9223372036854775808))))
    (some (false)) : Option Bool).bind fun x_4 =>
    cond x_4
    (some (((IntKind.i64.wrap x_2), true)))
    (some ((0, false)))))

def integer_Sign (n : Nat) : Int_2 → Option Int
  | x_0 =>
    (integer_trim n x_0.Mag).bind fun x_1 =>
    cond ((x_1.length : Int) == 0)
    (some (0))
    (cond x_0.Neg
    (some ((-1)))
    (some (1)))

def integer_Bits (n : Nat) : Int_2 → Option Int
  | x_0 =>
    (integer_trim n x_0.Mag).bind fun x_1 =>
    cond ((x_1.length : Int) == 0)
    (some (0))
    ((idx x_1 (IntKind.i64.wrap ((x_1.length : Int) - 1))).bind fun x_2 =>
    (bits_Len32 n x_2).bind fun x_3 =>
    some ((IntKind.i64.wrap ((IntKind.i64.wrap (32 * (IntKind.i64.wrap ((x_1.length : Int) - 1)))) + x_3))))

def integer_Cmp (n : Nat) : Int_2 → Int_2 → Option Int
  | x_0, x_1 =>
    (integer_Sign n (Int_2.mk x_0.Neg x_0.Mag)).bind fun x_2 =>
    (integer_Sign n (Int_2.mk x_1.Neg x_1.Mag)).bind fun x_3 =>
    cond (decide (x_2 < x_3))
    (some ((-1)))
    (cond (decide (x_2 > x_3))
    (some (1))
    ((integer_trim n x_0.Mag).bind fun x_4 =>
    (integer_trim n x_1.Mag).bind fun x_5 =>
    (integer_compare n x_4 x_5).bind fun x_6 =>
    some ((IntKind.i64.wrap (x_2 * x_6)))))

def integer_Sqrt_L0 (n : Nat) (x_0 : Int_2) : (Bool × (List Int)) → Option (Out (Bool × (List Int)) (Int_2 × Int))
  | (x_1, x_2) =>
    (integer_DivMod n (Int_2.mk x_0.Neg x_0.Mag) (Int_2.mk x_1 x_2)).bind fun (x_3, x_4, x_5) =>
    (integer_Add n (Int_2.mk x_1 x_2) (Int_2.mk x_3.Neg x_3.Mag)).bind fun x_6 =>
    (integer_Of n 2).bind fun x_7 =>
    (integer_DivMod n x_6 x_7).bind fun (x_8, x_9, x_a) =>
    (integer_Cmp n (Int_2.mk x_8.Neg x_8.Mag) (Int_2.mk x_1 x_2)).bind fun x_b =>
    cond (decide (x_b ≥ 0))
    (some (.done ((Int_2.mk x_1 x_2), 0)))
    (some (.go (x_8.Neg, x_8.Mag)))

def integer_Sqrt (n : Nat) : Int_2 → Option (Int_2 × Int)
  | x_0 =>
    (integer_Sign n (Int_2.mk x_0.Neg x_0.Mag)).bind fun x_1 =>
    cond (x_1 == (-1))
    (some (((Int_2.mk false []), 2)))
    (cond (x_1 == 0)
    (some (((Int_2.mk false []), 0)))
    ((integer_Bits n (Int_2.mk x_0.Neg x_0.Mag)).bind fun x_2 =>
    (mk (IntKind.i64.wrap ((IntKind.i64.wrap ((IntKind.i64.wrap ((IntKind.i64.wrap (x_2 + 1)).tdiv 2)).tdiv 32)) + 1)) 0).bind fun x_3 =>
    (need (decide (0 ≤ ((IntKind.i64.wrap ((IntKind.i64.wrap (x_2 + 1)).tdiv 2)).tmod 32)))).bind fun _ =>
    (idx x_3 (IntKind.i64.wrap ((IntKind.i64.wrap ((IntKind.i64.wrap (x_2 + 1)).tdiv 2)).tdiv 32))).bind fun x_4 =>
    (integer_made n false (upd x_3 (IntKind.i64.wrap ((IntKind.i64.wrap ((IntKind.i64.wrap (x_2 + 1)).tdiv 2)).tdiv 32)) (IntKind.u32.wrap ((1 : Int) * 2 ^ min ((IntKind.i64.wrap ((IntKind.i64.wrap (x_2 + 1)).tdiv 2)).tmod 32).toNat (IntKind.u32).bits)))).bind fun x_5 =>
    loopN (integer_Sqrt_L0 n x_0) n (x_5.Neg, x_5.Mag)))

def stringslite_HasPrefix (n : Nat) : ByteArray → ByteArray → Option Bool
  | x_0, x_1 =>
    (cond (decide ((x_0.size : Int) ≥ (x_1.size : Int)))
    ((scut x_0 0 (x_1.size : Int)).bind fun x_2 =>
    some ((x_2.toList == x_1.toList)))
    (some (false)) : Option Bool).bind fun x_3 =>
    some (x_3)

def stringslite_CutPrefix (n : Nat) : ByteArray → ByteArray → Option (ByteArray × Bool)
  | x_0, x_1 =>
    (stringslite_HasPrefix n x_0 x_1).bind fun x_2 =>
    cond (!x_2)
    (some ((x_0, false)))
    ((scut x_0 (x_1.size : Int) (x_0.size : Int)).bind fun x_3 =>
    some ((x_3, true)))

def strings_CutPrefix (n : Nat) : ByteArray → ByteArray → Option (ByteArray × Bool)
  | x_0, x_1 =>
    (stringslite_CutPrefix n x_0 x_1).bind fun (x_2, x_3) =>
    some ((x_2, x_3))

def strings_makeASCIISet_L1 (x_0 : ByteArray) : ((List Bool) × Int) → Option (Out ((List Bool) × Int) (Out (List Bool) ((List Bool) × Bool)))
  | (x_1, x_2) =>
    cond (decide (x_2 < (x_0.size : Int)))
    ((bidx x_0 x_2).bind fun x_3 =>
    cond (decide (x_3 ≥ 128))
    (some (.done (.done (x_1, false))))
    ((idx x_1 x_3).bind fun x_4 =>
    some (.go ((upd x_1 x_3 true), (IntKind.i64.wrap (x_2 + 1))))))
    (some (.done (.go x_1)))

def strings_makeASCIISet (n : Nat) : ByteArray → Option ((List Bool) × Bool)
  | x_0 =>
    (loopN (strings_makeASCIISet_L1 x_0) n ((List.replicate 256 false), 0) : Option (Out (List Bool) ((List Bool) × Bool))).bind fun y_1 => (match y_1 with
    | .go x_2 =>
    some ((x_2, true))
    | .done r => some r)

def strings_asciiSet_contains (n : Nat) : (List Bool) → Int → Option (Bool × (List Bool))
  | x_0, x_1 =>
    (idx x_0 x_1).bind fun x_2 =>
    some ((x_2, x_0))

def strings_trimRightASCII_L1 (n : Nat) : (ByteArray × (List Bool)) → Option (Out (ByteArray × (List Bool)) (ByteArray × (List Bool)))
  | (x_0, x_1) =>
    cond (decide ((x_0.size : Int) > 0))
    ((bidx x_0 (IntKind.i64.wrap ((x_0.size : Int) - 1))).bind fun x_2 =>
    (strings_asciiSet_contains n x_1 x_2).bind fun (x_3, x_4) =>
    cond (!x_3)
    (some (.done (x_0, x_4)))
    ((scut x_0 0 (IntKind.i64.wrap ((x_0.size : Int) - 1))).bind fun x_5 =>
    some (.go (x_5, x_4))))
    (some (.done (x_0, x_1)))

def strings_trimRightASCII (n : Nat) : ByteArray → (List Bool) → Option (ByteArray × (List Bool))
  | x_0, x_1 =>
    (loopN (strings_trimRightASCII_L1 n) n (x_0, x_1) : Option (ByteArray × (List Bool))).bind fun (x_2, x_3) =>
    some ((x_2, x_3))

def strings_trimLeftASCII_L1 (n : Nat) : (ByteArray × (List Bool)) → Option (Out (ByteArray × (List Bool)) (ByteArray × (List Bool)))
  | (x_0, x_1) =>
    cond (decide ((x_0.size : Int) > 0))
    ((bidx x_0 0).bind fun x_2 =>
    (strings_asciiSet_contains n x_1 x_2).bind fun (x_3, x_4) =>
    cond (!x_3)
    (some (.done (x_0, x_4)))
    ((scut x_0 1 (x_0.size : Int)).bind fun x_5 =>
    some (.go (x_5, x_4))))
    (some (.done (x_0, x_1)))

def strings_trimLeftASCII (n : Nat) : ByteArray → (List Bool) → Option (ByteArray × (List Bool))
  | x_0, x_1 =>
    (loopN (strings_trimLeftASCII_L1 n) n (x_0, x_1) : Option (ByteArray × (List Bool))).bind fun (x_2, x_3) =>
    some ((x_2, x_3))

def strings_Trim (n : Nat) : ByteArray → ByteArray → Option ByteArray
  | x_0, x_1 =>
    (cond (x_0.toList == (ByteArray.mk #[]).toList)
    (some (true))
    (some ((x_1.toList == (ByteArray.mk #[]).toList))) : Option Bool).bind fun x_2 =>
    cond x_2
    (some (x_0))
    ((cond ((x_1.size : Int) == 1)
    ((bidx x_1 0).bind fun x_3 =>
    some ((decide (x_3 < 128))))
    (some (false)) : Option Bool).bind fun x_4 =>
    cond x_4
    (none)
    ((strings_makeASCIISet n x_1).bind fun (x_5, x_6) =>
    cond x_6
    ((strings_trimRightASCII n x_0 x_5).bind fun (x_7, x_8) =>
    (strings_trimLeftASCII n x_7 x_8).bind fun (x_9, x_a) =>
    some (x_9))
    (none)))

def integer_times_L25 (x_0 : (List Int)) (x_1 : Int) (x_2 : Int) : ((List Int) × Int × Int) → Option (Out ((List Int) × Int × Int) ((List Int) × Int))
  | (x_3, x_4, x_5) =>
    cond (decide (x_5 < (x_0.length : Int)))
    ((idx x_0 x_5).bind fun x_6 =>
    (idx x_3 (IntKind.i64.wrap (x_1 + x_5))).bind fun x_7 =>
    (idx x_3 (IntKind.i64.wrap (x_1 + x_5))).bind fun x_8 =>
    some (.go ((upd x_3 (IntKind.i64.wrap (x_1 + x_5)) (IntKind.u32.wrap (IntKind.u64.wrap ((IntKind.u64.wrap ((IntKind.u64.wrap ((IntKind.u64.wrap x_2) * (IntKind.u64.wrap x_6))) + (IntKind.u64.wrap x_7))) + x_4)))), ((IntKind.u64.wrap ((IntKind.u64.wrap ((IntKind.u64.wrap ((IntKind.u64.wrap x_2) * (IntKind.u64.wrap x_6))) + (IntKind.u64.wrap x_7))) + x_4)).fdiv (2 ^ min (32 : Int).toNat (IntKind.u64).bits)), (IntKind.i64.wrap (x_5 + 1)))))
    (some (.done (x_3, x_4)))

def integer_times_L21 (n : Nat) (x_0 : (List Int)) (x_1 : (List Int)) : ((List Int) × Int) → Option (Out ((List Int) × Int) (List Int))
  | (x_2, x_3) =>
    cond (decide (x_3 < (x_0.length : Int)))
    (((idx x_0 x_3).bind fun x_4 =>
    (loopN (integer_times_L25 x_1 x_3 x_4) n (x_2, 0, 0) : Option ((List Int) × Int)).bind fun (x_5, x_6) =>
    (idx x_5 (IntKind.i64.wrap (x_3 + (x_1.length : Int)))).bind fun x_7 =>
    some ((upd x_5 (IntKind.i64.wrap (x_3 + (x_1.length : Int))) (IntKind.u32.wrap x_6))) : Option (List Int)).bind fun x_8 =>
    some (.go (x_8, (IntKind.i64.wrap (x_3 + 1)))))
    (some (.done x_2))

def integer_times (n : Nat) : (List Int) → (List Int) → Option (List Int)
  | x_0, x_1 =>
    (mk (IntKind.i64.wrap ((x_0.length : Int) + (x_1.length : Int))) 0).bind fun x_2 =>
    (loopN (integer_times_L21 n x_0 x_1) n (x_2, 0) : Option (List Int)).bind fun x_3 =>
    some (x_3)

def integer_Parse_L1 (n : Nat) : (ByteArray × (List Int)) → Option (Out (ByteArray × (List Int)) (List Int))
  | (x_0, x_1) =>
    cond (decide ((x_0.size : Int) > 0))
    ((scut x_0 0 (IntKind.i64.wrap (((IntKind.i64.wrap ((x_0.size : Int) - 1)).tmod 9) + 1))).bind fun x_2 =>
    (strconv_ParseUint n x_2 10 32).bind fun (x_3, x_4) =>
    (integer_times n x_1 [1000000000]).bind fun x_5 =>
    (integer_plus n x_5 [(IntKind.u32.wrap x_3)]).bind fun x_6 =>
    (integer_trim n x_6).bind fun x_7 =>
    (scut x_0 (IntKind.i64.wrap (((IntKind.i64.wrap ((x_0.size : Int) - 1)).tmod 9) + 1)) (x_0.size : Int)).bind fun x_8 =>
    some (.go (x_8, x_7)))
    (some (.done x_1))

def integer_Parse (n : Nat) : ByteArray → Option (Int_2 × Int)
  | x_0 =>
    cond (decide ((x_0.size : Int) > 2000))
    (some (((Int_2.mk false []), 6)))
    ((strings_CutPrefix n x_0 (ByteArray.mk #[45])).bind fun (x_1, x_2) =>
    (cond (x_1.toList == (ByteArray.mk #[]).toList)
    (some (true))
    ((bidx x_1 0).bind fun x_3 =>
    cond (x_3 == 48)
    (cond (!(x_0.toList == (ByteArray.mk #[48]).toList))
    (some (true))
    ((strings_Trim n x_1 (ByteArray.mk #[48, 49, 50, 51, 52, 53, 54, 55, 56, 57])).bind fun x_4 =>
    some ((!(x_4.toList == (ByteArray.mk #[]).toList)))))
    ((strings_Trim n x_1 (ByteArray.mk #[48, 49, 50, 51, 52, 53, 54, 55, 56, 57])).bind fun x_5 =>
    some ((!(x_5.toList == (ByteArray.mk #[]).toList))))) : Option Bool).bind fun x_6 =>
    cond x_6
    (some (((Int_2.mk false []), 3)))
    ((loopN (integer_Parse_L1 n) n (x_1, []) : Option (List Int)).bind fun x_7 =>
    (integer_made n x_2 x_7).bind fun x_8 =>
    some (((Int_2.mk x_8.Neg x_8.Mag), 0))))

def ref01_trim_L1 : (List Int) → Option (Out (List Int) (List Int))
  | x_0 =>
    (cond (decide ((x_0.length : Int) > 0))
    ((idx x_0 (IntKind.i64.wrap ((x_0.length : Int) - 1))).bind fun x_1 =>
    some ((x_1 == 0)))
    (some (false)) : Option Bool).bind fun x_2 =>
    cond x_2
    ((cut x_0 0 (IntKind.i64.wrap ((x_0.length : Int) - 1))).bind fun x_3 =>
    some (.go x_3))
    (some (.done x_0))

def ref01_trim (n : Nat) : (List Int) → Option (List Int)
  | x_0 =>
    (loopN (ref01_trim_L1) n x_0 : Option (List Int)).bind fun x_1 =>
    (app ([] : List Int) x_1).bind fun x_2 =>
    some (x_2)

def ref01_Norm (n : Nat) : Int_2 → Option Int_2
  | x_0 =>
    (ref01_trim n x_0.Mag).bind fun x_1 =>
    (cond x_0.Neg
    (some (((decide ((x_1.length : Int) > 0)), x_1)))
    (some ((false, x_1))) : Option (Bool × (List Int))).bind fun (x_2, x_3) =>
    some ((Int_2.mk x_2 x_3))

def ref01_Of (n : Nat) : Int → Option Int_2
  | x_0 =>
    (cond (decide (x_0 < 0))
    (some ((IntKind.u64.wrap (0 - (IntKind.u64.wrap x_0)))))
    (some ((IntKind.u64.wrap x_0))) : Option Int).bind fun x_1 =>
    (ref01_Norm n (Int_2.mk (decide (x_0 < 0)) [(IntKind.u32.wrap x_1), (IntKind.u32.wrap (x_1.fdiv (2 ^ min (32 : Int).toNat (IntKind.u64).bits)))])).bind fun x_2 =>
    some ((Int_2.mk x_2.Neg x_2.Mag))

def ref01_Same_L1 (x_0 : Int_2) (x_1 : Int_2) : Int → Option (Out Int (Out Unit Bool))
  | x_2 =>
    cond (decide (x_2 < (x_0.Mag.length : Int)))
    ((idx x_0.Mag x_2).bind fun x_3 =>
    (idx x_1.Mag x_2).bind fun x_4 =>
    cond (x_3 != x_4)
    (some (.done (.done false)))
    (some (.go (IntKind.i64.wrap (x_2 + 1)))))
    (some (.done (.go ())))

def ref01_Same (n : Nat) : Int_2 → Int_2 → Option Bool
  | x_0, x_1 =>
    (cond (!(x_0.Neg == x_1.Neg))
    (some (true))
    (some (((x_0.Mag.length : Int) != (x_1.Mag.length : Int)))) : Option Bool).bind fun x_2 =>
    cond x_2
    (some (false))
    ((loopN (ref01_Same_L1 x_0 x_1) n 0 : Option (Out Unit Bool)).bind fun y_3 => (match y_3 with
    | .go _ =>
    some (true)
    | .done r => some r))

def slices_Reversestring_string__L0 : ((List ByteArray) × Int × Int) → Option (Out ((List ByteArray) × Int × Int) (List ByteArray))
  | (x_0, x_1, x_2) =>
    cond (decide (x_1 < x_2))
    (((idx x_0 x_2).bind fun x_3 =>
    (idx x_0 x_1).bind fun x_4 =>
    (idx x_0 x_1).bind fun x_5 =>
    (idx (upd x_0 x_1 x_3) x_2).bind fun x_6 =>
    some ((upd (upd x_0 x_1 x_3) x_2 x_4)) : Option (List ByteArray)).bind fun x_7 =>
    some (.go (x_7, (IntKind.i64.wrap (x_1 + 1)), (IntKind.i64.wrap (x_2 - 1)))))
    (some (.done x_0))

def slices_Reversestring_string_ (n : Nat) : (List ByteArray) → Option (List ByteArray)
  | x_0 =>
    loopN (slices_Reversestring_string__L0) n (x_0, 0, (IntKind.i64.wrap ((x_0.length : Int) - 1)))

def integer_Text_L1 (n : Nat) : ((List Int) × (List ByteArray)) → Option (Out ((List Int) × (List ByteArray)) (List ByteArray))
  | (x_0, x_1) =>
    cond (decide ((x_0.length : Int) > 0))
    ((integer_short n x_0 1000000000).bind fun (x_2, x_3) =>
    (integer_trim n x_2).bind fun x_4 =>
    (strconv_FormatUint n (IntKind.u64.wrap x_3) 10).bind fun x_5 =>
    (cond (decide ((x_4.length : Int) > 0))
    ((strings_Repeat n (ByteArray.mk #[48]) (IntKind.i64.wrap (9 - (x_5.size : Int)))).bind fun x_6 =>
    (need (decide (x_6.size + x_5.size ≤ 9223372036854775807))).bind fun _ =>
    some ((x_6 ++ x_5)))
    (some (x_5)) : Option ByteArray).bind fun x_7 =>
    (app x_1 [x_7]).bind fun x_8 =>
    some (.go (x_4, x_8)))
    (some (.done x_1))

def integer_Text (n : Nat) : Int_2 → Option ByteArray
  | x_0 =>
    (integer_trim n x_0.Mag).bind fun x_1 =>
    (slices_Cloneuint32_uint32_ n x_1).bind fun x_2 =>
    cond ((x_2.length : Int) == 0)
    (some ((ByteArray.mk #[48])))
    ((loopN (integer_Text_L1 n) n (x_2, []) : Option (List ByteArray)).bind fun x_3 =>
    (cond x_0.Neg
    ((app x_3 [(ByteArray.mk #[45])]).bind fun x_4 =>
    some (x_4))
    (some (x_3)) : Option (List ByteArray)).bind fun x_5 =>
    (slices_Reversestring_string_ n x_5).bind fun x_6 =>
    (strings_Join n x_6 (ByteArray.mk #[])).bind fun x_7 =>
    some (x_7))

def integer_Abs (n : Nat) : Int_2 → Option Int_2
  | x_0 =>
    (integer_trim n x_0.Mag).bind fun x_1 =>
    (slices_Cloneuint32_uint32_ n x_1).bind fun x_2 =>
    (integer_made n false x_2).bind fun x_3 =>
    some ((Int_2.mk x_3.Neg x_3.Mag))

def integer_Gcd_L1 (n : Nat) : (Bool × (List Int) × Bool × (List Int)) → Option (Out (Bool × (List Int) × Bool × (List Int)) (Bool × (List Int)))
  | (x_0, x_1, x_2, x_3) =>
    cond (decide ((x_3.length : Int) > 0))
    ((integer_DivMod n (Int_2.mk x_0 x_1) (Int_2.mk x_2 x_3)).bind fun (x_4, x_5, x_6) =>
    some (.go (x_2, x_3, x_5.Neg, x_5.Mag)))
    (some (.done (x_0, x_1)))

def integer_Gcd (n : Nat) : Int_2 → Int_2 → Option Int_2
  | x_0, x_1 =>
    ((integer_Abs n (Int_2.mk x_0.Neg x_0.Mag)).bind fun x_2 =>
    (integer_Abs n (Int_2.mk x_1.Neg x_1.Mag)).bind fun x_3 =>
    some ((x_2.Neg, x_2.Mag, x_3.Neg, x_3.Mag)) : Option (Bool × (List Int) × Bool × (List Int))).bind fun (x_4, x_5, x_6, x_7) =>
    (loopN (integer_Gcd_L1 n) n (x_4, x_5, x_6, x_7) : Option (Bool × (List Int))).bind fun (x_8, x_9) =>
    some ((Int_2.mk x_8 x_9))

def law01_awake (n : Nat) : Option Bool :=
    (integer_Of n (-7)).bind fun x_0 =>
    (integer_Of n 2).bind fun x_1 =>
    (integer_DivMod n x_0 x_1).bind fun (x_2, x_3, x_4) =>
    (integer_DivMod n (Int_2.mk x_2.Neg x_2.Mag) (Int_2.mk true [0])).bind fun (x_5, x_6, x_7) =>
    (integer_Small n (Int_2.mk true [7, 0])).bind fun (x_8, x_9) =>
    (integer_Of n 24).bind fun x_a =>
    (integer_Sqrt n x_a).bind fun (x_b, x_c) =>
    (integer_Parse n (ByteArray.mk #[45, 48])).bind fun (x_d, x_e) =>
    ((ref01_Of n (-4)).bind fun x_f =>
    (ref01_Same n (Int_2.mk x_2.Neg x_2.Mag) x_f).bind fun x_g =>
    (need (decide (x_g = true))).bind fun _ =>
    (ref01_Of n 1).bind fun x_h =>
    (ref01_Same n (Int_2.mk x_3.Neg x_3.Mag) x_h).bind fun x_i =>
    (need (decide (x_i = true))).bind fun _ =>
    (need (decide ((x_4 == 0) = true))).bind fun _ =>
    (need (decide ((x_7 == 10) = true))).bind fun _ =>
    (need (decide ((x_8 == (-7)) = true))).bind fun _ =>
    (need (decide (x_9 = true))).bind fun _ =>
    (ref01_Of n 4).bind fun x_j =>
    (ref01_Same n (Int_2.mk x_b.Neg x_b.Mag) x_j).bind fun x_k =>
    (need (decide (x_k = true))).bind fun _ =>
    (need (decide ((x_c == 0) = true))).bind fun _ =>
    (need (decide ((x_e == 3) = true))).bind fun _ =>
    (need (decide (((x_d.Mag.length : Int) == 0) = true))).bind fun _ =>
    (integer_Text n (Int_2.mk true [0, 1])).bind fun x_l =>
    (need (decide ((x_l.toList == (ByteArray.mk #[45, 52, 50, 57, 52, 57, 54, 55, 50, 57, 54]).toList) = true))).bind fun _ =>
    (integer_Of n (-12)).bind fun x_m =>
    (integer_Of n 18).bind fun x_n =>
    (integer_Gcd n x_m x_n).bind fun x_o =>
    (ref01_Of n 6).bind fun x_p =>
    (ref01_Same n x_o x_p).bind fun x_q =>
    (need (decide (x_q = true))).bind fun _ =>
    (integer_Of n (-8)).bind fun x_r =>
    (integer_Bits n x_r).bind fun x_s =>
    some ((x_s == 4)) : Option Bool).bind fun x_t =>
    some (x_t)

def law01_few (n : Nat) : Int_2 → Option Bool
  | x_0 =>
    some ((decide ((x_0.Mag.length : Int) ≤ 12)))

def integer_Mul (n : Nat) : Int_2 → Int_2 → Option Int_2
  | x_0, x_1 =>
    (integer_trim n x_0.Mag).bind fun x_2 =>
    (integer_trim n x_1.Mag).bind fun x_3 =>
    (integer_times n x_2 x_3).bind fun x_4 =>
    (integer_made n (!(x_0.Neg == x_1.Neg)) x_4).bind fun x_5 =>
    some ((Int_2.mk x_5.Neg x_5.Mag))

def slices_Cloneown (n : Nat) : (List Int) → Option (List Int)
  | x_0 =>
    (app ([] : List Int) x_0).bind fun x_1 =>
    some (x_1)

def integer_trimgive_L1 : (List Int) → Option (Out (List Int) (List Int))
  | x_0 =>
    (cond (decide ((x_0.length : Int) > 0))
    ((idx x_0 (IntKind.i64.wrap ((x_0.length : Int) - 1))).bind fun x_1 =>
    some ((x_1 == 0)))
    (some (false)) : Option Bool).bind fun x_2 =>
    cond x_2
    ((cut x_0 0 (IntKind.i64.wrap ((x_0.length : Int) - 1))).bind fun x_3 =>
    some (.go x_3))
    (some (.done x_0))

def integer_trimgive (n : Nat) : (List Int) → Option (List Int)
  | x_0 =>
    (loopN (integer_trimgive_L1) n x_0 : Option (List Int)).bind fun x_1 =>
    some (x_1)

def integer_madegive (n : Nat) : Bool → (List Int) → Option Int_2
  | x_0, x_1 =>
    (integer_trimgive n x_1).bind fun x_2 =>
    cond ((x_2.length : Int) == 0)
    (some ((Int_2.mk false [])))
    (some ((Int_2.mk x_0 x_2)))

def integer_Normown (n : Nat) : Int_2 → Option Int_2
  | x_0 =>
    (integer_trim n x_0.Mag).bind fun x_1 =>
    (slices_Cloneown n x_1).bind fun x_2 =>
    (integer_madegive n x_0.Neg x_2).bind fun x_3 =>
    some ((Int_2.mk x_3.Neg x_3.Mag))

def law01_IntegerForms_L1 : ((List Int) × Int) → Option (Out ((List Int) × Int) Unit)
  | (x_0, x_1) =>
    cond (decide (x_1 < (x_0.length : Int)))
    ((idx x_0 x_1).bind fun x_2 =>
    (idx x_0 x_1).bind fun x_3 =>
    some (.go ((upd x_0 x_1 (IntKind.u32.wrap (x_2 + 1))), (IntKind.i64.wrap (x_1 + 1)))))
    (some (.done ()))

def law01_IntegerForms_L3 (x_0 : (List Int)) (x_1 : (List Int)) : Int → Option (Out Int (Out Unit Bool))
  | x_2 =>
    cond (decide (x_2 < (x_1.length : Int)))
    ((idx x_0 x_2).bind fun x_3 =>
    (idx x_1 x_2).bind fun x_4 =>
    cond (x_3 != x_4)
    (some (.done (.done false)))
    (some (.go (IntKind.i64.wrap (x_2 + 1)))))
    (some (.done (.go ())))

def law01_IntegerForms (n : Nat) : Int_2 → Int_2 → Int → Option Bool
  | x_0, x_1, x_2 =>
    ((law01_awake n ).bind fun x_3 =>
    cond (!x_3)
    (some (true))
    ((law01_few n (Int_2.mk x_0.Neg x_0.Mag)).bind fun x_4 =>
    cond (!x_4)
    (some (true))
    ((law01_few n (Int_2.mk x_1.Neg x_1.Mag)).bind fun x_5 =>
    some ((!x_5)))) : Option Bool).bind fun x_6 =>
    cond x_6
    ((law01_awake n ).bind fun x_7 =>
    some (x_7))
    (((app ([] : List Int) x_0.Mag).bind fun x_8 =>
    (appz x_8 ((IntKind.i64.wrap x_2).tmod 5) 0).bind fun x_9 =>
    some ((x_0.Neg, x_9)) : Option (Bool × (List Int))).bind fun (x_a, x_b) =>
    (app ([] : List Int) x_b).bind fun x_c =>
    (integer_DivMod n (Int_2.mk x_1.Neg x_1.Mag) (Int_2.mk x_a x_b)).bind fun (x_d, x_e, x_f) =>
    (integer_DivMod n (Int_2.mk x_1.Neg x_1.Mag) (Int_2.mk x_0.Neg x_0.Mag)).bind fun (x_g, x_h, x_i) =>
    (cond (x_f != x_i)
    (some (true))
    ((ref01_Same n (Int_2.mk x_d.Neg x_d.Mag) (Int_2.mk x_g.Neg x_g.Mag)).bind fun x_j =>
    cond (!x_j)
    (some (true))
    ((ref01_Same n (Int_2.mk x_e.Neg x_e.Mag) (Int_2.mk x_h.Neg x_h.Mag)).bind fun x_k =>
    cond (!x_k)
    (some (true))
    ((integer_Add n (Int_2.mk x_a x_b) (Int_2.mk x_1.Neg x_1.Mag)).bind fun x_l =>
    (integer_Add n (Int_2.mk x_0.Neg x_0.Mag) (Int_2.mk x_1.Neg x_1.Mag)).bind fun x_m =>
    (ref01_Same n x_l x_m).bind fun x_n =>
    cond (!x_n)
    (some (true))
    ((integer_Mul n (Int_2.mk x_a x_b) (Int_2.mk x_1.Neg x_1.Mag)).bind fun x_o =>
    (integer_Mul n (Int_2.mk x_0.Neg x_0.Mag) (Int_2.mk x_1.Neg x_1.Mag)).bind fun x_p =>
    (ref01_Same n x_o x_p).bind fun x_q =>
    cond (!x_q)
    (some (true))
    ((integer_Cmp n (Int_2.mk x_a x_b) (Int_2.mk x_0.Neg x_0.Mag)).bind fun x_r =>
    cond (x_r != 0)
    (some (true))
    ((integer_Text n (Int_2.mk x_a x_b)).bind fun x_s =>
    (integer_Text n (Int_2.mk x_0.Neg x_0.Mag)).bind fun x_t =>
    some ((!(x_s.toList == x_t.toList))))))))) : Option Bool).bind fun x_u =>
    cond x_u
    (some (false))
    ((integer_Normown n (Int_2.mk x_a x_b)).bind fun x_v =>
    (loopN (law01_IntegerForms_L1) n (x_v.Mag, 0) : Option Unit).bind fun _ =>
    (loopN (law01_IntegerForms_L3 x_b x_c) n 0 : Option (Out Unit Bool)).bind fun y_w => (match y_w with
    | .go _ =>
    some (true)
    | .done r => some r)))

end Go.Proofs.YthhghkcopfnbiaaGreatDoor
