/-
  What the functions of the program compute, as plain Lean functions.
-/
import Derived.Test.YthhghkcopfnbiaaGreatDoorCoreA
namespace Go.Proofs.YthhghkcopfnbiaaGreatDoor
open Go Go.Proofs.YthhghkcopfnbiaaGreatDoor.Gw Go.RowKit
set_option linter.unusedVariables false
def pow10 : List Int := [1, 10, 100, 1000, 10000, 100000, 1000000, 10000000, 100000000, 1000000000, 10000000000, 100000000000, 1000000000000, 10000000000000, 100000000000000, 1000000000000000, 10000000000000000, 100000000000000000, 1000000000000000000, 10000000000000000000]
structure Int_2 where
  Neg : Bool
  Mag : (List Int)
def okInt_2 (x : Int_2) : Prop := True ∧ (x.Mag.length ≤ maxLen ∧ ∀ yxMag ∈ x.Mag, inK .u32 yxMag)
def strconv_FormatUint (n : Nat) (x b : Int) : Option ByteArray := fmtU x b
def strconv_ParseUint (n : Nat) (s : ByteArray) (b k : Int) : Option (Int × Unit) := parU s b k
def strings_Repeat (n : Nat) (s : ByteArray) (c : Int) : Option ByteArray := repS s c
def strings_Join (n : Nat) (xs : List ByteArray) (sep : ByteArray) : Option ByteArray := joinS xs sep
def integer_trim_L1 : (List Int) → Option (Out (List Int) (List Int))
  | x96 =>
    (cond (decide ((x96.length : Int) > 0))
    ((idx x96 (IntKind.i64.wrap ((x96.length : Int) - 1))).bind fun x133 =>
    some ((x133 == 0)))
    (some (false)) : Option Bool).bind fun x130 =>
    cond x130
    ((cut x96 0 (IntKind.i64.wrap ((x96.length : Int) - 1))).bind fun x139 =>
    some (.go x139))
    (some (.done x96))

def integer_trim (n : Nat) : (List Int) → Option (List Int)
  | x1 =>
    (loopN (integer_trim_L1) n x1 : Option (List Int)).bind fun x72 =>
    some (x72)

def integer_made (n : Nat) : Bool → (List Int) → Option Int_2
  | x144, x145 =>
    (integer_trim n x145).bind fun x151 =>
    cond ((x151.length : Int) == 0)
    (some ((Int_2.mk false [])))
    (some ((Int_2.mk x144 x151)))

def integer_Of (n : Nat) : Int → Option Int_2
  | x163 =>
    (cond (decide (x163 < 0))
    (some ((IntKind.u64.wrap (0 - (IntKind.u64.wrap x163)))))
    (some ((IntKind.u64.wrap x163))) : Option Int).bind fun x167 =>
    (integer_made n (decide (x163 < 0)) [(IntKind.u32.wrap x167), (IntKind.u32.wrap (x167.fdiv (2 ^ min (32 : Int).toNat (IntKind.u64).bits)))]).bind fun x174 =>
    some ((Int_2.mk x174.Neg x174.Mag))

def integer_compare_L1 (x181 : (List Int)) (x184 : (List Int)) : Int → Option (Out Int (Out Unit Int))
  | x303 =>
    cond (decide (x303 ≥ 0))
    ((idx x181 x303).bind fun x335 =>
    (idx x184 x303).bind fun x341 =>
    cond (x335 != x341)
    ((idx x181 x303).bind fun x348 =>
    (idx x184 x303).bind fun x354 =>
    cond (decide (x348 < x354))
    (some (.done (.done (-1))))
    (some (.done (.done 1))))
    (some (.go (IntKind.i64.wrap (x303 - 1)))))
    (some (.done (.go ())))

def integer_compare (n : Nat) : (List Int) → (List Int) → Option Int
  | x181, x184 =>
    cond ((x181.length : Int) != (x184.length : Int))
    (cond (decide ((x181.length : Int) < (x184.length : Int)))
    (some ((-1)))
    (some (1)))
    ((loopN (integer_compare_L1 x181 x184) n (IntKind.i64.wrap ((x181.length : Int) - 1)) : Option (Out Unit Int)).bind fun y275 => (match y275 with
    | .go _ =>
    some (0)
    | .done r => some r))

def slices_Cloneuint32_uint32_ (n : Nat) : (List Int) → Option (List Int)
  | x364 =>
    (app ([] : List Int) x364).bind fun x374 =>
    some (x374)

def bits_Div32 (n : Nat) : Int → Int → Int → Option (Int × Int)
  | x381, x382, x383 =>
    ((cond (x383 != 0)
    (some ((decide (x383 ≤ x381))))
    (some (false)) : Option Bool).bind fun x389 =>
    cond x389
    (none)
    (some (())) : Option Unit).bind fun _ =>
    (need (decide ((IntKind.u64.wrap x383) ≠ 0))).bind fun _ =>
    (need (decide ((IntKind.u64.wrap x383) ≠ 0))).bind fun _ =>
    some (((IntKind.u32.wrap (IntKind.u64.wrap ((ib .or .u64 (IntKind.u64.wrap ((IntKind.u64.wrap x381) * 2 ^ min (32 : Int).toNat (IntKind.u64).bits)) (IntKind.u64.wrap x382)).tdiv (IntKind.u64.wrap x383)))), (IntKind.u32.wrap ((ib .or .u64 (IntKind.u64.wrap ((IntKind.u64.wrap x381) * 2 ^ min (32 : Int).toNat (IntKind.u64).bits)) (IntKind.u64.wrap x382)).tmod (IntKind.u64.wrap x383)))))

def integer_short_L1 (n : Nat) (x395 : (List Int)) (x398 : Int) : ((List Int) × Int × Int) → Option (Out ((List Int) × Int × Int) ((List Int) × Int))
  | (x523, x527, x528) =>
    cond (decide (x528 ≥ 0))
    ((idx x395 x528).bind fun x562 =>
    (bits_Div32 n x527 x562 x398).bind fun (x568, x569) =>
    (idx x523 x528).bind fun x572 =>
    some (.go ((upd x523 x528 x568), x569, (IntKind.i64.wrap (x528 - 1)))))
    (some (.done (x523, x527)))

def integer_short (n : Nat) : (List Int) → Int → Option ((List Int) × Int)
  | x395, x398 =>
    (mk (x395.length : Int) 0).bind fun x400 =>
    (loopN (integer_short_L1 n x395 x398) n (x400, 0, (IntKind.i64.wrap ((x395.length : Int) - 1))) : Option ((List Int) × Int)).bind fun (x492, x496) =>
    some ((x492, x496))

def bits_Len32 (n : Nat) : Int → Option Int
  | x587 =>
    (cond (decide (x587 ≥ 65536))
    (some (((x587.fdiv (2 ^ min (16 : Int).toNat (IntKind.u32).bits)), 16)))
    (some ((x587, 0))) : Option (Int × Int)).bind fun (x588, x589) =>
    (cond (decide (x588 ≥ 256))
    (some (((x588.fdiv (2 ^ min (8 : Int).toNat (IntKind.u32).bits)), (IntKind.i64.wrap (x589 + 8)))))
    (some ((x588, x589))) : Option (Int × Int)).bind fun (x592, x593) =>
    (bidx (ByteArray.mk #[0, 1, 2, 2, 3, 3, 3, 3, 4, 4, 4, 4, 4, 4, 4, 4, 5, 5, 5, 5, 5, 5, 5, 5, 5, 5, 5, 5, 5, 5, 5, 5, 6, 6, 6, 6, 6, 6, 6, 6, 6, 6, 6, 6, 6, 6, 6, 6, 6, 6, 6, 6, 6, 6, 6, 6, 6, 6, 6, 6, 6, 6, 6, 6, 7, 7, 7, 7, 7, 7, 7, 7, 7, 7, 7, 7, 7, 7, 7, 7, 7, 7, 7, 7, 7, 7, 7, 7, 7, 7, 7, 7, 7, 7, 7, 7, 7, 7, 7, 7, 7, 7, 7, 7, 7, 7, 7, 7, 7, 7, 7, 7, 7, 7, 7, 7, 7, 7, 7, 7, 7, 7, 7, 7, 7, 7, 7, 7, 8, 8, 8, 8, 8, 8, 8, 8, 8, 8, 8, 8, 8, 8, 8, 8, 8, 8, 8, 8, 8, 8, 8, 8, 8, 8, 8, 8, 8, 8, 8, 8, 8, 8, 8, 8, 8, 8, 8, 8, 8, 8, 8, 8, 8, 8, 8, 8, 8, 8, 8, 8, 8, 8, 8, 8, 8, 8, 8, 8, 8, 8, 8, 8, 8, 8, 8, 8, 8, 8, 8, 8, 8, 8, 8, 8, 8, 8, 8, 8, 8, 8, 8, 8, 8, 8, 8, 8, 8, 8, 8, 8, 8, 8, 8, 8, 8, 8, 8, 8, 8, 8, 8, 8, 8, 8, 8, 8, 8, 8, 8, 8, 8, 8, 8, 8, 8, 8, 8, 8, 8, 8, 8, 8, 8, 8, 8, 8]) (IntKind.u8.wrap x592)).bind fun x596 =>
    some ((IntKind.i64.wrap (x593 + (IntKind.i64.wrap x596))))

def bits_LeadingZeros32 (n : Nat) : Int → Option Int
  | x598 =>
    (bits_Len32 n x598).bind fun x599 =>
    some ((IntKind.i64.wrap (32 - x599)))

def integer_shifted_L1 (x602 : (List Int)) (x605 : Int) : ((List Int) × Int) → Option (Out ((List Int) × Int) (List Int))
  | (x800, x804) =>
    cond (decide (x804 < (x602.length : Int)))
    ((idx x602 x804).bind fun x855 =>
    (need (decide (0 ≤ x605))).bind fun _ =>
    (idx x800 x804).bind fun x862 =>
    (idx x800 x804).bind fun x870 =>
    (idx (upd x800 x804 (ib .or .u32 x862 (IntKind.u32.wrap (IntKind.u64.wrap ((IntKind.u64.wrap x855) * 2 ^ min x605.toNat (IntKind.u64).bits))))) (IntKind.i64.wrap (x804 + 1))).bind fun x883 =>
    some (.go ((upd (upd x800 x804 (ib .or .u32 x862 (IntKind.u32.wrap (IntKind.u64.wrap ((IntKind.u64.wrap x855) * 2 ^ min x605.toNat (IntKind.u64).bits))))) (IntKind.i64.wrap (x804 + 1)) (IntKind.u32.wrap ((IntKind.u64.wrap ((IntKind.u64.wrap x855) * 2 ^ min x605.toNat (IntKind.u64).bits)).fdiv (2 ^ min (32 : Int).toNat (IntKind.u64).bits)))), (IntKind.i64.wrap (x804 + 1)))))
    (some (.done x800))

def integer_shifted (n : Nat) : (List Int) → Int → Option (List Int)
  | x602, x605 =>
    (mk (IntKind.i64.wrap ((x602.length : Int) + 1)) 0).bind fun x608 =>
    (loopN (integer_shifted_L1 x602 x605) n (x608, 0) : Option (List Int)).bind fun x752 =>
    some (x752)

def bits_Sub32 (n : Nat) : Int → Int → Int → Option (Int × Int)
  | x897, x898, x899 =>
    some (((IntKind.u32.wrap ((IntKind.u32.wrap (x897 - x898)) - x899)), ((ib .or .u32 (ib .and .u32 (ib .xor .u32 (if (IntKind.u32).signed then -1 else (IntKind.u32).max) x897) x898) (ib .and .u32 (ib .xor .u32 (if (IntKind.u32).signed then -1 else (IntKind.u32).max) (ib .xor .u32 x897 x898)) (IntKind.u32.wrap ((IntKind.u32.wrap (x897 - x898)) - x899)))).fdiv (2 ^ min (31 : Int).toNat (IntKind.u32).bits))))

def bits_Add32 (n : Nat) : Int → Int → Int → Option (Int × Int)
  | x900, x901, x902 =>
    some (((IntKind.u32.wrap (IntKind.u64.wrap ((IntKind.u64.wrap ((IntKind.u64.wrap x900) + (IntKind.u64.wrap x901))) + (IntKind.u64.wrap x902)))), (IntKind.u32.wrap ((IntKind.u64.wrap ((IntKind.u64.wrap ((IntKind.u64.wrap x900) + (IntKind.u64.wrap x901))) + (IntKind.u64.wrap x902))).fdiv (2 ^ min (32 : Int).toNat (IntKind.u64).bits)))))

def integer_divide_L91 (x980 : (List Int)) (x9748 : (List Int)) (x9756 : Int) : (Int × Int) → Option (Out (Int × Int) Int)
  | (x13261, x13262) =>
    (cond (decide (x13261 ≥ 4294967296))
    (some (true))
    ((idx x980 (IntKind.i64.wrap ((x980.length : Int) - 2))).bind fun x13332 =>
    (idx x9748 (IntKind.i64.wrap ((IntKind.i64.wrap (x9756 + (x980.length : Int))) - 2))).bind fun x13338 =>
    some ((decide ((IntKind.u64.wrap (x13261 * (IntKind.u64.wrap x13332))) > (ib .or .u64 (IntKind.u64.wrap (x13262 * 2 ^ min (32 : Int).toNat (IntKind.u64).bits)) (IntKind.u64.wrap x13338)))))) : Option Bool).bind fun x13327 =>
    cond x13327
    ((idx x980 (IntKind.i64.wrap ((x980.length : Int) - 1))).bind fun x13347 =>
    cond (decide ((IntKind.u64.wrap (x13262 + (IntKind.u64.wrap x13347))) ≥ 4294967296))
    (some (.done (IntKind.u64.wrap (x13261 - 1))))
    (some (.go ((IntKind.u64.wrap (x13261 - 1)), (IntKind.u64.wrap (x13262 + (IntKind.u64.wrap x13347)))))))
    (some (.done x13261))

def integer_divide_L93 (n : Nat) (x980 : (List Int)) (x9756 : Int) (x13215 : Int) : ((List Int) × Int × Int × Int) → Option (Out ((List Int) × Int × Int × Int) ((List Int) × Int × Int))
  | (x13507, x13511, x13512, x13513) =>
    cond (decide (x13513 < (x980.length : Int)))
    ((idx x980 x13513).bind fun x13556 =>
    (idx x13507 (IntKind.i64.wrap (x13513 + x9756))).bind fun x13562 =>
    (bits_Sub32 n x13562 (IntKind.u32.wrap (IntKind.u64.wrap ((IntKind.u64.wrap (x13215 * (IntKind.u64.wrap x13556))) + x13511))) x13512).bind fun (x13570, x13571) =>
    (idx x13507 (IntKind.i64.wrap (x13513 + x9756))).bind fun x13574 =>
    some (.go ((upd x13507 (IntKind.i64.wrap (x13513 + x9756)) x13570), ((IntKind.u64.wrap ((IntKind.u64.wrap (x13215 * (IntKind.u64.wrap x13556))) + x13511)).fdiv (2 ^ min (32 : Int).toNat (IntKind.u64).bits)), x13571, (IntKind.i64.wrap (x13513 + 1)))))
    (some (.done (x13507, x13511, x13512)))

def integer_divide_L97 (n : Nat) (x980 : (List Int)) (x9756 : Int) : ((List Int) × Int × Int) → Option (Out ((List Int) × Int × Int) ((List Int) × Int))
  | (x14019, x14023, x14024) =>
    cond (decide (x14024 < (x980.length : Int)))
    ((idx x980 x14024).bind fun x14066 =>
    (idx x14019 (IntKind.i64.wrap (x14024 + x9756))).bind fun x14072 =>
    (bits_Add32 n x14072 x14066 x14023).bind fun (x14080, x14081) =>
    (idx x14019 (IntKind.i64.wrap (x14024 + x9756))).bind fun x14084 =>
    some (.go ((upd x14019 (IntKind.i64.wrap (x14024 + x9756)) x14080), x14081, (IntKind.i64.wrap (x14024 + 1)))))
    (some (.done (x14019, x14023)))

def integer_divide_L81 (n : Nat) (x980 : (List Int)) : ((List Int) × (List Int) × Int) → Option (Out ((List Int) × (List Int) × Int) ((List Int) × (List Int)))
  | (x9748, x9752, x9756) =>
    cond (decide (x9756 ≥ 0))
    (((idx x9748 (IntKind.i64.wrap (x9756 + (x980.length : Int)))).bind fun x13047 =>
    (idx x9748 (IntKind.i64.wrap ((IntKind.i64.wrap (x9756 + (x980.length : Int))) - 1))).bind fun x13055 =>
    (idx x980 (IntKind.i64.wrap ((x980.length : Int) - 1))).bind fun x13064 =>
    (need (decide ((IntKind.u64.wrap x13064) ≠ 0))).bind fun _ =>
    (idx x980 (IntKind.i64.wrap ((x980.length : Int) - 1))).bind fun x13071 =>
    (need (decide ((IntKind.u64.wrap x13071) ≠ 0))).bind fun _ =>
    (loopN (integer_divide_L91 x980 x9748 x9756) n ((IntKind.u64.wrap ((ib .or .u64 (IntKind.u64.wrap ((IntKind.u64.wrap x13047) * 2 ^ min (32 : Int).toNat (IntKind.u64).bits)) (IntKind.u64.wrap x13055)).tdiv (IntKind.u64.wrap x13064))), ((ib .or .u64 (IntKind.u64.wrap ((IntKind.u64.wrap x13047) * 2 ^ min (32 : Int).toNat (IntKind.u64).bits)) (IntKind.u64.wrap x13055)).tmod (IntKind.u64.wrap x13071))) : Option Int).bind fun x13215 =>
    (loopN (integer_divide_L93 n x980 x9756 x13215) n (x9748, 0, 0, 0) : Option ((List Int) × Int × Int)).bind fun (x13467, x13471, x13472) =>
    (idx x13467 (IntKind.i64.wrap (x9756 + (x980.length : Int)))).bind fun x13588 =>
    (bits_Sub32 n x13588 (IntKind.u32.wrap x13471) x13472).bind fun (x13596, x13597) =>
    (idx x13467 (IntKind.i64.wrap (x9756 + (x980.length : Int)))).bind fun x13600 =>
    (cond (x13597 != 0)
    ((loopN (integer_divide_L97 n x980 x9756) n ((upd x13467 (IntKind.i64.wrap (x9756 + (x980.length : Int))) x13596), 0, 0) : Option ((List Int) × Int)).bind fun (x13980, x13984) =>
    (idx x13980 (IntKind.i64.wrap (x9756 + (x980.length : Int)))).bind fun x14098 =>
    (idx x13980 (IntKind.i64.wrap (x9756 + (x980.length : Int)))).bind fun x14106 =>
    some (((upd x13980 (IntKind.i64.wrap (x9756 + (x980.length : Int))) (IntKind.u32.wrap (x14098 + x13984))), (IntKind.u64.wrap (x13215 - 1)))))
    (some (((upd x13467 (IntKind.i64.wrap (x9756 + (x980.length : Int))) x13596), x13215))) : Option ((List Int) × Int)).bind fun (x13862, x13866) =>
    (idx x9752 x9756).bind fun x14119 =>
    some ((x13862, (upd x9752 x9756 (IntKind.u32.wrap x13866)))) : Option ((List Int) × (List Int))).bind fun (x13036, x13040) =>
    some (.go (x13036, x13040, (IntKind.i64.wrap (x9756 - 1)))))
    (some (.done (x9748, x9752)))

def integer_divide_L99 (x943 : Int) (x7556 : (List Int)) (x14133 : (List Int)) : ((List Int) × Int) → Option (Out ((List Int) × Int) (List Int))
  | (x14285, x14289) =>
    cond (decide (x14289 < (x14133.length : Int)))
    ((idx x7556 (IntKind.i64.wrap (x14289 + 1))).bind fun x14331 =>
    (idx x7556 x14289).bind fun x14339 =>
    (need (decide (0 ≤ (IntKind.u64.wrap x943)))).bind fun _ =>
    (idx x14285 x14289).bind fun x14348 =>
    some (.go ((upd x14285 x14289 (IntKind.u32.wrap ((ib .or .u64 (IntKind.u64.wrap ((IntKind.u64.wrap x14331) * 2 ^ min (32 : Int).toNat (IntKind.u64).bits)) (IntKind.u64.wrap x14339)).fdiv (2 ^ min (IntKind.u64.wrap x943).toNat (IntKind.u64).bits)))), (IntKind.i64.wrap (x14289 + 1)))))
    (some (.done x14285))

def integer_divide (n : Nat) : (List Int) → (List Int) → Option ((List Int) × (List Int))
  | x903, x906 =>
    (integer_compare n x903 x906).bind fun x911 =>
    cond (decide (x911 < 0))
    ((slices_Cloneuint32_uint32_ n x903).bind fun x914 =>
    some (([], x914)))
    (cond ((x906.length : Int) == 1)
    ((idx x906 0).bind fun x920 =>
    (integer_short n x903 x920).bind fun (x926, x927) =>
    some ((x926, [x927])))
    ((idx x906 (IntKind.i64.wrap ((x906.length : Int) - 1))).bind fun x937 =>
    (bits_LeadingZeros32 n x937).bind fun x943 =>
    (integer_shifted n x903 (IntKind.u64.wrap x943)).bind fun x965 =>
    (integer_shifted n x906 (IntKind.u64.wrap x943)).bind fun x972 =>
    (cut x972 0 (x906.length : Int)).bind fun x980 =>
    (mk (IntKind.i64.wrap ((x965.length : Int) - (x980.length : Int))) 0).bind fun x984 =>
    (loopN (integer_divide_L81 n x980) n (x965, x984, (IntKind.i64.wrap ((IntKind.i64.wrap ((x965.length : Int) - (x980.length : Int))) - 1))) : Option ((List Int) × (List Int))).bind fun (x7556, x7560) =>
    (mk (x980.length : Int) 0).bind fun x14133 =>
    (loopN (integer_divide_L99 x943 x7556 x14133) n (x14133, 0) : Option (List Int)).bind fun x14247 =>
    some ((x7560, x14247))))

def integer_plus_L1 (n : Nat) (x14371 : (List Int)) (x14374 : (List Int)) : ((List Int) × Int × Int) → Option (Out ((List Int) × Int × Int) ((List Int) × Int))
  | (x14553, x14557, x14558) =>
    cond (decide (x14558 < (x14371.length : Int)))
    ((idx x14371 x14558).bind fun x14606 =>
    (cond (decide (x14558 < (x14374.length : Int)))
    ((idx x14374 x14558).bind fun x14621 =>
    some (x14621))
    (some (0)) : Option Int).bind fun x14618 =>
    (bits_Add32 n x14606 x14618 x14557).bind fun (x14627, x14628) =>
    (app x14553 [x14627]).bind fun x14635 =>
    some (.go (x14635, x14628, (IntKind.i64.wrap (x14558 + 1)))))
    (some (.done (x14553, x14557)))

def integer_plus (n : Nat) : (List Int) → (List Int) → Option (List Int)
  | x14364, x14367 =>
    (cond (decide ((x14364.length : Int) < (x14367.length : Int)))
    (some ((x14367, x14364)))
    (some ((x14364, x14367))) : Option ((List Int) × (List Int))).bind fun (x14371, x14374) =>
    (mkc 0 (IntKind.i64.wrap ((x14371.length : Int) + 1)) 0).bind fun x14379 =>
    (loopN (integer_plus_L1 n x14371 x14374) n (x14379, 0, 0) : Option ((List Int) × Int)).bind fun (x14509, x14513) =>
    (app x14509 [x14513]).bind fun x14646 =>
    some (x14646)

def integer_minus_L1 (n : Nat) (x14653 : (List Int)) (x14656 : (List Int)) : ((List Int) × Int × Int) → Option (Out ((List Int) × Int × Int) (List Int))
  | (x14833, x14837, x14838) =>
    cond (decide (x14838 < (x14653.length : Int)))
    ((idx x14653 x14838).bind fun x14886 =>
    (cond (decide (x14838 < (x14656.length : Int)))
    ((idx x14656 x14838).bind fun x14901 =>
    some (x14901))
    (some (0)) : Option Int).bind fun x14898 =>
    (bits_Sub32 n x14886 x14898 x14837).bind fun (x14907, x14908) =>
    (app x14833 [x14907]).bind fun x14915 =>
    some (.go (x14915, x14908, (IntKind.i64.wrap (x14838 + 1)))))
    (some (.done x14833))

def integer_minus (n : Nat) : (List Int) → (List Int) → Option (List Int)
  | x14653, x14656 =>
    (mkc 0 (x14653.length : Int) 0).bind fun x14660 =>
    (loopN (integer_minus_L1 n x14653 x14656) n (x14660, 0, 0) : Option (List Int)).bind fun x14790 =>
    some (x14790)

def integer_Add (n : Nat) : Int_2 → Int_2 → Option Int_2
  | x14923, x14926 =>
    (integer_trim n x14923.Mag).bind fun x14954 =>
    (integer_trim n x14926.Mag).bind fun x14960 =>
    cond (x14923.Neg == x14926.Neg)
    ((integer_plus n x14954 x14960).bind fun x14979 =>
    (integer_made n x14923.Neg x14979).bind fun x14985 =>
    some ((Int_2.mk x14985.Neg x14985.Mag)))
    ((integer_compare n x14954 x14960).bind fun x14992 =>
    cond (decide (x14992 ≥ 0))
    ((integer_minus n x14954 x14960).bind fun x15008 =>
    (integer_made n x14923.Neg x15008).bind fun x15014 =>
    some ((Int_2.mk x15014.Neg x15014.Mag)))
    ((integer_minus n x14960 x14954).bind fun x15034 =>
    (integer_made n x14926.Neg x15034).bind fun x15040 =>
    some ((Int_2.mk x15040.Neg x15040.Mag))))

def integer_DivMod (n : Nat) : Int_2 → Int_2 → Option (Int_2 × Int_2 × Int)
  | x15260, x15263 =>
    (integer_trim n x15260.Mag).bind fun x15294 =>
    (integer_trim n x15263.Mag).bind fun x15300 =>
    cond ((x15300.length : Int) == 0)
    (some (((Int_2.mk false []), (Int_2.mk false []), 10)))
    ((integer_divide n x15294 x15300).bind fun (x15308, x15309) =>
    ((integer_made n (!(x15260.Neg == x15263.Neg)) x15308).bind fun x15799 =>
    (integer_made n x15260.Neg x15309).bind fun x15805 =>
    some ((x15799.Neg, x15799.Mag, x15805.Neg, x15805.Mag)) : Option (Bool × (List Int) × Bool × (List Int))).bind fun (x15630, x15631, x15635, x15636) =>
    (cond x15635
    ((integer_Add n (Int_2.mk x15635 x15636) (Int_2.mk false x15300)).bind fun x15997 =>
    (integer_Add n (Int_2.mk x15630 x15631) (Int_2.mk (!x15263.Neg) [1])).bind fun x16012 =>
    some ((x16012.Neg, x16012.Mag, x15997.Neg, x15997.Mag)))
    (some ((x15630, x15631, x15635, x15636))) : Option (Bool × (List Int) × Bool × (List Int))).bind fun (x15981, x15982, x15985, x15986) =>
    some (((Int_2.mk x15981 x15982), (Int_2.mk x15985 x15986), 0)))

def integer_Small_L1 (x16031 : (List Int)) : (Int × Int) → Option (Out (Int × Int) Int)
  | (x16076, x16077) =>
    cond (decide (x16077 < (x16031.length : Int)))
    ((idx x16031 x16077).bind fun x16090 =>
    (need (decide (0 ≤ (IntKind.i64.wrap (32 * x16077))))).bind fun _ =>
    some (.go ((ib .or .u64 x16076 (IntKind.u64.wrap ((IntKind.u64.wrap x16090) * 2 ^ min (IntKind.i64.wrap (32 * x16077)).toNat (IntKind.u64).bits))), (IntKind.i64.wrap (x16077 + 1)))))
    (some (.done x16076))

def integer_Small (n : Nat) : Int_2 → Option (Int × Bool)
  | x16023 =>
    (integer_trim n x16023.Mag).bind fun x16031 =>
    cond (decide ((x16031.length : Int) > 2))
    (some ((0, false)))
    ((loopN (integer_Small_L1 x16031) n (0, 0) : Option Int).bind fun x16066 =>
    (cond x16023.Neg
    (some ((decide (x16066 ≤ 9223372036854775808))))
    (some (false)) : Option Bool).bind fun x16098 =>
    cond x16098
    (some (((IntKind.i64.wrap (IntKind.u64.wrap (0 - x16066))), true)))
    ((cond (!x16023.Neg)
    (some ((decide (x16066 < 9223372036854775808))))
    (some (false)) : Option Bool).bind fun x16101 =>
    cond x16101
    (some (((IntKind.i64.wrap x16066), true)))
    (some ((0, false)))))

def integer_Sign (n : Nat) : Int_2 → Option Int
  | x16104 =>
    (integer_trim n x16104.Mag).bind fun x16112 =>
    cond ((x16112.length : Int) == 0)
    (some (0))
    (cond x16104.Neg
    (some ((-1)))
    (some (1)))

def integer_Bits (n : Nat) : Int_2 → Option Int
  | x16118 =>
    (integer_trim n x16118.Mag).bind fun x16126 =>
    cond ((x16126.length : Int) == 0)
    (some (0))
    ((idx x16126 (IntKind.i64.wrap ((x16126.length : Int) - 1))).bind fun x16132 =>
    (bits_Len32 n x16132).bind fun x16138 =>
    some ((IntKind.i64.wrap ((IntKind.i64.wrap (32 * (IntKind.i64.wrap ((x16126.length : Int) - 1)))) + x16138))))

def integer_Cmp (n : Nat) : Int_2 → Int_2 → Option Int
  | x16141, x16144 =>
    (integer_Sign n (Int_2.mk x16141.Neg x16141.Mag)).bind fun x16157 =>
    (integer_Sign n (Int_2.mk x16144.Neg x16144.Mag)).bind fun x16159 =>
    cond (decide (x16157 < x16159))
    (some ((-1)))
    (cond (decide (x16157 > x16159))
    (some (1))
    ((integer_trim n x16141.Mag).bind fun x16177 =>
    (integer_trim n x16144.Mag).bind fun x16183 =>
    (integer_compare n x16177 x16183).bind fun x16189 =>
    some ((IntKind.i64.wrap (x16157 * x16189)))))

def integer_Sqrt_L0 (n : Nat) (x16192 : Int_2) : (Bool × (List Int)) → Option (Out (Bool × (List Int)) (Int_2 × Int))
  | (x16290, x16291) =>
    (integer_DivMod n (Int_2.mk x16192.Neg x16192.Mag) (Int_2.mk x16290 x16291)).bind fun (x16353, x16354, x16355) =>
    (integer_Add n (Int_2.mk x16290 x16291) (Int_2.mk x16353.Neg x16353.Mag)).bind fun x16369 =>
    (integer_Of n 2).bind fun x16375 =>
    (integer_DivMod n x16369 x16375).bind fun (x16381, x16382, x16383) =>
    (integer_Cmp n (Int_2.mk x16381.Neg x16381.Mag) (Int_2.mk x16290 x16291)).bind fun x16397 =>
    cond (decide (x16397 ≥ 0))
    (some (.done ((Int_2.mk x16290 x16291), 0)))
    (some (.go (x16381.Neg, x16381.Mag)))

def integer_Sqrt (n : Nat) : Int_2 → Option (Int_2 × Int)
  | x16192 =>
    (integer_Sign n (Int_2.mk x16192.Neg x16192.Mag)).bind fun x16203 =>
    cond (x16203 == (-1))
    (some (((Int_2.mk false []), 2)))
    (cond (x16203 == 0)
    (some (((Int_2.mk false []), 0)))
    ((integer_Bits n (Int_2.mk x16192.Neg x16192.Mag)).bind fun x16208 =>
    (mk (IntKind.i64.wrap ((IntKind.i64.wrap ((IntKind.i64.wrap ((IntKind.i64.wrap (x16208 + 1)).tdiv 2)).tdiv 32)) + 1)) 0).bind fun x16211 =>
    (need (decide (0 ≤ ((IntKind.i64.wrap ((IntKind.i64.wrap (x16208 + 1)).tdiv 2)).tmod 32)))).bind fun _ =>
    (idx x16211 (IntKind.i64.wrap ((IntKind.i64.wrap ((IntKind.i64.wrap (x16208 + 1)).tdiv 2)).tdiv 32))).bind fun x16218 =>
    (integer_made n false (upd x16211 (IntKind.i64.wrap ((IntKind.i64.wrap ((IntKind.i64.wrap (x16208 + 1)).tdiv 2)).tdiv 32)) (IntKind.u32.wrap ((1 : Int) * 2 ^ min ((IntKind.i64.wrap ((IntKind.i64.wrap (x16208 + 1)).tdiv 2)).tmod 32).toNat (IntKind.u32).bits)))).bind fun x16232 =>
    loopN (integer_Sqrt_L0 n x16192) n (x16232.Neg, x16232.Mag)))

def stringslite_HasPrefix (n : Nat) : ByteArray → ByteArray → Option Bool
  | x16403, x16404 =>
    (cond (decide ((x16403.size : Int) ≥ (x16404.size : Int)))
    ((scut x16403 0 (x16404.size : Int)).bind fun x16410 =>
    some ((x16410.toList == x16404.toList)))
    (some (false)) : Option Bool).bind fun x16407 =>
    some (x16407)

def stringslite_CutPrefix (n : Nat) : ByteArray → ByteArray → Option (ByteArray × Bool)
  | x16412, x16413 =>
    (stringslite_HasPrefix n x16412 x16413).bind fun x16414 =>
    cond (!x16414)
    (some ((x16412, false)))
    ((scut x16412 (x16413.size : Int) (x16412.size : Int)).bind fun x16417 =>
    some ((x16417, true)))

def strings_CutPrefix (n : Nat) : ByteArray → ByteArray → Option (ByteArray × Bool)
  | x16419, x16420 =>
    (stringslite_CutPrefix n x16419 x16420).bind fun (x16421, x16422) =>
    some ((x16421, x16422))

def strings_makeASCIISet_L1 (x16425 : ByteArray) : ((List Bool) × Int) → Option (Out ((List Bool) × Int) (Out (List Bool) ((List Bool) × Bool)))
  | (x16495, x16498) =>
    cond (decide (x16498 < (x16425.size : Int)))
    ((bidx x16425 x16498).bind fun x16518 =>
    cond (decide (x16518 ≥ 128))
    (some (.done (.done (x16495, false))))
    ((idx x16495 x16518).bind fun x16524 =>
    some (.go ((upd x16495 x16518 true), (IntKind.i64.wrap (x16498 + 1))))))
    (some (.done (.go x16495)))

def strings_makeASCIISet (n : Nat) : ByteArray → Option ((List Bool) × Bool)
  | x16425 =>
    (loopN (strings_makeASCIISet_L1 x16425) n ((List.replicate 256 false), 0) : Option (Out (List Bool) ((List Bool) × Bool))).bind fun y16482 => (match y16482 with
    | .go x16478 =>
    some ((x16478, true))
    | .done r => some r)

def strings_asciiSet_contains (n : Nat) : (List Bool) → Int → Option (Bool × (List Bool))
  | x16534, x16538 =>
    (idx x16534 x16538).bind fun x16540 =>
    some ((x16540, x16534))

def strings_trimRightASCII_L1 (n : Nat) : (ByteArray × (List Bool)) → Option (Out (ByteArray × (List Bool)) (ByteArray × (List Bool)))
  | (x16616, x16617) =>
    cond (decide ((x16616.size : Int) > 0))
    ((bidx x16616 (IntKind.i64.wrap ((x16616.size : Int) - 1))).bind fun x16641 =>
    (strings_asciiSet_contains n x16617 x16641).bind fun (x16643, x16644) =>
    cond (!x16643)
    (some (.done (x16616, x16644)))
    ((scut x16616 0 (IntKind.i64.wrap ((x16616.size : Int) - 1))).bind fun x16651 =>
    some (.go (x16651, x16644))))
    (some (.done (x16616, x16617)))

def strings_trimRightASCII (n : Nat) : ByteArray → (List Bool) → Option (ByteArray × (List Bool))
  | x16542, x16543 =>
    (loopN (strings_trimRightASCII_L1 n) n (x16542, x16543) : Option (ByteArray × (List Bool))).bind fun (x16597, x16598) =>
    some ((x16597, x16598))

def strings_trimLeftASCII_L1 (n : Nat) : (ByteArray × (List Bool)) → Option (Out (ByteArray × (List Bool)) (ByteArray × (List Bool)))
  | (x16728, x16729) =>
    cond (decide ((x16728.size : Int) > 0))
    ((bidx x16728 0).bind fun x16753 =>
    (strings_asciiSet_contains n x16729 x16753).bind fun (x16755, x16756) =>
    cond (!x16755)
    (some (.done (x16728, x16756)))
    ((scut x16728 1 (x16728.size : Int)).bind fun x16763 =>
    some (.go (x16763, x16756))))
    (some (.done (x16728, x16729)))

def strings_trimLeftASCII (n : Nat) : ByteArray → (List Bool) → Option (ByteArray × (List Bool))
  | x16654, x16655 =>
    (loopN (strings_trimLeftASCII_L1 n) n (x16654, x16655) : Option (ByteArray × (List Bool))).bind fun (x16709, x16710) =>
    some ((x16709, x16710))

def strings_Trim (n : Nat) : ByteArray → ByteArray → Option ByteArray
  | x16766, x16767 =>
    (cond (x16766.toList == (ByteArray.mk #[]).toList)
    (some (true))
    (some ((x16767.toList == (ByteArray.mk #[]).toList))) : Option Bool).bind fun x16768 =>
    cond x16768
    (some (x16766))
    ((cond ((x16767.size : Int) == 1)
    ((bidx x16767 0).bind fun x16776 =>
    some ((decide (x16776 < 128))))
    (some (false)) : Option Bool).bind fun x16773 =>
    cond x16773
    (none)
    ((strings_makeASCIISet n x16767).bind fun (x16778, x16779) =>
    cond x16779
    ((strings_trimRightASCII n x16766 x16778).bind fun (x16791, x16792) =>
    (strings_trimLeftASCII n x16791 x16792).bind fun (x16798, x16799) =>
    some (x16798))
    (none)))

def bits_Len64 (n : Nat) : Int → Option Int
  | x16805 =>
    (cond (decide (x16805 ≥ 4294967296))
    (some (((x16805.fdiv (2 ^ min (32 : Int).toNat (IntKind.u64).bits)), 32)))
    (some ((x16805, 0))) : Option (Int × Int)).bind fun (x16806, x16807) =>
    (cond (decide (x16806 ≥ 65536))
    (some (((x16806.fdiv (2 ^ min (16 : Int).toNat (IntKind.u64).bits)), (IntKind.i64.wrap (x16807 + 16)))))
    (some ((x16806, x16807))) : Option (Int × Int)).bind fun (x16810, x16811) =>
    (cond (decide (x16810 ≥ 256))
    (some (((x16810.fdiv (2 ^ min (8 : Int).toNat (IntKind.u64).bits)), (IntKind.i64.wrap (x16811 + 8)))))
    (some ((x16810, x16811))) : Option (Int × Int)).bind fun (x16814, x16815) =>
    (bidx (ByteArray.mk #[0, 1, 2, 2, 3, 3, 3, 3, 4, 4, 4, 4, 4, 4, 4, 4, 5, 5, 5, 5, 5, 5, 5, 5, 5, 5, 5, 5, 5, 5, 5, 5, 6, 6, 6, 6, 6, 6, 6, 6, 6, 6, 6, 6, 6, 6, 6, 6, 6, 6, 6, 6, 6, 6, 6, 6, 6, 6, 6, 6, 6, 6, 6, 6, 7, 7, 7, 7, 7, 7, 7, 7, 7, 7, 7, 7, 7, 7, 7, 7, 7, 7, 7, 7, 7, 7, 7, 7, 7, 7, 7, 7, 7, 7, 7, 7, 7, 7, 7, 7, 7, 7, 7, 7, 7, 7, 7, 7, 7, 7, 7, 7, 7, 7, 7, 7, 7, 7, 7, 7, 7, 7, 7, 7, 7, 7, 7, 7, 8, 8, 8, 8, 8, 8, 8, 8, 8, 8, 8, 8, 8, 8, 8, 8, 8, 8, 8, 8, 8, 8, 8, 8, 8, 8, 8, 8, 8, 8, 8, 8, 8, 8, 8, 8, 8, 8, 8, 8, 8, 8, 8, 8, 8, 8, 8, 8, 8, 8, 8, 8, 8, 8, 8, 8, 8, 8, 8, 8, 8, 8, 8, 8, 8, 8, 8, 8, 8, 8, 8, 8, 8, 8, 8, 8, 8, 8, 8, 8, 8, 8, 8, 8, 8, 8, 8, 8, 8, 8, 8, 8, 8, 8, 8, 8, 8, 8, 8, 8, 8, 8, 8, 8, 8, 8, 8, 8, 8, 8, 8, 8, 8, 8, 8, 8, 8, 8, 8, 8, 8, 8, 8, 8, 8, 8, 8, 8]) (IntKind.u8.wrap x16814)).bind fun x16818 =>
    some ((IntKind.i64.wrap (x16815 + (IntKind.i64.wrap x16818))))

def integer_times_L25 (x16826 : (List Int)) (x18674 : Int) (x19367 : Int) : ((List Int) × Int × Int) → Option (Out ((List Int) × Int × Int) ((List Int) × Int))
  | (x19506, x19510, x19511) =>
    cond (decide (x19511 < (x16826.length : Int)))
    ((idx x16826 x19511).bind fun x19549 =>
    (idx x19506 (IntKind.i64.wrap (x18674 + x19511))).bind fun x19555 =>
    (idx x19506 (IntKind.i64.wrap (x18674 + x19511))).bind fun x19563 =>
    some (.go ((upd x19506 (IntKind.i64.wrap (x18674 + x19511)) (IntKind.u32.wrap (IntKind.u64.wrap ((IntKind.u64.wrap ((IntKind.u64.wrap ((IntKind.u64.wrap x19367) * (IntKind.u64.wrap x19549))) + (IntKind.u64.wrap x19555))) + x19510)))), ((IntKind.u64.wrap ((IntKind.u64.wrap ((IntKind.u64.wrap ((IntKind.u64.wrap x19367) * (IntKind.u64.wrap x19549))) + (IntKind.u64.wrap x19555))) + x19510)).fdiv (2 ^ min (32 : Int).toNat (IntKind.u64).bits)), (IntKind.i64.wrap (x19511 + 1)))))
    (some (.done (x19506, x19510)))

def integer_times_L21 (n : Nat) (x16823 : (List Int)) (x16826 : (List Int)) : ((List Int) × Int) → Option (Out ((List Int) × Int) (List Int))
  | (x18670, x18674) =>
    cond (decide (x18674 < (x16823.length : Int)))
    (((idx x16823 x18674).bind fun x19367 =>
    (loopN (integer_times_L25 x16826 x18674 x19367) n (x18670, 0, 0) : Option ((List Int) × Int)).bind fun (x19471, x19475) =>
    (idx x19471 (IntKind.i64.wrap (x18674 + (x16826.length : Int)))).bind fun x19577 =>
    some ((upd x19471 (IntKind.i64.wrap (x18674 + (x16826.length : Int))) (IntKind.u32.wrap x19475))) : Option (List Int)).bind fun x19360 =>
    some (.go (x19360, (IntKind.i64.wrap (x18674 + 1)))))
    (some (.done x18670))

def integer_times (n : Nat) : (List Int) → (List Int) → Option (List Int)
  | x16823, x16826 =>
    (mk (IntKind.i64.wrap ((x16823.length : Int) + (x16826.length : Int))) 0).bind fun x16830 =>
    (loopN (integer_times_L21 n x16823 x16826) n (x16830, 0) : Option (List Int)).bind fun x18210 =>
    some (x18210)

def integer_Parse_L1 (n : Nat) : (ByteArray × (List Int)) → Option (Out (ByteArray × (List Int)) (List Int))
  | (x19780, x19781) =>
    cond (decide ((x19780.size : Int) > 0))
    ((scut x19780 0 (IntKind.i64.wrap (((IntKind.i64.wrap ((x19780.size : Int) - 1)).tmod 9) + 1))).bind fun x19828 =>
    (strconv_ParseUint n x19828 10 32).bind fun (x19830, x19831) =>
    (integer_times n x19781 [1000000000]).bind fun x19838 =>
    (integer_plus n x19838 [(IntKind.u32.wrap x19830)]).bind fun x19848 =>
    (integer_trim n x19848).bind fun x19854 =>
    (scut x19780 (IntKind.i64.wrap (((IntKind.i64.wrap ((x19780.size : Int) - 1)).tmod 9) + 1)) (x19780.size : Int)).bind fun x19860 =>
    some (.go (x19860, x19854)))
    (some (.done x19781))

def integer_Parse (n : Nat) : ByteArray → Option (Int_2 × Int)
  | x19592 =>
    cond (decide ((x19592.size : Int) > 2000))
    (some (((Int_2.mk false []), 6)))
    ((strings_CutPrefix n x19592 (ByteArray.mk #[45])).bind fun (x19597, x19598) =>
    (cond (x19597.toList == (ByteArray.mk #[]).toList)
    (some (true))
    ((bidx x19597 0).bind fun x19613 =>
    cond (x19613 == 48)
    (cond (!(x19592.toList == (ByteArray.mk #[48]).toList))
    (some (true))
    ((strings_Trim n x19597 (ByteArray.mk #[48, 49, 50, 51, 52, 53, 54, 55, 56, 57])).bind fun x19615 =>
    some ((!(x19615.toList == (ByteArray.mk #[]).toList)))))
    ((strings_Trim n x19597 (ByteArray.mk #[48, 49, 50, 51, 52, 53, 54, 55, 56, 57])).bind fun x19618 =>
    some ((!(x19618.toList == (ByteArray.mk #[]).toList))))) : Option Bool).bind fun x19609 =>
    cond x19609
    (some (((Int_2.mk false []), 3)))
    ((loopN (integer_Parse_L1 n) n (x19597, []) : Option (List Int)).bind fun x19739 =>
    (integer_made n x19598 x19739).bind fun x19863 =>
    some (((Int_2.mk x19863.Neg x19863.Mag), 0))))

def ref01_trim_L1 : (List Int) → Option (Out (List Int) (List Int))
  | x19966 =>
    (cond (decide ((x19966.length : Int) > 0))
    ((idx x19966 (IntKind.i64.wrap ((x19966.length : Int) - 1))).bind fun x20003 =>
    some ((x20003 == 0)))
    (some (false)) : Option Bool).bind fun x20000 =>
    cond x20000
    ((cut x19966 0 (IntKind.i64.wrap ((x19966.length : Int) - 1))).bind fun x20009 =>
    some (.go x20009))
    (some (.done x19966))

def ref01_trim (n : Nat) : (List Int) → Option (List Int)
  | x19870 =>
    (loopN (ref01_trim_L1) n x19870 : Option (List Int)).bind fun x19942 =>
    (app ([] : List Int) x19942).bind fun x20018 =>
    some (x20018)

def ref01_Norm (n : Nat) : Int_2 → Option Int_2
  | x20024 =>
    (ref01_trim n x20024.Mag).bind fun x20035 =>
    (cond x20024.Neg
    (some (((decide ((x20035.length : Int) > 0)), x20035)))
    (some ((false, x20035))) : Option (Bool × (List Int))).bind fun (x20052, x20053) =>
    some ((Int_2.mk x20052 x20053))

def ref01_Of (n : Nat) : Int → Option Int_2
  | x20071 =>
    (cond (decide (x20071 < 0))
    (some ((IntKind.u64.wrap (0 - (IntKind.u64.wrap x20071)))))
    (some ((IntKind.u64.wrap x20071))) : Option Int).bind fun x20075 =>
    (ref01_Norm n (Int_2.mk (decide (x20071 < 0)) [(IntKind.u32.wrap x20075), (IntKind.u32.wrap (x20075.fdiv (2 ^ min (32 : Int).toNat (IntKind.u64).bits)))])).bind fun x20086 =>
    some ((Int_2.mk x20086.Neg x20086.Mag))

def ref01_Same_L1 (x20093 : Int_2) (x20096 : Int_2) : Int → Option (Out Int (Out Unit Bool))
  | x20175 =>
    cond (decide (x20175 < (x20093.Mag.length : Int)))
    ((idx x20093.Mag x20175).bind fun x20194 =>
    (idx x20096.Mag x20175).bind fun x20200 =>
    cond (x20194 != x20200)
    (some (.done (.done false)))
    (some (.go (IntKind.i64.wrap (x20175 + 1)))))
    (some (.done (.go ())))

def ref01_Same (n : Nat) : Int_2 → Int_2 → Option Bool
  | x20093, x20096 =>
    (cond (!(x20093.Neg == x20096.Neg))
    (some (true))
    (some (((x20093.Mag.length : Int) != (x20096.Mag.length : Int)))) : Option Bool).bind fun x20109 =>
    cond x20109
    (some (false))
    ((loopN (ref01_Same_L1 x20093 x20096) n 0 : Option (Out Unit Bool)).bind fun y20160 => (match y20160 with
    | .go _ =>
    some (true)
    | .done r => some r))

def bits_Mul32 (n : Nat) : Int → Int → Option (Int × Int)
  | x20211, x20212 =>
    some (((IntKind.u32.wrap ((IntKind.u64.wrap ((IntKind.u64.wrap x20211) * (IntKind.u64.wrap x20212))).fdiv (2 ^ min (32 : Int).toNat (IntKind.u64).bits))), (IntKind.u32.wrap (IntKind.u64.wrap ((IntKind.u64.wrap x20211) * (IntKind.u64.wrap x20212))))))

def bits_Mul64 (n : Nat) : Int → Int → Option (Int × Int)
  | x20213, x20214 =>
    some (((IntKind.u64.wrap ((IntKind.u64.wrap ((IntKind.u64.wrap ((x20213.fdiv (2 ^ min (32 : Int).toNat (IntKind.u64).bits)) * (x20214.fdiv (2 ^ min (32 : Int).toNat (IntKind.u64).bits)))) + ((IntKind.u64.wrap ((IntKind.u64.wrap ((x20213.fdiv (2 ^ min (32 : Int).toNat (IntKind.u64).bits)) * (ib .and .u64 x20214 4294967295))) + ((IntKind.u64.wrap ((ib .and .u64 x20213 4294967295) * (ib .and .u64 x20214 4294967295))).fdiv (2 ^ min (32 : Int).toNat (IntKind.u64).bits)))).fdiv (2 ^ min (32 : Int).toNat (IntKind.u64).bits)))) + ((IntKind.u64.wrap ((ib .and .u64 (IntKind.u64.wrap ((IntKind.u64.wrap ((x20213.fdiv (2 ^ min (32 : Int).toNat (IntKind.u64).bits)) * (ib .and .u64 x20214 4294967295))) + ((IntKind.u64.wrap ((ib .and .u64 x20213 4294967295) * (ib .and .u64 x20214 4294967295))).fdiv (2 ^ min (32 : Int).toNat (IntKind.u64).bits)))) 4294967295) + (IntKind.u64.wrap ((ib .and .u64 x20213 4294967295) * (x20214.fdiv (2 ^ min (32 : Int).toNat (IntKind.u64).bits)))))).fdiv (2 ^ min (32 : Int).toNat (IntKind.u64).bits)))), (IntKind.u64.wrap (x20213 * x20214))))

def bits_Mul (n : Nat) : Int → Int → Option (Int × Int)
  | x20215, x20216 =>
    (bits_Mul64 n x20215 x20216).bind fun (x20217, x20218) =>
    some ((x20217, x20218))

def strings_HasPrefix (n : Nat) : ByteArray → ByteArray → Option Bool
  | x20221, x20222 =>
    (stringslite_HasPrefix n x20221 x20222).bind fun x20223 =>
    some (x20223)

def slices_Reversestring_string__L0 : ((List ByteArray) × Int × Int) → Option (Out ((List ByteArray) × Int × Int) (List ByteArray))
  | (x20633, x20637, x20638) =>
    cond (decide (x20637 < x20638))
    (((idx x20633 x20638).bind fun x21203 =>
    (idx x20633 x20637).bind fun x21211 =>
    (idx x20633 x20637).bind fun x21219 =>
    (idx (upd x20633 x20637 x21203) x20638).bind fun x21232 =>
    some ((upd (upd x20633 x20637 x21203) x20638 x21211)) : Option (List ByteArray)).bind fun x21112 =>
    some (.go (x21112, (IntKind.i64.wrap (x20637 + 1)), (IntKind.i64.wrap (x20638 - 1)))))
    (some (.done x20633))

def slices_Reversestring_string_ (n : Nat) : (List ByteArray) → Option (List ByteArray)
  | x20317 =>
    loopN (slices_Reversestring_string__L0) n (x20317, 0, (IntKind.i64.wrap ((x20317.length : Int) - 1)))

def integer_Text_L1 (n : Nat) : ((List Int) × (List ByteArray)) → Option (Out ((List Int) × (List ByteArray)) (List ByteArray))
  | (x21480, x21483) =>
    cond (decide ((x21480.length : Int) > 0))
    ((integer_short n x21480 1000000000).bind fun (x21539, x21540) =>
    (integer_trim n x21539).bind fun x21546 =>
    (strconv_FormatUint n (IntKind.u64.wrap x21540) 10).bind fun x21552 =>
    (cond (decide ((x21546.length : Int) > 0))
    ((strings_Repeat n (ByteArray.mk #[48]) (IntKind.i64.wrap (9 - (x21552.size : Int)))).bind fun x21563 =>
    (need (decide (x21563.size + x21552.size ≤ 9223372036854775807))).bind fun _ =>
    some ((x21563 ++ x21552)))
    (some (x21552)) : Option ByteArray).bind fun x21559 =>
    (app x21483 [x21559]).bind fun x21571 =>
    some (.go (x21546, x21571)))
    (some (.done x21483))

def integer_Text (n : Nat) : Int_2 → Option ByteArray
  | x21276 =>
    (integer_trim n x21276.Mag).bind fun x21284 =>
    (slices_Cloneuint32_uint32_ n x21284).bind fun x21290 =>
    cond ((x21290.length : Int) == 0)
    (some ((ByteArray.mk #[48])))
    ((loopN (integer_Text_L1 n) n (x21290, []) : Option (List ByteArray)).bind fun x21433 =>
    (cond x21276.Neg
    ((app x21433 [(ByteArray.mk #[45])]).bind fun x21600 =>
    some (x21600))
    (some (x21433)) : Option (List ByteArray)).bind fun x21588 =>
    (slices_Reversestring_string_ n x21588).bind fun x21606 =>
    (strings_Join n x21606 (ByteArray.mk #[])).bind fun x21613 =>
    some (x21613))

def integer_Abs (n : Nat) : Int_2 → Option Int_2
  | x21616 =>
    (integer_trim n x21616.Mag).bind fun x21627 =>
    (slices_Cloneuint32_uint32_ n x21627).bind fun x21633 =>
    (integer_made n false x21633).bind fun x21639 =>
    some ((Int_2.mk x21639.Neg x21639.Mag))

def integer_Gcd_L1 (n : Nat) : (Bool × (List Int) × Bool × (List Int)) → Option (Out (Bool × (List Int) × Bool × (List Int)) (Bool × (List Int)))
  | (x22589, x22590, x22593, x22594) =>
    cond (decide ((x22594.length : Int) > 0))
    ((integer_DivMod n (Int_2.mk x22589 x22590) (Int_2.mk x22593 x22594)).bind fun (x22631, x22632, x22633) =>
    some (.go (x22593, x22594, x22632.Neg, x22632.Mag)))
    (some (.done (x22589, x22590)))

def integer_Gcd (n : Nat) : Int_2 → Int_2 → Option Int_2
  | x21821, x21824 =>
    ((integer_Abs n (Int_2.mk x21821.Neg x21821.Mag)).bind fun x22322 =>
    (integer_Abs n (Int_2.mk x21824.Neg x21824.Mag)).bind fun x22328 =>
    some ((x22322.Neg, x22322.Mag, x22328.Neg, x22328.Mag)) : Option (Bool × (List Int) × Bool × (List Int))).bind fun (x22153, x22154, x22158, x22159) =>
    (loopN (integer_Gcd_L1 n) n (x22153, x22154, x22158, x22159) : Option (Bool × (List Int))).bind fun (x22561, x22562) =>
    some ((Int_2.mk x22561 x22562))

def law01_awake (n : Nat) : Option Bool :=
    (integer_Of n (-7)).bind fun x22653 =>
    (integer_Of n 2).bind fun x22659 =>
    (integer_DivMod n x22653 x22659).bind fun (x22665, x22666, x22667) =>
    (integer_DivMod n (Int_2.mk x22665.Neg x22665.Mag) (Int_2.mk true [0])).bind fun (x22689, x22690, x22691) =>
    (integer_Small n (Int_2.mk true [7, 0])).bind fun (x22713, x22714) =>
    (integer_Of n 24).bind fun x22717 =>
    (integer_Sqrt n x22717).bind fun (x22723, x22724) =>
    (integer_Parse n (ByteArray.mk #[45, 48])).bind fun (x22733, x22734) =>
    ((ref01_Of n (-4)).bind fun x23006 =>
    (ref01_Same n (Int_2.mk x22665.Neg x22665.Mag) x23006).bind fun x23012 =>
    (need (decide (x23012 = true))).bind fun _ =>
    (ref01_Of n 1).bind fun x23016 =>
    (ref01_Same n (Int_2.mk x22666.Neg x22666.Mag) x23016).bind fun x23022 =>
    (need (decide (x23022 = true))).bind fun _ =>
    (need (decide ((x22667 == 0) = true))).bind fun _ =>
    (need (decide ((x22691 == 10) = true))).bind fun _ =>
    (need (decide ((x22713 == (-7)) = true))).bind fun _ =>
    (need (decide (x22714 = true))).bind fun _ =>
    (ref01_Of n 4).bind fun x23030 =>
    (ref01_Same n (Int_2.mk x22723.Neg x22723.Mag) x23030).bind fun x23036 =>
    (need (decide (x23036 = true))).bind fun _ =>
    (need (decide ((x22724 == 0) = true))).bind fun _ =>
    (need (decide ((x22734 == 3) = true))).bind fun _ =>
    (need (decide (((x22733.Mag.length : Int) == 0) = true))).bind fun _ =>
    (integer_Text n (Int_2.mk true [0, 1])).bind fun x23051 =>
    (need (decide ((x23051.toList == (ByteArray.mk #[45, 52, 50, 57, 52, 57, 54, 55, 50, 57, 54]).toList) = true))).bind fun _ =>
    (integer_Of n (-12)).bind fun x23055 =>
    (integer_Of n 18).bind fun x23061 =>
    (integer_Gcd n x23055 x23061).bind fun x23067 =>
    (ref01_Of n 6).bind fun x23073 =>
    (ref01_Same n x23067 x23073).bind fun x23079 =>
    (need (decide (x23079 = true))).bind fun _ =>
    (integer_Of n (-8)).bind fun x23083 =>
    (integer_Bits n x23083).bind fun x23089 =>
    some ((x23089 == 4)) : Option Bool).bind fun x22915 =>
    some (x22915)

def law01_few (n : Nat) : Int_2 → Option Bool
  | x23092 =>
    some ((decide ((x23092.Mag.length : Int) ≤ 12)))

def ref01_cmp_L1 (x23100 : (List Int)) (x23103 : (List Int)) : Int → Option (Out Int (Out Unit Int))
  | x23222 =>
    cond (decide (x23222 ≥ 0))
    ((idx x23100 x23222).bind fun x23254 =>
    (idx x23103 x23222).bind fun x23260 =>
    cond (decide (x23254 < x23260))
    (some (.done (.done (-1))))
    ((idx x23100 x23222).bind fun x23268 =>
    (idx x23103 x23222).bind fun x23274 =>
    cond (decide (x23268 > x23274))
    (some (.done (.done 1)))
    (some (.go (IntKind.i64.wrap (x23222 - 1))))))
    (some (.done (.go ())))

def ref01_cmp (n : Nat) : (List Int) → (List Int) → Option Int
  | x23100, x23103 =>
    cond ((x23100.length : Int) != (x23103.length : Int))
    (cond (decide ((x23100.length : Int) < (x23103.length : Int)))
    (some ((-1)))
    (some (1)))
    ((loopN (ref01_cmp_L1 x23100 x23103) n (IntKind.i64.wrap ((x23100.length : Int) - 1)) : Option (Out Unit Int)).bind fun y23194 => (match y23194 with
    | .go _ =>
    some (0)
    | .done r => some r))

def ref01_Cmp (n : Nat) : Int_2 → Int_2 → Option Int
  | x23283, x23286 =>
    (ref01_Norm n (Int_2.mk x23283.Neg x23283.Mag)).bind fun x23293 =>
    (ref01_Norm n (Int_2.mk x23286.Neg x23286.Mag)).bind fun x23300 =>
    cond (!(x23293.Neg == x23300.Neg))
    (cond x23293.Neg
    (some ((-1)))
    (some (1)))
    (cond x23293.Neg
    ((ref01_cmp n x23300.Mag x23293.Mag).bind fun x23307 =>
    some (x23307))
    ((ref01_cmp n x23293.Mag x23300.Mag).bind fun x23310 =>
    some (x23310)))

def ref01_Small_L1 (x23313 : Int_2) (x23398 : (List Int)) : (Int × Int) → Option (Out (Int × Int) Int)
  | (x23556, x23557) =>
    cond (decide (x23557 ≥ 0))
    ((cond x23313.Neg
    ((idx x23398 x23557).bind fun x23617 =>
    some ((IntKind.i64.wrap ((IntKind.i64.wrap (x23556 * 4294967296)) - (IntKind.i64.wrap x23617)))))
    ((idx x23398 x23557).bind fun x23625 =>
    some ((IntKind.i64.wrap ((IntKind.i64.wrap (x23556 * 4294967296)) + (IntKind.i64.wrap x23625))))) : Option Int).bind fun x23614 =>
    some (.go (x23614, (IntKind.i64.wrap (x23557 - 1)))))
    (some (.done x23556))

def ref01_Small (n : Nat) : Int_2 → Option (Int × Bool)
  | x23313 =>
    ((ref01_Of n (-9223372036854775808)).bind fun x23380 =>
    (ref01_Cmp n (Int_2.mk x23313.Neg x23313.Mag) x23380).bind fun x23386 =>
    cond (decide (x23386 < 0))
    (some (true))
    ((ref01_Of n 9223372036854775807).bind fun x23389 =>
    (ref01_Cmp n (Int_2.mk x23313.Neg x23313.Mag) x23389).bind fun x23395 =>
    some ((decide (x23395 > 0)))) : Option Bool).bind fun x23357 =>
    cond x23357
    (some ((0, false)))
    ((ref01_trim n x23313.Mag).bind fun x23398 =>
    (loopN (ref01_Small_L1 x23313 x23398) n (0, (IntKind.i64.wrap ((x23398.length : Int) - 1))) : Option Int).bind fun x23518 =>
    some ((x23518, true)))

def law01_IntegerLarges (n : Nat) : Int_2 → Option Bool
  | x23634 =>
    ((law01_awake n ).bind fun x23652 =>
    cond (!x23652)
    (some (true))
    ((law01_few n (Int_2.mk x23634.Neg x23634.Mag)).bind fun x23655 =>
    some ((!x23655))) : Option Bool).bind fun x23648 =>
    cond x23648
    ((law01_awake n ).bind fun x23658 =>
    some (x23658))
    ((integer_Small n (Int_2.mk x23634.Neg x23634.Mag)).bind fun (x23661, x23662) =>
    (ref01_Small n (Int_2.mk x23634.Neg x23634.Mag)).bind fun (x23665, x23666) =>
    (cond (x23661 != x23665)
    (some (true))
    (some ((!(x23662 == x23666)))) : Option Bool).bind fun x23669 =>
    cond x23669
    (some (false))
    (cond x23662
    ((integer_Of n x23661).bind fun x23681 =>
    (integer_Cmp n x23681 (Int_2.mk x23634.Neg x23634.Mag)).bind fun x23687 =>
    some ((x23687 == 0)))
    ((integer_Bits n (Int_2.mk x23634.Neg x23634.Mag)).bind fun x23690 =>
    some ((decide (x23690 ≥ 64))))))

def ref01_Abs (n : Nat) : Int_2 → Option Int_2
  | x23693 =>
    (ref01_Norm n (Int_2.mk false x23693.Mag)).bind fun x23708 =>
    some ((Int_2.mk x23708.Neg x23708.Mag))

def ref01_half_L1 (x23715 : (List Int)) : ((List Int) × Int) → Option (Out ((List Int) × Int) (List Int))
  | (x24171, x24175) =>
    cond (decide (x24175 < (x24171.length : Int)))
    (((idx x24171 x24175).bind fun x24346 =>
    (idx x24171 x24175).bind fun x24354 =>
    cond (decide ((IntKind.i64.wrap (x24175 + 1)) < (x23715.length : Int)))
    ((idx (upd x24171 x24175 (x24346.fdiv (2 ^ min (1 : Int).toNat (IntKind.u32).bits))) x24175).bind fun x24368 =>
    (idx x23715 (IntKind.i64.wrap (x24175 + 1))).bind fun x24376 =>
    (idx (upd x24171 x24175 (x24346.fdiv (2 ^ min (1 : Int).toNat (IntKind.u32).bits))) x24175).bind fun x24382 =>
    some ((upd (upd x24171 x24175 (x24346.fdiv (2 ^ min (1 : Int).toNat (IntKind.u32).bits))) x24175 (IntKind.u32.wrap (x24368 + (IntKind.u32.wrap ((x24376.tmod 2) * 2 ^ min (31 : Int).toNat (IntKind.u32).bits)))))))
    (some ((upd x24171 x24175 (x24346.fdiv (2 ^ min (1 : Int).toNat (IntKind.u32).bits))))) : Option (List Int)).bind fun x24339 =>
    some (.go (x24339, (IntKind.i64.wrap (x24175 + 1)))))
    (some (.done x24171))

def ref01_half (n : Nat) : (List Int) → Option (List Int)
  | x23715 =>
    (app ([] : List Int) x23715).bind fun x23723 =>
    (loopN (ref01_half_L1 x23715) n (x23723, 0) : Option (List Int)).bind fun x24059 =>
    (ref01_trim n x24059).bind fun x24397 =>
    some (x24397)

def ref01_sub_L1 (x24405 : (List Int)) (x24408 : (List Int)) : ((List Int) × Int × Int) → Option (Out ((List Int) × Int × Int) (List Int))
  | (x24582, x24586, x24587) =>
    cond (decide (x24587 < (x24405.length : Int)))
    ((idx x24405 x24587).bind fun x24636 =>
    (cond (decide (x24587 < (x24408.length : Int)))
    ((idx x24408 x24587).bind fun x24651 =>
    some ((IntKind.i64.wrap ((IntKind.i64.wrap ((IntKind.i64.wrap x24636) - x24586)) - (IntKind.i64.wrap x24651)))))
    (some ((IntKind.i64.wrap ((IntKind.i64.wrap x24636) - x24586)))) : Option Int).bind fun x24648 =>
    (cond (decide (x24648 < 0))
    (some ((1, (IntKind.i64.wrap (x24648 + 4294967296)))))
    (some ((0, x24648))) : Option (Int × Int)).bind fun (x24657, x24658) =>
    (app x24582 [(IntKind.u32.wrap x24658)]).bind fun x24665 =>
    some (.go (x24665, x24657, (IntKind.i64.wrap (x24587 + 1)))))
    (some (.done x24582))

def ref01_sub (n : Nat) : (List Int) → (List Int) → Option (List Int)
  | x24405, x24408 =>
    (loopN (ref01_sub_L1 x24405 x24408) n ([], 0, 0) : Option (List Int)).bind fun x24538 =>
    (ref01_trim n x24538).bind fun x24673 =>
    some (x24673)

def ref01_add_L1 (x24681 : (List Int)) (x24684 : (List Int)) : ((List Int) × Int × Int) → Option (Out ((List Int) × Int × Int) (List Int))
  | (x24890, x24894, x24895) =>
    (cond (decide (x24895 < (x24681.length : Int)))
    (some (true))
    (cond (decide (x24895 < (x24684.length : Int)))
    (some (true))
    (some ((decide (x24894 > 0))))) : Option Bool).bind fun x24952 =>
    cond x24952
    ((cond (decide (x24895 < (x24681.length : Int)))
    ((idx x24681 x24895).bind fun x24964 =>
    some ((IntKind.u64.wrap (x24894 + (IntKind.u64.wrap x24964)))))
    (some (x24894)) : Option Int).bind fun x24961 =>
    (cond (decide (x24895 < (x24684.length : Int)))
    ((idx x24684 x24895).bind fun x24979 =>
    some ((IntKind.u64.wrap (x24961 + (IntKind.u64.wrap x24979)))))
    (some (x24961)) : Option Int).bind fun x24976 =>
    (app x24890 [(IntKind.u32.wrap x24976)]).bind fun x24989 =>
    some (.go (x24989, (x24976.fdiv (2 ^ min (32 : Int).toNat (IntKind.u64).bits)), (IntKind.i64.wrap (x24895 + 1)))))
    (some (.done x24890))

def ref01_add (n : Nat) : (List Int) → (List Int) → Option (List Int)
  | x24681, x24684 =>
    (loopN (ref01_add_L1 x24681 x24684) n ([], 0, 0) : Option (List Int)).bind fun x24838 =>
    (ref01_trim n x24838).bind fun x24997 =>
    some (x24997)

def ref01_Gcd_L1 (n : Nat) : ((List Int) × (List Int) × Int) → Option (Out ((List Int) × (List Int) × Int) ((List Int) × (List Int) × Int))
  | (x25262, x25265, x25268) =>
    ((idx x25262 0).bind fun x25338 =>
    cond ((x25338.tmod 2) == 0)
    ((idx x25265 0).bind fun x25344 =>
    some (((x25344.tmod 2) == 0)))
    (some (false)) : Option Bool).bind fun x25335 =>
    cond x25335
    ((ref01_half n x25262).bind fun x25350 =>
    (ref01_half n x25265).bind fun x25356 =>
    some (.go (x25350, x25356, (IntKind.i64.wrap (x25268 + 1)))))
    (some (.done (x25262, x25265, x25268)))

def ref01_Gcd_L3 (n : Nat) : ((List Int) × (List Int)) → Option (Out ((List Int) × (List Int)) (List Int))
  | (x25557, x25560) =>
    (ref01_cmp n x25557 x25560).bind fun x25617 =>
    cond (x25617 != 0)
    ((idx x25557 0).bind fun x25620 =>
    cond ((x25620.tmod 2) == 0)
    ((ref01_half n x25557).bind fun x25626 =>
    some (.go (x25626, x25560)))
    ((idx x25560 0).bind fun x25632 =>
    cond ((x25632.tmod 2) == 0)
    ((ref01_half n x25560).bind fun x25638 =>
    some (.go (x25557, x25638)))
    ((ref01_cmp n x25557 x25560).bind fun x25644 =>
    cond (decide (x25644 > 0))
    ((ref01_sub n x25557 x25560).bind fun x25647 =>
    some (.go (x25647, x25560)))
    ((ref01_sub n x25560 x25557).bind fun x25653 =>
    some (.go (x25557, x25653))))))
    (some (.done x25557))

def ref01_Gcd_L5 (n : Nat) (x25208 : Int) : ((List Int) × Int) → Option (Out ((List Int) × Int) (List Int))
  | (x25706, x25709) =>
    cond (decide (x25709 < x25208))
    ((ref01_add n x25706 x25706).bind fun x25726 =>
    some (.go (x25726, (IntKind.i64.wrap (x25709 + 1)))))
    (some (.done x25706))

def ref01_Gcd (n : Nat) : Int_2 → Int_2 → Option Int_2
  | x25005, x25008 =>
    (ref01_trim n x25005.Mag).bind fun x25024 =>
    (ref01_trim n x25008.Mag).bind fun x25031 =>
    cond ((x25024.length : Int) == 0)
    ((ref01_Abs n (Int_2.mk x25008.Neg x25008.Mag)).bind fun x25038 =>
    some ((Int_2.mk x25038.Neg x25038.Mag)))
    (cond ((x25031.length : Int) == 0)
    ((ref01_Abs n (Int_2.mk x25005.Neg x25005.Mag)).bind fun x25045 =>
    some ((Int_2.mk x25045.Neg x25045.Mag)))
    ((loopN (ref01_Gcd_L1 n) n (x25024, x25031, 0) : Option ((List Int) × (List Int) × Int)).bind fun (x25202, x25205, x25208) =>
    (loopN (ref01_Gcd_L3 n) n (x25202, x25205) : Option (List Int)).bind fun x25508 =>
    (loopN (ref01_Gcd_L5 n x25208) n (x25508, 0) : Option (List Int)).bind fun x25693 =>
    some ((Int_2.mk false x25693))))

def law01_IntegerGcds (n : Nat) : Int_2 → Int_2 → Option Bool
  | x25738, x25741 =>
    ((law01_awake n ).bind fun x25761 =>
    cond (!x25761)
    (some (true))
    (cond (decide ((x25738.Mag.length : Int) > 6))
    (some (true))
    (some ((decide ((x25741.Mag.length : Int) > 6))))) : Option Bool).bind fun x25757 =>
    cond x25757
    ((law01_awake n ).bind fun x25764 =>
    some (x25764))
    ((integer_Gcd n (Int_2.mk x25738.Neg x25738.Mag) (Int_2.mk x25741.Neg x25741.Mag)).bind fun x25767 =>
    ((ref01_Gcd n (Int_2.mk x25738.Neg x25738.Mag) (Int_2.mk x25741.Neg x25741.Mag)).bind fun x25835 =>
    (ref01_Same n (Int_2.mk x25767.Neg x25767.Mag) x25835).bind fun x25841 =>
    cond (!x25841)
    (some (true))
    ((integer_Gcd n (Int_2.mk x25741.Neg x25741.Mag) (Int_2.mk x25738.Neg x25738.Mag)).bind fun x25844 =>
    (ref01_Same n (Int_2.mk x25767.Neg x25767.Mag) x25844).bind fun x25850 =>
    some ((!x25850))) : Option Bool).bind fun x25812 =>
    cond x25812
    (some (false))
    ((integer_Sign n (Int_2.mk x25767.Neg x25767.Mag)).bind fun x25853 =>
    cond (x25853 == 0)
    (((integer_Sign n (Int_2.mk x25738.Neg x25738.Mag)).bind fun x25866 =>
    cond (x25866 == 0)
    ((integer_Sign n (Int_2.mk x25741.Neg x25741.Mag)).bind fun x25869 =>
    some ((x25869 == 0)))
    (some (false)) : Option Bool).bind fun x25862 =>
    some (x25862))
    ((integer_DivMod n (Int_2.mk x25738.Neg x25738.Mag) (Int_2.mk x25767.Neg x25767.Mag)).bind fun (x25872, x25873, x25874) =>
    (integer_DivMod n (Int_2.mk x25741.Neg x25741.Mag) (Int_2.mk x25767.Neg x25767.Mag)).bind fun (x25888, x25889, x25890) =>
    (integer_Of n 1).bind fun x25904 =>
    ((integer_Sign n (Int_2.mk x25767.Neg x25767.Mag)).bind fun x25972 =>
    cond (decide (x25972 > 0))
    ((integer_Sign n (Int_2.mk x25873.Neg x25873.Mag)).bind fun x25975 =>
    cond (x25975 == 0)
    ((integer_Sign n (Int_2.mk x25889.Neg x25889.Mag)).bind fun x25978 =>
    cond (x25978 == 0)
    ((integer_Gcd n (Int_2.mk x25872.Neg x25872.Mag) (Int_2.mk x25888.Neg x25888.Mag)).bind fun x25981 =>
    (ref01_Same n x25981 (Int_2.mk x25904.Neg x25904.Mag)).bind fun x25987 =>
    some (x25987))
    (some (false)))
    (some (false)))
    (some (false)) : Option Bool).bind fun x25949 =>
    some (x25949))))

def ref01_Text_L13 : ((List Int) × Int × Int) → Option (Out ((List Int) × Int × Int) ((List Int) × Int))
  | (x27057, x27061, x27062) =>
    cond (decide (x27062 ≥ 0))
    ((idx x27057 x27062).bind fun x27094 =>
    (idx x27057 x27062).bind fun x27102 =>
    some (.go ((upd x27057 x27062 (IntKind.u32.wrap (IntKind.u64.wrap ((IntKind.u64.wrap ((IntKind.u64.wrap (x27061 * 4294967296)) + (IntKind.u64.wrap x27094))).tdiv 10)))), ((IntKind.u64.wrap ((IntKind.u64.wrap (x27061 * 4294967296)) + (IntKind.u64.wrap x27094))).tmod 10), (IntKind.i64.wrap (x27062 - 1)))))
    (some (.done (x27057, x27061)))

def ref01_Text_L11 (n : Nat) : (ByteArray × (List Int)) → Option (Out (ByteArray × (List Int)) ByteArray)
  | (x26751, x26752) =>
    cond (decide ((x26752.length : Int) > 0))
    ((loopN (ref01_Text_L13) n (x26752, 0, (IntKind.i64.wrap ((x26752.length : Int) - 1))) : Option ((List Int) × Int)).bind fun (x27028, x27032) =>
    (need (decide ((strOfNums [(IntKind.u8.wrap (IntKind.u64.wrap (48 + x27032)))]).size + x26751.size ≤ 9223372036854775807))).bind fun _ =>
    (ref01_trim n x27028).bind fun x27122 =>
    some (.go (((strOfNums [(IntKind.u8.wrap (IntKind.u64.wrap (48 + x27032)))]) ++ x26751), x27122)))
    (some (.done x26751))

def ref01_Text (n : Nat) : Int_2 → Option ByteArray
  | x25990 =>
    (ref01_trim n x25990.Mag).bind fun x25998 =>
    (loopN (ref01_Text_L11 n) n ((ByteArray.mk #[]), x25998) : Option ByteArray).bind fun x26565 =>
    cond (x26565.toList == (ByteArray.mk #[]).toList)
    (some ((ByteArray.mk #[48])))
    (cond x25990.Neg
    ((need (decide ((ByteArray.mk #[45]).size + x26565.size ≤ 9223372036854775807))).bind fun _ =>
    some (((ByteArray.mk #[45]) ++ x26565)))
    (some (x26565)))

def law01_IntegerTexts (n : Nat) : Int_2 → Option Bool
  | x27131 =>
    ((law01_awake n ).bind fun x27149 =>
    cond (!x27149)
    (some (true))
    ((law01_few n (Int_2.mk x27131.Neg x27131.Mag)).bind fun x27152 =>
    some ((!x27152))) : Option Bool).bind fun x27145 =>
    cond x27145
    ((law01_awake n ).bind fun x27155 =>
    some (x27155))
    ((integer_Text n (Int_2.mk x27131.Neg x27131.Mag)).bind fun x27158 =>
    (integer_Parse n x27158).bind fun (x27161, x27162) =>
    ((ref01_Text n (Int_2.mk x27131.Neg x27131.Mag)).bind fun x27212 =>
    cond (x27158.toList == x27212.toList)
    (cond (x27162 == 0)
    ((ref01_Norm n (Int_2.mk x27131.Neg x27131.Mag)).bind fun x27215 =>
    (ref01_Same n (Int_2.mk x27161.Neg x27161.Mag) x27215).bind fun x27221 =>
    some (x27221))
    (some (false)))
    (some (false)) : Option Bool).bind fun x27195 =>
    some (x27195))

def ref01_Parse_L25 : ((List Int) × Int × Int) → Option (Out ((List Int) × Int × Int) ((List Int) × Int))
  | (x29573, x29577, x29578) =>
    cond (decide (x29578 < (x29573.length : Int)))
    ((idx x29573 x29578).bind fun x29610 =>
    (idx x29573 x29578).bind fun x29618 =>
    some (.go ((upd x29573 x29578 (IntKind.u32.wrap (IntKind.u64.wrap (x29577 + (IntKind.u64.wrap ((IntKind.u64.wrap x29610) * 10)))))), ((IntKind.u64.wrap (x29577 + (IntKind.u64.wrap ((IntKind.u64.wrap x29610) * 10)))).fdiv (2 ^ min (32 : Int).toNat (IntKind.u64).bits)), (IntKind.i64.wrap (x29578 + 1)))))
    (some (.done (x29573, x29577)))

def ref01_Parse_L21 (n : Nat) (x27224 : ByteArray) : ((List Int) × Int) → Option (Out ((List Int) × Int) (Out (List Int) (Int_2 × Int)))
  | (x28841, x28845) =>
    cond (decide (x28845 < (x27224.size : Int)))
    ((((bidx x27224 x28845).bind fun x29456 =>
    cond (decide (x29456 < 48))
    (some (true))
    ((bidx x27224 x28845).bind fun x29458 =>
    some ((decide (x29458 > 57)))) : Option Bool).bind fun x29453 =>
    cond x29453
    (some (.done (.done (.done ((Int_2.mk false []), 3)))))
    ((bidx x27224 x28845).bind fun x29462 =>
    (loopN (ref01_Parse_L25) n (x28841, (IntKind.u64.wrap (IntKind.u8.wrap (x29462 - 48))), 0) : Option ((List Int) × Int)).bind fun (x29544, x29548) =>
    cond (decide (x29548 > 0))
    ((app x29544 [(IntKind.u32.wrap x29548)]).bind fun x29636 =>
    some (.go x29636))
    (some (.go x29544))) : Option (Out (List Int) (Out ((List Int) × Int) (Out (List Int) (Int_2 × Int))))).bind fun y29447 => (match y29447 with
    | .go x29441 =>
    some (.go (x29441, (IntKind.i64.wrap (x28845 + 1))))
    | .done r => some r))
    (some (.done (.go x28841)))

def ref01_Parse (n : Nat) : ByteArray → Option (Int_2 × Int)
  | x27224 =>
    cond (decide ((x27224.size : Int) > 2000))
    (some (((Int_2.mk false []), 6)))
    (((cond (decide ((x27224.size : Int) > 0))
    ((bidx x27224 0).bind fun x27245 =>
    some ((x27245 == 45)))
    (some (false)) : Option Bool).bind fun x27242 =>
    cond x27242
    (some (1))
    (some (0)) : Option Int).bind fun x27237 =>
    (loopN (ref01_Parse_L21 n x27224) n ([], x27237) : Option (Out (List Int) (Int_2 × Int))).bind fun y28447 => (match y28447 with
    | .go x28441 =>
    ((ref01_Norm n (Int_2.mk (x27237 == 1) x28441)).bind fun x29648 =>
    (ref01_Text n (Int_2.mk x29648.Neg x29648.Mag)).bind fun x29657 =>
    cond (!(x29657.toList == x27224.toList))
    (some (((Int_2.mk false []), 3)))
    (some (((Int_2.mk x29648.Neg x29648.Mag), 0))))
    | .done r => some r))

def law01_IntegerParses (n : Nat) : ByteArray → Option Bool
  | x29662 =>
    ((law01_awake n ).bind fun x29670 =>
    cond (!x29670)
    (some (true))
    (some ((decide ((x29662.size : Int) > 2100)))) : Option Bool).bind fun x29666 =>
    cond x29666
    ((law01_awake n ).bind fun x29673 =>
    some (x29673))
    ((integer_Parse n x29662).bind fun (x29676, x29677) =>
    cond (decide ((x29662.size : Int) > 2000))
    ((cond (x29677 == 6)
    (some (((x29676.Mag.length : Int) == 0)))
    (some (false)) : Option Bool).bind fun x29686 =>
    some (x29686))
    ((ref01_Parse n x29662).bind fun (x29689, x29690) =>
    (cond (x29677 == x29690)
    ((ref01_Norm n (Int_2.mk x29689.Neg x29689.Mag)).bind fun x29740 =>
    (ref01_Same n (Int_2.mk x29676.Neg x29676.Mag) x29740).bind fun x29746 =>
    cond x29746
    (cond (x29677 != 0)
    (some (true))
    ((integer_Text n (Int_2.mk x29676.Neg x29676.Mag)).bind fun x29749 =>
    some ((x29749.toList == x29662.toList))))
    (some (false)))
    (some (false)) : Option Bool).bind fun x29723 =>
    some (x29723)))

def integer_Mul (n : Nat) : Int_2 → Int_2 → Option Int_2
  | x29752, x29755 =>
    (integer_trim n x29752.Mag).bind fun x29796 =>
    (integer_trim n x29755.Mag).bind fun x29802 =>
    (integer_times n x29796 x29802).bind fun x29808 =>
    (integer_made n (!(x29752.Neg == x29755.Neg)) x29808).bind fun x29814 =>
    some ((Int_2.mk x29814.Neg x29814.Mag))

def law01_IntegerDivides (n : Nat) : Int_2 → Int_2 → Option Bool
  | x29821, x29824 =>
    ((law01_awake n ).bind fun x29850 =>
    cond (!x29850)
    (some (true))
    ((law01_few n (Int_2.mk x29821.Neg x29821.Mag)).bind fun x29853 =>
    cond (!x29853)
    (some (true))
    ((law01_few n (Int_2.mk x29824.Neg x29824.Mag)).bind fun x29856 =>
    some ((!x29856)))) : Option Bool).bind fun x29846 =>
    cond x29846
    ((law01_awake n ).bind fun x29859 =>
    some (x29859))
    ((integer_DivMod n (Int_2.mk x29821.Neg x29821.Mag) (Int_2.mk x29824.Neg x29824.Mag)).bind fun (x29862, x29863, x29864) =>
    (integer_Sign n (Int_2.mk x29824.Neg x29824.Mag)).bind fun x29878 =>
    cond (x29878 == 0)
    ((cond (x29864 == 10)
    (cond ((x29862.Mag.length : Int) == 0)
    (some (((x29863.Mag.length : Int) == 0)))
    (some (false)))
    (some (false)) : Option Bool).bind fun x29881 =>
    some (x29881))
    ((cond (x29864 == 0)
    ((integer_Mul n (Int_2.mk x29862.Neg x29862.Mag) (Int_2.mk x29824.Neg x29824.Mag)).bind fun x30024 =>
    (integer_Add n x30024 (Int_2.mk x29863.Neg x29863.Mag)).bind fun x30030 =>
    (integer_Cmp n x30030 (Int_2.mk x29821.Neg x29821.Mag)).bind fun x30036 =>
    cond (x30036 == 0)
    ((integer_Sign n (Int_2.mk x29863.Neg x29863.Mag)).bind fun x30039 =>
    cond (decide (x30039 ≥ 0))
    ((integer_Abs n (Int_2.mk x29824.Neg x29824.Mag)).bind fun x30042 =>
    (integer_Cmp n (Int_2.mk x29863.Neg x29863.Mag) x30042).bind fun x30048 =>
    cond (decide (x30048 < 0))
    ((ref01_Norm n (Int_2.mk x29862.Neg x29862.Mag)).bind fun x30051 =>
    (ref01_Same n (Int_2.mk x29862.Neg x29862.Mag) x30051).bind fun x30057 =>
    cond x30057
    ((ref01_Norm n (Int_2.mk x29863.Neg x29863.Mag)).bind fun x30060 =>
    (ref01_Same n (Int_2.mk x29863.Neg x29863.Mag) x30060).bind fun x30066 =>
    some (x30066))
    (some (false)))
    (some (false)))
    (some (false)))
    (some (false)))
    (some (false)) : Option Bool).bind fun x29974 =>
    some (x29974)))

def law01_IntegerRoots (n : Nat) : Int_2 → Option Bool
  | x30145 =>
    ((law01_awake n ).bind fun x30160 =>
    cond (!x30160)
    (some (true))
    (some ((decide ((x30145.Mag.length : Int) > 6)))) : Option Bool).bind fun x30156 =>
    cond x30156
    ((law01_awake n ).bind fun x30163 =>
    some (x30163))
    ((integer_Sqrt n (Int_2.mk x30145.Neg x30145.Mag)).bind fun (x30166, x30167) =>
    (integer_Sign n (Int_2.mk x30145.Neg x30145.Mag)).bind fun x30176 =>
    cond (decide (x30176 < 0))
    ((cond (x30167 == 2)
    (some (((x30166.Mag.length : Int) == 0)))
    (some (false)) : Option Bool).bind fun x30179 =>
    some (x30179))
    (((integer_Of n 1).bind fun x30308 =>
    (integer_Add n (Int_2.mk x30166.Neg x30166.Mag) x30308).bind fun x30314 =>
    some ((x30314.Neg, x30314.Mag)) : Option (Bool × (List Int))).bind fun (x30261, x30262) =>
    (cond (x30167 == 0)
    ((integer_Sign n (Int_2.mk x30166.Neg x30166.Mag)).bind fun x30415 =>
    cond (decide (x30415 ≥ 0))
    ((integer_Mul n (Int_2.mk x30166.Neg x30166.Mag) (Int_2.mk x30166.Neg x30166.Mag)).bind fun x30418 =>
    (integer_Cmp n x30418 (Int_2.mk x30145.Neg x30145.Mag)).bind fun x30424 =>
    cond (decide (x30424 ≤ 0))
    ((integer_Mul n (Int_2.mk x30261 x30262) (Int_2.mk x30261 x30262)).bind fun x30427 =>
    (integer_Cmp n x30427 (Int_2.mk x30145.Neg x30145.Mag)).bind fun x30433 =>
    some ((decide (x30433 > 0))))
    (some (false)))
    (some (false)))
    (some (false)) : Option Bool).bind fun x30389 =>
    some (x30389)))

def integer_Sub (n : Nat) : Int_2 → Int_2 → Option Int_2
  | x30436, x30439 =>
    (integer_Add n (Int_2.mk x30436.Neg x30436.Mag) (Int_2.mk (!x30439.Neg) x30439.Mag)).bind fun x30459 =>
    some ((Int_2.mk x30459.Neg x30459.Mag))

def law01_IntegerSmalls (n : Nat) : Int → Int → Option Bool
  | x30466, x30467 =>
    (law01_awake n ).bind fun x30468 =>
    cond (!x30468)
    (some (false))
    ((integer_Of n x30466).bind fun x30471 =>
    (integer_Of n x30467).bind fun x30477 =>
    (integer_Small n (Int_2.mk x30471.Neg x30471.Mag)).bind fun (x30489, x30490) =>
    (cond (x30489 != x30466)
    (some (true))
    (cond (!x30490)
    (some (true))
    ((integer_Cmp n (Int_2.mk x30471.Neg x30471.Mag) (Int_2.mk x30477.Neg x30477.Mag)).bind fun x30503 =>
    cond (!((decide (x30503 < 0)) == (decide (x30466 < x30467))))
    (some (true))
    ((integer_Cmp n (Int_2.mk x30471.Neg x30471.Mag) (Int_2.mk x30477.Neg x30477.Mag)).bind fun x30506 =>
    some ((!((decide (x30506 > 0)) == (decide (x30466 > x30467)))))))) : Option Bool).bind fun x30499 =>
    cond x30499
    (some (false))
    ((integer_Of n (x30466.fdiv (2 ^ min (2 : Int).toNat (IntKind.i64).bits))).bind fun x30509 =>
    (integer_Of n (x30467.fdiv (2 ^ min (2 : Int).toNat (IntKind.i64).bits))).bind fun x30515 =>
    (integer_Add n x30509 x30515).bind fun x30521 =>
    (integer_Small n x30521).bind fun (x30527, x30528) =>
    (integer_Of n (x30466.fdiv (2 ^ min (2 : Int).toNat (IntKind.i64).bits))).bind fun x30531 =>
    (integer_Of n (x30467.fdiv (2 ^ min (2 : Int).toNat (IntKind.i64).bits))).bind fun x30537 =>
    (integer_Sub n x30531 x30537).bind fun x30543 =>
    (integer_Small n x30543).bind fun (x30549, x30550) =>
    (integer_Of n (x30466.fdiv (2 ^ min (33 : Int).toNat (IntKind.i64).bits))).bind fun x30553 =>
    (integer_Of n (x30467.fdiv (2 ^ min (33 : Int).toNat (IntKind.i64).bits))).bind fun x30559 =>
    (integer_Mul n x30553 x30559).bind fun x30565 =>
    (integer_Small n x30565).bind fun (x30571, x30572) =>
    (cond (x30527 == (IntKind.i64.wrap ((x30466.fdiv (2 ^ min (2 : Int).toNat (IntKind.i64).bits)) + (x30467.fdiv (2 ^ min (2 : Int).toNat (IntKind.i64).bits)))))
    (cond x30528
    (cond (x30549 == (IntKind.i64.wrap ((x30466.fdiv (2 ^ min (2 : Int).toNat (IntKind.i64).bits)) - (x30467.fdiv (2 ^ min (2 : Int).toNat (IntKind.i64).bits)))))
    (cond x30550
    (cond (x30571 == (IntKind.i64.wrap ((x30466.fdiv (2 ^ min (33 : Int).toNat (IntKind.i64).bits)) * (x30467.fdiv (2 ^ min (33 : Int).toNat (IntKind.i64).bits)))))
    (some (x30572))
    (some (false)))
    (some (false)))
    (some (false)))
    (some (false)))
    (some (false)) : Option Bool).bind fun x30575 =>
    some (x30575)))

def integer_Norm (n : Nat) : Int_2 → Option Int_2
  | x30578 =>
    (integer_trim n x30578.Mag).bind fun x30608 =>
    (slices_Cloneuint32_uint32_ n x30608).bind fun x30614 =>
    (integer_made n x30578.Neg x30614).bind fun x30620 =>
    some ((Int_2.mk x30620.Neg x30620.Mag))

def law01_IntegerRing (n : Nat) : Int_2 → Int_2 → Int_2 → Option Bool
  | x30679, x30682, x30685 =>
    ((law01_awake n ).bind fun x30719 =>
    cond (!x30719)
    (some (true))
    ((law01_few n (Int_2.mk x30679.Neg x30679.Mag)).bind fun x30722 =>
    cond (!x30722)
    (some (true))
    ((law01_few n (Int_2.mk x30682.Neg x30682.Mag)).bind fun x30725 =>
    cond (!x30725)
    (some (true))
    ((law01_few n (Int_2.mk x30685.Neg x30685.Mag)).bind fun x30728 =>
    some ((!x30728))))) : Option Bool).bind fun x30715 =>
    cond x30715
    ((law01_awake n ).bind fun x30731 =>
    some (x30731))
    ((integer_Mul n (Int_2.mk x30679.Neg x30679.Mag) (Int_2.mk x30682.Neg x30682.Mag)).bind fun x30734 =>
    ((integer_Mul n (Int_2.mk x30682.Neg x30682.Mag) (Int_2.mk x30679.Neg x30679.Mag)).bind fun x30919 =>
    (ref01_Same n (Int_2.mk x30734.Neg x30734.Mag) x30919).bind fun x30925 =>
    cond (!x30925)
    (some (true))
    ((integer_Mul n (Int_2.mk x30734.Neg x30734.Mag) (Int_2.mk x30685.Neg x30685.Mag)).bind fun x30928 =>
    (integer_Mul n (Int_2.mk x30682.Neg x30682.Mag) (Int_2.mk x30685.Neg x30685.Mag)).bind fun x30934 =>
    (integer_Mul n (Int_2.mk x30679.Neg x30679.Mag) x30934).bind fun x30940 =>
    (ref01_Same n x30928 x30940).bind fun x30946 =>
    cond (!x30946)
    (some (true))
    ((integer_Add n (Int_2.mk x30679.Neg x30679.Mag) (Int_2.mk x30682.Neg x30682.Mag)).bind fun x30949 =>
    (integer_Add n x30949 (Int_2.mk x30685.Neg x30685.Mag)).bind fun x30955 =>
    (integer_Add n (Int_2.mk x30682.Neg x30682.Mag) (Int_2.mk x30685.Neg x30685.Mag)).bind fun x30961 =>
    (integer_Add n (Int_2.mk x30679.Neg x30679.Mag) x30961).bind fun x30967 =>
    (ref01_Same n x30955 x30967).bind fun x30973 =>
    some ((!x30973)))) : Option Bool).bind fun x30857 =>
    cond x30857
    (some (false))
    (((integer_Add n (Int_2.mk x30682.Neg x30682.Mag) (Int_2.mk x30685.Neg x30685.Mag)).bind fun x31152 =>
    (integer_Mul n (Int_2.mk x30679.Neg x30679.Mag) x31152).bind fun x31158 =>
    (integer_Mul n (Int_2.mk x30679.Neg x30679.Mag) (Int_2.mk x30685.Neg x30685.Mag)).bind fun x31164 =>
    (integer_Add n (Int_2.mk x30734.Neg x30734.Mag) x31164).bind fun x31170 =>
    (ref01_Same n x31158 x31170).bind fun x31176 =>
    cond x31176
    ((integer_Sub n (Int_2.mk x30679.Neg x30679.Mag) (Int_2.mk x30679.Neg x30679.Mag)).bind fun x31179 =>
    (integer_Sign n x31179).bind fun x31185 =>
    cond (x31185 == 0)
    ((integer_Sub n (Int_2.mk x30679.Neg x30679.Mag) (Int_2.mk x30682.Neg x30682.Mag)).bind fun x31188 =>
    (integer_Add n x31188 (Int_2.mk x30682.Neg x30682.Mag)).bind fun x31194 =>
    (integer_Norm n (Int_2.mk x30679.Neg x30679.Mag)).bind fun x31200 =>
    (ref01_Same n x31194 x31200).bind fun x31206 =>
    some (x31206))
    (some (false)))
    (some (false)) : Option Bool).bind fun x31090 =>
    some (x31090)))

def ref01_Add (n : Nat) : Int_2 → Int_2 → Option Int_2
  | x31209, x31212 =>
    (ref01_Norm n (Int_2.mk x31209.Neg x31209.Mag)).bind fun x31222 =>
    (ref01_Norm n (Int_2.mk x31212.Neg x31212.Mag)).bind fun x31229 =>
    cond (x31222.Neg == x31229.Neg)
    ((ref01_add n x31222.Mag x31229.Mag).bind fun x31253 =>
    (ref01_Norm n (Int_2.mk x31222.Neg x31253)).bind fun x31263 =>
    some ((Int_2.mk x31263.Neg x31263.Mag)))
    ((ref01_cmp n x31222.Mag x31229.Mag).bind fun x31270 =>
    cond (decide (x31270 < 0))
    ((ref01_sub n x31229.Mag x31222.Mag).bind fun x31290 =>
    (ref01_Norm n (Int_2.mk x31229.Neg x31290)).bind fun x31300 =>
    some ((Int_2.mk x31300.Neg x31300.Mag)))
    ((ref01_sub n x31222.Mag x31229.Mag).bind fun x31324 =>
    (ref01_Norm n (Int_2.mk x31222.Neg x31324)).bind fun x31334 =>
    some ((Int_2.mk x31334.Neg x31334.Mag))))

def ref01_Neg (n : Nat) : Int_2 → Option Int_2
  | x31341 =>
    (ref01_Norm n (Int_2.mk (!x31341.Neg) x31341.Mag)).bind fun x31356 =>
    some ((Int_2.mk x31356.Neg x31356.Mag))

def ref01_Sub (n : Nat) : Int_2 → Int_2 → Option Int_2
  | x31363, x31366 =>
    (ref01_Neg n (Int_2.mk x31366.Neg x31366.Mag)).bind fun x31395 =>
    (ref01_Add n (Int_2.mk x31363.Neg x31363.Mag) x31395).bind fun x31401 =>
    some ((Int_2.mk x31401.Neg x31401.Mag))

def ref01_Mul_L13 (x31408 : Int_2) (x31411 : Int_2) (x32919 : Int) : ((List Int) × Int × Int) → Option (Out ((List Int) × Int × Int) (List Int))
  | (x33534, x33538, x33539) =>
    (cond (decide (x33539 < (x31411.Mag.length : Int)))
    (some (true))
    (some ((decide (x33538 > 0)))) : Option Bool).bind fun x33604 =>
    cond x33604
    ((idx x33534 (IntKind.i64.wrap (x32919 + x33539))).bind fun x33607 =>
    (cond (decide (x33539 < (x31411.Mag.length : Int)))
    ((idx x31408.Mag x32919).bind fun x33632 =>
    (idx x31411.Mag x33539).bind fun x33638 =>
    some ((IntKind.u64.wrap ((IntKind.u64.wrap ((IntKind.u64.wrap x33607) + x33538)) + (IntKind.u64.wrap ((IntKind.u64.wrap x33632) * (IntKind.u64.wrap x33638)))))))
    (some ((IntKind.u64.wrap ((IntKind.u64.wrap x33607) + x33538)))) : Option Int).bind fun x33628 =>
    (idx x33534 (IntKind.i64.wrap (x32919 + x33539))).bind fun x33645 =>
    some (.go ((upd x33534 (IntKind.i64.wrap (x32919 + x33539)) (IntKind.u32.wrap x33628)), (x33628.fdiv (2 ^ min (32 : Int).toNat (IntKind.u64).bits)), (IntKind.i64.wrap (x33539 + 1)))))
    (some (.done x33534))

def ref01_Mul_L11 (n : Nat) (x31408 : Int_2) (x31411 : Int_2) : ((List Int) × Int) → Option (Out ((List Int) × Int) (List Int))
  | (x32915, x32919) =>
    cond (decide (x32919 < (x31408.Mag.length : Int)))
    ((loopN (ref01_Mul_L13 x31408 x31411 x32919) n (x32915, 0, 0) : Option (List Int)).bind fun x33473 =>
    some (.go (x33473, (IntKind.i64.wrap (x32919 + 1)))))
    (some (.done x32915))

def ref01_Mul (n : Nat) : Int_2 → Int_2 → Option Int_2
  | x31408, x31411 =>
    (mk (IntKind.i64.wrap ((IntKind.i64.wrap ((x31408.Mag.length : Int) + (x31411.Mag.length : Int))) + 1)) 0).bind fun x31427 =>
    (loopN (ref01_Mul_L11 n x31408 x31411) n (x31427, 0) : Option (List Int)).bind fun x32543 =>
    (ref01_Norm n (Int_2.mk (!(x31408.Neg == x31411.Neg)) x32543)).bind fun x33665 =>
    some ((Int_2.mk x33665.Neg x33665.Mag))

def integer_Neg (n : Nat) : Int_2 → Option Int_2
  | x33672 =>
    (integer_trim n x33672.Mag).bind fun x33702 =>
    (slices_Cloneuint32_uint32_ n x33702).bind fun x33708 =>
    (integer_made n (!x33672.Neg) x33708).bind fun x33714 =>
    some ((Int_2.mk x33714.Neg x33714.Mag))

def ref01_Sign (n : Nat) : Int_2 → Option Int
  | x33721 =>
    (ref01_trim n x33721.Mag).bind fun x33729 =>
    cond ((x33729.length : Int) == 0)
    (some (0))
    (cond x33721.Neg
    (some ((-1)))
    (some (1)))

def ref01_bit (n : Nat) : (List Int) → Int → Option Int
  | x33736, x33739 =>
    cond (decide ((IntKind.i64.wrap (x33739.tdiv 32)) ≥ (x33736.length : Int)))
    (some (0))
    ((idx x33736 (IntKind.i64.wrap (x33739.tdiv 32))).bind fun x33740 =>
    (need (decide (0 ≤ (IntKind.u64.wrap (x33739.tmod 32))))).bind fun _ =>
    some (((x33740.fdiv (2 ^ min (IntKind.u64.wrap (x33739.tmod 32)).toNat (IntKind.u32).bits)).tmod 2)))

def ref01_Bits_L1 (n : Nat) : ((List Int) × Int) → Option (Out ((List Int) × Int) Int)
  | (x33837, x33840) =>
    (cond (decide (x33840 > 0))
    ((ref01_bit n x33837 (IntKind.i64.wrap (x33840 - 1))).bind fun x33869 =>
    some ((x33869 == 0)))
    (some (false)) : Option Bool).bind fun x33865 =>
    cond x33865
    (some (.go (x33837, (IntKind.i64.wrap (x33840 - 1)))))
    (some (.done x33840))

def ref01_Bits (n : Nat) : Int_2 → Option Int
  | x33747 =>
    (ref01_trim n x33747.Mag).bind fun x33755 =>
    (loopN (ref01_Bits_L1 n) n (x33755, (IntKind.i64.wrap (32 * (x33755.length : Int)))) : Option Int).bind fun x33815 =>
    some (x33815)

def law01_IntegerMatchesReference (n : Nat) : Int_2 → Int_2 → Option Bool
  | x33873, x33876 =>
    ((law01_awake n ).bind fun x33902 =>
    cond (!x33902)
    (some (true))
    ((law01_few n (Int_2.mk x33873.Neg x33873.Mag)).bind fun x33905 =>
    cond (!x33905)
    (some (true))
    ((law01_few n (Int_2.mk x33876.Neg x33876.Mag)).bind fun x33908 =>
    some ((!x33908)))) : Option Bool).bind fun x33898 =>
    cond x33898
    ((law01_awake n ).bind fun x33911 =>
    some (x33911))
    (((integer_Add n (Int_2.mk x33873.Neg x33873.Mag) (Int_2.mk x33876.Neg x33876.Mag)).bind fun x34072 =>
    (ref01_Add n (Int_2.mk x33873.Neg x33873.Mag) (Int_2.mk x33876.Neg x33876.Mag)).bind fun x34078 =>
    (ref01_Same n x34072 x34078).bind fun x34084 =>
    cond (!x34084)
    (some (true))
    ((integer_Sub n (Int_2.mk x33873.Neg x33873.Mag) (Int_2.mk x33876.Neg x33876.Mag)).bind fun x34087 =>
    (ref01_Sub n (Int_2.mk x33873.Neg x33873.Mag) (Int_2.mk x33876.Neg x33876.Mag)).bind fun x34093 =>
    (ref01_Same n x34087 x34093).bind fun x34099 =>
    cond (!x34099)
    (some (true))
    ((integer_Mul n (Int_2.mk x33873.Neg x33873.Mag) (Int_2.mk x33876.Neg x33876.Mag)).bind fun x34102 =>
    (ref01_Mul n (Int_2.mk x33873.Neg x33873.Mag) (Int_2.mk x33876.Neg x33876.Mag)).bind fun x34108 =>
    (ref01_Same n x34102 x34108).bind fun x34114 =>
    cond (!x34114)
    (some (true))
    ((integer_Cmp n (Int_2.mk x33873.Neg x33873.Mag) (Int_2.mk x33876.Neg x33876.Mag)).bind fun x34117 =>
    (ref01_Cmp n (Int_2.mk x33873.Neg x33873.Mag) (Int_2.mk x33876.Neg x33876.Mag)).bind fun x34120 =>
    some ((x34117 != x34120))))) : Option Bool).bind fun x34016 =>
    cond x34016
    (some (false))
    (((integer_Norm n (Int_2.mk x33873.Neg x33873.Mag)).bind fun x34299 =>
    (ref01_Norm n (Int_2.mk x33873.Neg x33873.Mag)).bind fun x34305 =>
    (ref01_Same n x34299 x34305).bind fun x34311 =>
    cond x34311
    ((integer_Neg n (Int_2.mk x33873.Neg x33873.Mag)).bind fun x34314 =>
    (ref01_Neg n (Int_2.mk x33873.Neg x33873.Mag)).bind fun x34320 =>
    (ref01_Same n x34314 x34320).bind fun x34326 =>
    cond x34326
    ((integer_Abs n (Int_2.mk x33873.Neg x33873.Mag)).bind fun x34329 =>
    (ref01_Abs n (Int_2.mk x33873.Neg x33873.Mag)).bind fun x34335 =>
    (ref01_Same n x34329 x34335).bind fun x34341 =>
    cond x34341
    ((integer_Sign n (Int_2.mk x33873.Neg x33873.Mag)).bind fun x34344 =>
    (ref01_Sign n (Int_2.mk x33873.Neg x33873.Mag)).bind fun x34347 =>
    cond (x34344 == x34347)
    ((integer_Bits n (Int_2.mk x33873.Neg x33873.Mag)).bind fun x34350 =>
    (ref01_Bits n (Int_2.mk x33873.Neg x33873.Mag)).bind fun x34353 =>
    some ((x34350 == x34353)))
    (some (false)))
    (some (false)))
    (some (false)))
    (some (false)) : Option Bool).bind fun x34237 =>
    some (x34237)))

end Go.Proofs.YthhghkcopfnbiaaGreatDoor
