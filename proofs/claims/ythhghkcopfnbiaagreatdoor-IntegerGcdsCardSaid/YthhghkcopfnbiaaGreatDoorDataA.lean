/-
  What the functions of the program compute, as plain Lean functions.
-/
import Derived.Test.YthhghkcopfnbiaaGreatDoorCoreA
namespace Go.Proofs.YthhghkcopfnbiaaGreatDoor
open Go Go.Proofs.YthhghkcopfnbiaaGreatDoor.Gw Go.RowKit
set_option linter.unusedVariables false
def pow10 : List Int := [1, 10, 100, 1000, 10000, 100000, 1000000, 10000000, 100000000, 1000000000, 10000000000, 100000000000, 1000000000000, 10000000000000, 100000000000000, 1000000000000000, 10000000000000000, 100000000000000000, 1000000000000000000, 10000000000000000000]
structure Int_2 where
  Neg : Bool
  Mag : (List Int)
def okInt_2 (x : Int_2) : Prop := True ∧ (x.Mag.length ≤ maxLen ∧ ∀ yxMag ∈ x.Mag, inK .u32 yxMag)
def strconv_FormatUint (n : Nat) (x b : Int) : Option ByteArray := fmtU x b
def strings_Repeat (n : Nat) (s : ByteArray) (c : Int) : Option ByteArray := repS s c
def strings_Join (n : Nat) (xs : List ByteArray) (sep : ByteArray) : Option ByteArray := joinS xs sep
def integer_trim_L1 : (List Int) → Option (Out (List Int) (List Int))
  | x96 =>
    (cond (decide ((x96.length : Int) > 0))
    ((idx x96 (IntKind.i64.wrap ((x96.length : Int) - 1))).bind fun x133 =>
    some ((x133 == 0)))
    (some (false)) : Option Bool).bind fun x130 =>
    cond x130
    ((cut x96 0 (IntKind.i64.wrap ((x96.length : Int) - 1))).bind fun x139 =>
    some (.go x139))
    (some (.done x96))

def integer_trim (n : Nat) : (List Int) → Option (List Int)
  | x1 =>
    (loopN (integer_trim_L1) n x1 : Option (List Int)).bind fun x72 =>
    some (x72)

def integer_made (n : Nat) : Bool → (List Int) → Option Int_2
  | x144, x145 =>
    (integer_trim n x145).bind fun x151 =>
    cond ((x151.length : Int) == 0)
    (some ((Int_2.mk false [])))
    (some ((Int_2.mk x144 x151)))

def integer_Of (n : Nat) : Int → Option Int_2
  | x163 =>
    (cond (decide (x163 < 0))
    (some ((IntKind.u64.wrap (0 - (IntKind.u64.wrap x163)))))
    (some ((IntKind.u64.wrap x163))) : Option Int).bind fun x167 =>
    (integer_made n (decide (x163 < 0)) [(IntKind.u32.wrap x167), (IntKind.u32.wrap (x167.fdiv (2 ^ min (32 : Int).toNat (IntKind.u64).bits)))]).bind fun x174 =>
    some ((Int_2.mk x174.Neg x174.Mag))

def integer_compare_L1 (x181 : (List Int)) (x184 : (List Int)) : Int → Option (Out Int (Out Unit Int))
  | x303 =>
    cond (decide (x303 ≥ 0))
    ((idx x181 x303).bind fun x335 =>
    (idx x184 x303).bind fun x341 =>
    cond (x335 != x341)
    ((idx x181 x303).bind fun x348 =>
    (idx x184 x303).bind fun x354 =>
    cond (decide (x348 < x354))
    (some (.done (.done (-1))))
    (some (.done (.done 1))))
    (some (.go (IntKind.i64.wrap (x303 - 1)))))
    (some (.done (.go ())))

def integer_compare (n : Nat) : (List Int) → (List Int) → Option Int
  | x181, x184 =>
    cond ((x181.length : Int) != (x184.length : Int))
    (cond (decide ((x181.length : Int) < (x184.length : Int)))
    (some ((-1)))
    (some (1)))
    ((loopN (integer_compare_L1 x181 x184) n (IntKind.i64.wrap ((x181.length : Int) - 1)) : Option (Out Unit Int)).bind fun y275 => (match y275 with
    | .go _ =>
    some (0)
    | .done r => some r))

def slices_Cloneuint32_uint32_ (n : Nat) : (List Int) → Option (List Int)
  | x364 =>
    (app ([] : List Int) x364).bind fun x374 =>
    some (x374)

def bits_Div32 (n : Nat) : Int → Int → Int → Option (Int × Int)
  | x381, x382, x383 =>
    ((cond (x383 != 0)
    (some ((decide (x383 ≤ x381))))
    (some (false)) : Option Bool).bind fun x389 =>
    cond x389
    (none)
    (some (())) : Option Unit).bind fun _ =>
    (need (decide ((IntKind.u64.wrap x383) ≠ 0))).bind fun _ =>
    (need (decide ((IntKind.u64.wrap x383) ≠ 0))).bind fun _ =>
    some (((IntKind.u32.wrap (IntKind.u64.wrap ((ib .or .u64 (IntKind.u64.wrap ((IntKind.u64.wrap x381) * 2 ^ min (32 : Int).toNat (IntKind.u64).bits)) (IntKind.u64.wrap x382)).tdiv (IntKind.u64.wrap x383)))), (IntKind.u32.wrap ((ib .or .u64 (IntKind.u64.wrap ((IntKind.u64.wrap x381) * 2 ^ min (32 : Int).toNat (IntKind.u64).bits)) (IntKind.u64.wrap x382)).tmod (IntKind.u64.wrap x383)))))

def integer_short_L1 (n : Nat) (x395 : (List Int)) (x398 : Int) : ((List Int) × Int × Int) → Option (Out ((List Int) × Int × Int) ((List Int) × Int))
  | (x523, x527, x528) =>
    cond (decide (x528 ≥ 0))
    ((idx x395 x528).bind fun x562 =>
    (bits_Div32 n x527 x562 x398).bind fun (x568, x569) =>
    (idx x523 x528).bind fun x572 =>
    some (.go ((upd x523 x528 x568), x569, (IntKind.i64.wrap (x528 - 1)))))
    (some (.done (x523, x527)))

def integer_short (n : Nat) : (List Int) → Int → Option ((List Int) × Int)
  | x395, x398 =>
    (mk (x395.length : Int) 0).bind fun x400 =>
    (loopN (integer_short_L1 n x395 x398) n (x400, 0, (IntKind.i64.wrap ((x395.length : Int) - 1))) : Option ((List Int) × Int)).bind fun (x492, x496) =>
    some ((x492, x496))

def bits_Len32 (n : Nat) : Int → Option Int
  | x587 =>
    (cond (decide (x587 ≥ 65536))
    (some (((x587.fdiv (2 ^ min (16 : Int).toNat (IntKind.u32).bits)), 16)))
    (some ((x587, 0))) : Option (Int × Int)).bind fun (x588, x589) =>
    (cond (decide (x588 ≥ 256))
    (some (((x588.fdiv (2 ^ min (8 : Int).toNat (IntKind.u32).bits)), (IntKind.i64.wrap (x589 + 8)))))
    (some ((x588, x589))) : Option (Int × Int)).bind fun (x592, x593) =>
    (bidx (ByteArray.mk #[0, 1, 2, 2, 3, 3, 3, 3, 4, 4, 4, 4, 4, 4, 4, 4, 5, 5, 5, 5, 5, 5, 5, 5, 5, 5, 5, 5, 5, 5, 5, 5, 6, 6, 6, 6, 6, 6, 6, 6, 6, 6, 6, 6, 6, 6, 6, 6, 6, 6, 6, 6, 6, 6, 6, 6, 6, 6, 6, 6, 6, 6, 6, 6, 7, 7, 7, 7, 7, 7, 7, 7, 7, 7, 7, 7, 7, 7, 7, 7, 7, 7, 7, 7, 7, 7, 7, 7, 7, 7, 7, 7, 7, 7, 7, 7, 7, 7, 7, 7, 7, 7, 7, 7, 7, 7, 7, 7, 7, 7, 7, 7, 7, 7, 7, 7, 7, 7, 7, 7, 7, 7, 7, 7, 7, 7, 7, 7, 8, 8, 8, 8, 8, 8, 8, 8, 8, 8, 8, 8, 8, 8, 8, 8, 8, 8, 8, 8, 8, 8, 8, 8, 8, 8, 8, 8, 8, 8, 8, 8, 8, 8, 8, 8, 8, 8, 8, 8, 8, 8, 8, 8, 8, 8, 8, 8, 8, 8, 8, 8, 8, 8, 8, 8, 8, 8, 8, 8, 8, 8, 8, 8, 8, 8, 8, 8, 8, 8, 8, 8, 8, 8, 8, 8, 8, 8, 8, 8, 8, 8, 8, 8, 8, 8, 8, 8, 8, 8, 8, 8, 8, 8, 8, 8, 8, 8, 8, 8, 8, 8, 8, 8, 8, 8, 8, 8, 8, 8, 8, 8, 8, 8, 8, 8, 8, 8, 8, 8, 8, 8, 8, 8, 8, 8, 8, 8]) (IntKind.u8.wrap x592)).bind fun x596 =>
    some ((IntKind.i64.wrap (x593 + (IntKind.i64.wrap x596))))

def bits_LeadingZeros32 (n : Nat) : Int → Option Int
  | x598 =>
    (bits_Len32 n x598).bind fun x599 =>
    some ((IntKind.i64.wrap (32 - x599)))

def integer_shifted_L1 (x602 : (List Int)) (x605 : Int) : ((List Int) × Int) → Option (Out ((List Int) × Int) (List Int))
  | (x800, x804) =>
    cond (decide (x804 < (x602.length : Int)))
    ((idx x602 x804).bind fun x855 =>
    (need (decide (0 ≤ x605))).bind fun _ =>
    (idx x800 x804).bind fun x862 =>
    (idx x800 x804).bind fun x870 =>
    (idx (upd x800 x804 (ib .or .u32 x862 (IntKind.u32.wrap (IntKind.u64.wrap ((IntKind.u64.wrap x855) * 2 ^ min x605.toNat (IntKind.u64).bits))))) (IntKind.i64.wrap (x804 + 1))).bind fun x883 =>
    some (.go ((upd (upd x800 x804 (ib .or .u32 x862 (IntKind.u32.wrap (IntKind.u64.wrap ((IntKind.u64.wrap x855) * 2 ^ min x605.toNat (IntKind.u64).bits))))) (IntKind.i64.wrap (x804 + 1)) (IntKind.u32.wrap ((IntKind.u64.wrap ((IntKind.u64.wrap x855) * 2 ^ min x605.toNat (IntKind.u64).bits)).fdiv (2 ^ min (32 : Int).toNat (IntKind.u64).bits)))), (IntKind.i64.wrap (x804 + 1)))))
    (some (.done x800))

def integer_shifted (n : Nat) : (List Int) → Int → Option (List Int)
  | x602, x605 =>
    (mk (IntKind.i64.wrap ((x602.length : Int) + 1)) 0).bind fun x608 =>
    (loopN (integer_shifted_L1 x602 x605) n (x608, 0) : Option (List Int)).bind fun x752 =>
    some (x752)

def bits_Sub32 (n : Nat) : Int → Int → Int → Option (Int × Int)
  | x897, x898, x899 =>
    some (((IntKind.u32.wrap ((IntKind.u32.wrap (x897 - x898)) - x899)), ((ib .or .u32 (ib .and .u32 (ib .xor .u32 (if (IntKind.u32).signed then -1 else (IntKind.u32).max) x897) x898) (ib .and .u32 (ib .xor .u32 (if (IntKind.u32).signed then -1 else (IntKind.u32).max) (ib .xor .u32 x897 x898)) (IntKind.u32.wrap ((IntKind.u32.wrap (x897 - x898)) - x899)))).fdiv (2 ^ min (31 : Int).toNat (IntKind.u32).bits))))

def bits_Add32 (n : Nat) : Int → Int → Int → Option (Int × Int)
  | x900, x901, x902 =>
    some (((IntKind.u32.wrap (IntKind.u64.wrap ((IntKind.u64.wrap ((IntKind.u64.wrap x900) + (IntKind.u64.wrap x901))) + (IntKind.u64.wrap x902)))), (IntKind.u32.wrap ((IntKind.u64.wrap ((IntKind.u64.wrap ((IntKind.u64.wrap x900) + (IntKind.u64.wrap x901))) + (IntKind.u64.wrap x902))).fdiv (2 ^ min (32 : Int).toNat (IntKind.u64).bits)))))

def integer_divide_L91 (x980 : (List Int)) (x9748 : (List Int)) (x9756 : Int) : (Int × Int) → Option (Out (Int × Int) Int)
  | (x13261, x13262) =>
    (cond (decide (x13261 ≥ 4294967296))
    (some (true))
    ((idx x980 (IntKind.i64.wrap ((x980.length : Int) - 2))).bind fun x13332 =>
    (idx x9748 (IntKind.i64.wrap ((IntKind.i64.wrap (x9756 + (x980.length : Int))) - 2))).bind fun x13338 =>
    some ((decide ((IntKind.u64.wrap (x13261 * (IntKind.u64.wrap x13332))) > (ib .or .u64 (IntKind.u64.wrap (x13262 * 2 ^ min (32 : Int).toNat (IntKind.u64).bits)) (IntKind.u64.wrap x13338)))))) : Option Bool).bind fun x13327 =>
    cond x13327
    ((idx x980 (IntKind.i64.wrap ((x980.length : Int) - 1))).bind fun x13347 =>
    cond (decide ((IntKind.u64.wrap (x13262 + (IntKind.u64.wrap x13347))) ≥ 4294967296))
    (some (.done (IntKind.u64.wrap (x13261 - 1))))
    (some (.go ((IntKind.u64.wrap (x13261 - 1)), (IntKind.u64.wrap (x13262 + (IntKind.u64.wrap x13347)))))))
    (some (.done x13261))

def integer_divide_L93 (n : Nat) (x980 : (List Int)) (x9756 : Int) (x13215 : Int) : ((List Int) × Int × Int × Int) → Option (Out ((List Int) × Int × Int × Int) ((List Int) × Int × Int))
  | (x13507, x13511, x13512, x13513) =>
    cond (decide (x13513 < (x980.length : Int)))
    ((idx x980 x13513).bind fun x13556 =>
    (idx x13507 (IntKind.i64.wrap (x13513 + x9756))).bind fun x13562 =>
    (bits_Sub32 n x13562 (IntKind.u32.wrap (IntKind.u64.wrap ((IntKind.u64.wrap (x13215 * (IntKind.u64.wrap x13556))) + x13511))) x13512).bind fun (x13570, x13571) =>
    (idx x13507 (IntKind.i64.wrap (x13513 + x9756))).bind fun x13574 =>
    some (.go ((upd x13507 (IntKind.i64.wrap (x13513 + x9756)) x13570), ((IntKind.u64.wrap ((IntKind.u64.wrap (x13215 * (IntKind.u64.wrap x13556))) + x13511)).fdiv (2 ^ min (32 : Int).toNat (IntKind.u64).bits)), x13571, (IntKind.i64.wrap (x13513 + 1)))))
    (some (.done (x13507, x13511, x13512)))

def integer_divide_L97 (n : Nat) (x980 : (List Int)) (x9756 : Int) : ((List Int) × Int × Int) → Option (Out ((List Int) × Int × Int) ((List Int) × Int))
  | (x14019, x14023, x14024) =>
    cond (decide (x14024 < (x980.length : Int)))
    ((idx x980 x14024).bind fun x14066 =>
    (idx x14019 (IntKind.i64.wrap (x14024 + x9756))).bind fun x14072 =>
    (bits_Add32 n x14072 x14066 x14023).bind fun (x14080, x14081) =>
    (idx x14019 (IntKind.i64.wrap (x14024 + x9756))).bind fun x14084 =>
    some (.go ((upd x14019 (IntKind.i64.wrap (x14024 + x9756)) x14080), x14081, (IntKind.i64.wrap (x14024 + 1)))))
    (some (.done (x14019, x14023)))

def integer_divide_L81 (n : Nat) (x980 : (List Int)) : ((List Int) × (List Int) × Int) → Option (Out ((List Int) × (List Int) × Int) ((List Int) × (List Int)))
  | (x9748, x9752, x9756) =>
    cond (decide (x9756 ≥ 0))
    (((idx x9748 (IntKind.i64.wrap (x9756 + (x980.length : Int)))).bind fun x13047 =>
    (idx x9748 (IntKind.i64.wrap ((IntKind.i64.wrap (x9756 + (x980.length : Int))) - 1))).bind fun x13055 =>
    (idx x980 (IntKind.i64.wrap ((x980.length : Int) - 1))).bind fun x13064 =>
    (need (decide ((IntKind.u64.wrap x13064) ≠ 0))).bind fun _ =>
    (idx x980 (IntKind.i64.wrap ((x980.length : Int) - 1))).bind fun x13071 =>
    (need (decide ((IntKind.u64.wrap x13071) ≠ 0))).bind fun _ =>
    (loopN (integer_divide_L91 x980 x9748 x9756) n ((IntKind.u64.wrap ((ib .or .u64 (IntKind.u64.wrap ((IntKind.u64.wrap x13047) * 2 ^ min (32 : Int).toNat (IntKind.u64).bits)) (IntKind.u64.wrap x13055)).tdiv (IntKind.u64.wrap x13064))), ((ib .or .u64 (IntKind.u64.wrap ((IntKind.u64.wrap x13047) * 2 ^ min (32 : Int).toNat (IntKind.u64).bits)) (IntKind.u64.wrap x13055)).tmod (IntKind.u64.wrap x13071))) : Option Int).bind fun x13215 =>
    (loopN (integer_divide_L93 n x980 x9756 x13215) n (x9748, 0, 0, 0) : Option ((List Int) × Int × Int)).bind fun (x13467, x13471, x13472) =>
    (idx x13467 (IntKind.i64.wrap (x9756 + (x980.length : Int)))).bind fun x13588 =>
    (bits_Sub32 n x13588 (IntKind.u32.wrap x13471) x13472).bind fun (x13596, x13597) =>
    (idx x13467 (IntKind.i64.wrap (x9756 + (x980.length : Int)))).bind fun x13600 =>
    (cond (x13597 != 0)
    ((loopN (integer_divide_L97 n x980 x9756) n ((upd x13467 (IntKind.i64.wrap (x9756 + (x980.length : Int))) x13596), 0, 0) : Option ((List Int) × Int)).bind fun (x13980, x13984) =>
    (idx x13980 (IntKind.i64.wrap (x9756 + (x980.length : Int)))).bind fun x14098 =>
    (idx x13980 (IntKind.i64.wrap (x9756 + (x980.length : Int)))).bind fun x14106 =>
    some (((upd x13980 (IntKind.i64.wrap (x9756 + (x980.length : Int))) (IntKind.u32.wrap (x14098 + x13984))), (IntKind.u64.wrap (x13215 - 1)))))
    (some (((upd x13467 (IntKind.i64.wrap (x9756 + (x980.length : Int))) x13596), x13215))) : Option ((List Int) × Int)).bind fun (x13862, x13866) =>
    (idx x9752 x9756).bind fun x14119 =>
    some ((x13862, (upd x9752 x9756 (IntKind.u32.wrap x13866)))) : Option ((List Int) × (List Int))).bind fun (x13036, x13040) =>
    some (.go (x13036, x13040, (IntKind.i64.wrap (x9756 - 1)))))
    (some (.done (x9748, x9752)))

def integer_divide_L99 (x943 : Int) (x7556 : (List Int)) (x14133 : (List Int)) : ((List Int) × Int) → Option (Out ((List Int) × Int) (List Int))
  | (x14285, x14289) =>
    cond (decide (x14289 < (x14133.length : Int)))
    ((idx x7556 (IntKind.i64.wrap (x14289 + 1))).bind fun x14331 =>
    (idx x7556 x14289).bind fun x14339 =>
    (need (decide (0 ≤ (IntKind.u64.wrap x943)))).bind fun _ =>
    (idx x14285 x14289).bind fun x14348 =>
    some (.go ((upd x14285 x14289 (IntKind.u32.wrap ((ib .or .u64 (IntKind.u64.wrap ((IntKind.u64.wrap x14331) * 2 ^ min (32 : Int).toNat (IntKind.u64).bits)) (IntKind.u64.wrap x14339)).fdiv (2 ^ min (IntKind.u64.wrap x943).toNat (IntKind.u64).bits)))), (IntKind.i64.wrap (x14289 + 1)))))
    (some (.done x14285))

def integer_divide (n : Nat) : (List Int) → (List Int) → Option ((List Int) × (List Int))
  | x903, x906 =>
    (integer_compare n x903 x906).bind fun x911 =>
    cond (decide (x911 < 0))
    ((slices_Cloneuint32_uint32_ n x903).bind fun x914 =>
    some (([], x914)))
    (cond ((x906.length : Int) == 1)
    ((idx x906 0).bind fun x920 =>
    (integer_short n x903 x920).bind fun (x926, x927) =>
    some ((x926, [x927])))
    ((idx x906 (IntKind.i64.wrap ((x906.length : Int) - 1))).bind fun x937 =>
    (bits_LeadingZeros32 n x937).bind fun x943 =>
    (integer_shifted n x903 (IntKind.u64.wrap x943)).bind fun x965 =>
    (integer_shifted n x906 (IntKind.u64.wrap x943)).bind fun x972 =>
    (cut x972 0 (x906.length : Int)).bind fun x980 =>
    (mk (IntKind.i64.wrap ((x965.length : Int) - (x980.length : Int))) 0).bind fun x984 =>
    (loopN (integer_divide_L81 n x980) n (x965, x984, (IntKind.i64.wrap ((IntKind.i64.wrap ((x965.length : Int) - (x980.length : Int))) - 1))) : Option ((List Int) × (List Int))).bind fun (x7556, x7560) =>
    (mk (x980.length : Int) 0).bind fun x14133 =>
    (loopN (integer_divide_L99 x943 x7556 x14133) n (x14133, 0) : Option (List Int)).bind fun x14247 =>
    some ((x7560, x14247))))

def integer_plus_L1 (n : Nat) (x14371 : (List Int)) (x14374 : (List Int)) : ((List Int) × Int × Int) → Option (Out ((List Int) × Int × Int) ((List Int) × Int))
  | (x14553, x14557, x14558) =>
    cond (decide (x14558 < (x14371.length : Int)))
    ((idx x14371 x14558).bind fun x14606 =>
    (cond (decide (x14558 < (x14374.length : Int)))
    ((idx x14374 x14558).bind fun x14621 =>
    some (x14621))
    (some (0)) : Option Int).bind fun x14618 =>
    (bits_Add32 n x14606 x14618 x14557).bind fun (x14627, x14628) =>
    (app x14553 [x14627]).bind fun x14635 =>
    some (.go (x14635, x14628, (IntKind.i64.wrap (x14558 + 1)))))
    (some (.done (x14553, x14557)))

def integer_plus (n : Nat) : (List Int) → (List Int) → Option (List Int)
  | x14364, x14367 =>
    (cond (decide ((x14364.length : Int) < (x14367.length : Int)))
    (some ((x14367, x14364)))
    (some ((x14364, x14367))) : Option ((List Int) × (List Int))).bind fun (x14371, x14374) =>
    (mkc 0 (IntKind.i64.wrap ((x14371.length : Int) + 1)) 0).bind fun x14379 =>
    (loopN (integer_plus_L1 n x14371 x14374) n (x14379, 0, 0) : Option ((List Int) × Int)).bind fun (x14509, x14513) =>
    (app x14509 [x14513]).bind fun x14646 =>
    some (x14646)

def integer_minus_L1 (n : Nat) (x14653 : (List Int)) (x14656 : (List Int)) : ((List Int) × Int × Int) → Option (Out ((List Int) × Int × Int) (List Int))
  | (x14833, x14837, x14838) =>
    cond (decide (x14838 < (x14653.length : Int)))
    ((idx x14653 x14838).bind fun x14886 =>
    (cond (decide (x14838 < (x14656.length : Int)))
    ((idx x14656 x14838).bind fun x14901 =>
    some (x14901))
    (some (0)) : Option Int).bind fun x14898 =>
    (bits_Sub32 n x14886 x14898 x14837).bind fun (x14907, x14908) =>
    (app x14833 [x14907]).bind fun x14915 =>
    some (.go (x14915, x14908, (IntKind.i64.wrap (x14838 + 1)))))
    (some (.done x14833))

def integer_minus (n : Nat) : (List Int) → (List Int) → Option (List Int)
  | x14653, x14656 =>
    (mkc 0 (x14653.length : Int) 0).bind fun x14660 =>
    (loopN (integer_minus_L1 n x14653 x14656) n (x14660, 0, 0) : Option (List Int)).bind fun x14790 =>
    some (x14790)

def integer_Add (n : Nat) : Int_2 → Int_2 → Option Int_2
  | x14923, x14926 =>
    (integer_trim n x14923.Mag).bind fun x14954 =>
    (integer_trim n x14926.Mag).bind fun x14960 =>
    cond (x14923.Neg == x14926.Neg)
    ((integer_plus n x14954 x14960).bind fun x14979 =>
    (integer_made n x14923.Neg x14979).bind fun x14985 =>
    some ((Int_2.mk x14985.Neg x14985.Mag)))
    ((integer_compare n x14954 x14960).bind fun x14992 =>
    cond (decide (x14992 ≥ 0))
    ((integer_minus n x14954 x14960).bind fun x15008 =>
    (integer_made n x14923.Neg x15008).bind fun x15014 =>
    some ((Int_2.mk x15014.Neg x15014.Mag)))
    ((integer_minus n x14960 x14954).bind fun x15034 =>
    (integer_made n x14926.Neg x15034).bind fun x15040 =>
    some ((Int_2.mk x15040.Neg x15040.Mag))))

def integer_DivMod (n : Nat) : Int_2 → Int_2 → Option (Int_2 × Int_2 × Int)
  | x15260, x15263 =>
    (integer_trim n x15260.Mag).bind fun x15294 =>
    (integer_trim n x15263.Mag).bind fun x15300 =>
    cond ((x15300.length : Int) == 0)
    (some (((Int_2.mk false []), (Int_2.mk false []), 10)))
    ((integer_divide n x15294 x15300).bind fun (x15308, x15309) =>
    ((integer_made n (!(x15260.Neg == x15263.Neg)) x15308).bind fun x15799 =>
    (integer_made n x15260.Neg x15309).bind fun x15805 =>
    some ((x15799.Neg, x15799.Mag, x15805.Neg, x15805.Mag)) : Option (Bool × (List Int) × Bool × (List Int))).bind fun (x15630, x15631, x15635, x15636) =>
    (cond x15635
    ((integer_Add n (Int_2.mk x15635 x15636) (Int_2.mk false x15300)).bind fun x15997 =>
    (integer_Add n (Int_2.mk x15630 x15631) (Int_2.mk (!x15263.Neg) [1])).bind fun x16012 =>
    some ((x16012.Neg, x16012.Mag, x15997.Neg, x15997.Mag)))
    (some ((x15630, x15631, x15635, x15636))) : Option (Bool × (List Int) × Bool × (List Int))).bind fun (x15981, x15982, x15985, x15986) =>
    some (((Int_2.mk x15981 x15982), (Int_2.mk x15985 x15986), 0)))

def integer_Small_L1 (x16031 : (List Int)) : (Int × Int) → Option (Out (Int × Int) Int)
  | (x16076, x16077) =>
    cond (decide (x16077 < (x16031.length : Int)))
    ((idx x16031 x16077).bind fun x16090 =>
    (need (decide (0 ≤ (IntKind.i64.wrap (32 * x16077))))).bind fun _ =>
    some (.go ((ib .or .u64 x16076 (IntKind.u64.wrap ((IntKind.u64.wrap x16090) * 2 ^ min (IntKind.i64.wrap (32 * x16077)).toNat (IntKind.u64).bits))), (IntKind.i64.wrap (x16077 + 1)))))
    (some (.done x16076))

def integer_Small (n : Nat) : Int_2 → Option (Int × Bool)
  | x16023 =>
    (integer_trim n x16023.Mag).bind fun x16031 =>
    cond (decide ((x16031.length : Int) > 2))
    (some ((0, false)))
    ((loopN (integer_Small_L1 x16031) n (0, 0) : Option Int).bind fun x16066 =>
    (cond x16023.Neg
    (some ((decide (x16066 ≤ 9223372036854775808))))
    (some (false)) : Option Bool).bind fun x16098 =>
    cond x16098
    (some (((IntKind.i64.wrap (IntKind.u64.wrap (0 - x16066))), true)))
    ((cond (!x16023.Neg)
    (some ((decide (x16066 < 9223372036854775808))))
    (some (false)) : Option Bool).bind fun x16101 =>
    cond x16101
    (some (((IntKind.i64.wrap x16066), true)))
    (some ((0, false)))))

def integer_Sign (n : Nat) : Int_2 → Option Int
  | x16104 =>
    (integer_trim n x16104.Mag).bind fun x16112 =>
    cond ((x16112.length : Int) == 0)
    (some (0))
    (cond x16104.Neg
    (some ((-1)))
    (some (1)))

def integer_Bits (n : Nat) : Int_2 → Option Int
  | x16118 =>
    (integer_trim n x16118.Mag).bind fun x16126 =>
    cond ((x16126.length : Int) == 0)
    (some (0))
    ((idx x16126 (IntKind.i64.wrap ((x16126.length : Int) - 1))).bind fun x16132 =>
    (bits_Len32 n x16132).bind fun x16138 =>
    some ((IntKind.i64.wrap ((IntKind.i64.wrap (32 * (IntKind.i64.wrap ((x16126.length : Int) - 1)))) + x16138))))

def integer_Cmp (n : Nat) : Int_2 → Int_2 → Option Int
  | x16141, x16144 =>
    (integer_Sign n (Int_2.mk x16141.Neg x16141.Mag)).bind fun x16157 =>
    (integer_Sign n (Int_2.mk x16144.Neg x16144.Mag)).bind fun x16159 =>
    cond (decide (x16157 < x16159))
    (some ((-1)))
    (cond (decide (x16157 > x16159))
    (some (1))
    ((integer_trim n x16141.Mag).bind fun x16177 =>
    (integer_trim n x16144.Mag).bind fun x16183 =>
    (integer_compare n x16177 x16183).bind fun x16189 =>
    some ((IntKind.i64.wrap (x16157 * x16189)))))

def integer_Sqrt_L0 (n : Nat) (x16192 : Int_2) : (Bool × (List Int)) → Option (Out (Bool × (List Int)) (Int_2 × Int))
  | (x16290, x16291) =>
    (integer_DivMod n (Int_2.mk x16192.Neg x16192.Mag) (Int_2.mk x16290 x16291)).bind fun (x16353, x16354, x16355) =>
    (integer_Add n (Int_2.mk x16290 x16291) (Int_2.mk x16353.Neg x16353.Mag)).bind fun x16369 =>
    (integer_Of n 2).bind fun x16375 =>
    (integer_DivMod n x16369 x16375).bind fun (x16381, x16382, x16383) =>
    (integer_Cmp n (Int_2.mk x16381.Neg x16381.Mag) (Int_2.mk x16290 x16291)).bind fun x16397 =>
    cond (decide (x16397 ≥ 0))
    (some (.done ((Int_2.mk x16290 x16291), 0)))
    (some (.go (x16381.Neg, x16381.Mag)))

def integer_Sqrt (n : Nat) : Int_2 → Option (Int_2 × Int)
  | x16192 =>
    (integer_Sign n (Int_2.mk x16192.Neg x16192.Mag)).bind fun x16203 =>
    cond (x16203 == (-1))
    (some (((Int_2.mk false []), 2)))
    (cond (x16203 == 0)
    (some (((Int_2.mk false []), 0)))
    ((integer_Bits n (Int_2.mk x16192.Neg x16192.Mag)).bind fun x16208 =>
    (mk (IntKind.i64.wrap ((IntKind.i64.wrap ((IntKind.i64.wrap ((IntKind.i64.wrap (x16208 + 1)).tdiv 2)).tdiv 32)) + 1)) 0).bind fun x16211 =>
    (need (decide (0 ≤ ((IntKind.i64.wrap ((IntKind.i64.wrap (x16208 + 1)).tdiv 2)).tmod 32)))).bind fun _ =>
    (idx x16211 (IntKind.i64.wrap ((IntKind.i64.wrap ((IntKind.i64.wrap (x16208 + 1)).tdiv 2)).tdiv 32))).bind fun x16218 =>
    (integer_made n false (upd x16211 (IntKind.i64.wrap ((IntKind.i64.wrap ((IntKind.i64.wrap (x16208 + 1)).tdiv 2)).tdiv 32)) (IntKind.u32.wrap ((1 : Int) * 2 ^ min ((IntKind.i64.wrap ((IntKind.i64.wrap (x16208 + 1)).tdiv 2)).tmod 32).toNat (IntKind.u32).bits)))).bind fun x16232 =>
    loopN (integer_Sqrt_L0 n x16192) n (x16232.Neg, x16232.Mag)))

def stringslite_HasPrefix (n : Nat) : ByteArray → ByteArray → Option Bool
  | x16403, x16404 =>
    (cond (decide ((x16403.size : Int) ≥ (x16404.size : Int)))
    ((scut x16403 0 (x16404.size : Int)).bind fun x16410 =>
    some ((x16410.toList == x16404.toList)))
    (some (false)) : Option Bool).bind fun x16407 =>
    some (x16407)

def stringslite_CutPrefix (n : Nat) : ByteArray → ByteArray → Option (ByteArray × Bool)
  | x16412, x16413 =>
    (stringslite_HasPrefix n x16412 x16413).bind fun x16414 =>
    cond (!x16414)
    (some ((x16412, false)))
    ((scut x16412 (x16413.size : Int) (x16412.size : Int)).bind fun x16417 =>
    some ((x16417, true)))

def strings_CutPrefix (n : Nat) : ByteArray → ByteArray → Option (ByteArray × Bool)
  | x16419, x16420 =>
    (stringslite_CutPrefix n x16419 x16420).bind fun (x16421, x16422) =>
    some ((x16421, x16422))

def bits_Len64 (n : Nat) : Int → Option Int
  | x16425 =>
    (cond (decide (x16425 ≥ 4294967296))
    (some (((x16425.fdiv (2 ^ min (32 : Int).toNat (IntKind.u64).bits)), 32)))
    (some ((x16425, 0))) : Option (Int × Int)).bind fun (x16426, x16427) =>
    (cond (decide (x16426 ≥ 65536))
    (some (((x16426.fdiv (2 ^ min (16 : Int).toNat (IntKind.u64).bits)), (IntKind.i64.wrap (x16427 + 16)))))
    (some ((x16426, x16427))) : Option (Int × Int)).bind fun (x16430, x16431) =>
    (cond (decide (x16430 ≥ 256))
    (some (((x16430.fdiv (2 ^ min (8 : Int).toNat (IntKind.u64).bits)), (IntKind.i64.wrap (x16431 + 8)))))
    (some ((x16430, x16431))) : Option (Int × Int)).bind fun (x16434, x16435) =>
    (bidx (ByteArray.mk #[0, 1, 2, 2, 3, 3, 3, 3, 4, 4, 4, 4, 4, 4, 4, 4, 5, 5, 5, 5, 5, 5, 5, 5, 5, 5, 5, 5, 5, 5, 5, 5, 6, 6, 6, 6, 6, 6, 6, 6, 6, 6, 6, 6, 6, 6, 6, 6, 6, 6, 6, 6, 6, 6, 6, 6, 6, 6, 6, 6, 6, 6, 6, 6, 7, 7, 7, 7, 7, 7, 7, 7, 7, 7, 7, 7, 7, 7, 7, 7, 7, 7, 7, 7, 7, 7, 7, 7, 7, 7, 7, 7, 7, 7, 7, 7, 7, 7, 7, 7, 7, 7, 7, 7, 7, 7, 7, 7, 7, 7, 7, 7, 7, 7, 7, 7, 7, 7, 7, 7, 7, 7, 7, 7, 7, 7, 7, 7, 8, 8, 8, 8, 8, 8, 8, 8, 8, 8, 8, 8, 8, 8, 8, 8, 8, 8, 8, 8, 8, 8, 8, 8, 8, 8, 8, 8, 8, 8, 8, 8, 8, 8, 8, 8, 8, 8, 8, 8, 8, 8, 8, 8, 8, 8, 8, 8, 8, 8, 8, 8, 8, 8, 8, 8, 8, 8, 8, 8, 8, 8, 8, 8, 8, 8, 8, 8, 8, 8, 8, 8, 8, 8, 8, 8, 8, 8, 8, 8, 8, 8, 8, 8, 8, 8, 8, 8, 8, 8, 8, 8, 8, 8, 8, 8, 8, 8, 8, 8, 8, 8, 8, 8, 8, 8, 8, 8, 8, 8, 8, 8, 8, 8, 8, 8, 8, 8, 8, 8, 8, 8, 8, 8, 8, 8, 8, 8]) (IntKind.u8.wrap x16434)).bind fun x16438 =>
    some ((IntKind.i64.wrap (x16435 + (IntKind.i64.wrap x16438))))

def integer_times_L25 (x16443 : (List Int)) (x18291 : Int) (x18984 : Int) : ((List Int) × Int × Int) → Option (Out ((List Int) × Int × Int) ((List Int) × Int))
  | (x19123, x19127, x19128) =>
    cond (decide (x19128 < (x16443.length : Int)))
    ((idx x16443 x19128).bind fun x19166 =>
    (idx x19123 (IntKind.i64.wrap (x18291 + x19128))).bind fun x19172 =>
    (idx x19123 (IntKind.i64.wrap (x18291 + x19128))).bind fun x19180 =>
    some (.go ((upd x19123 (IntKind.i64.wrap (x18291 + x19128)) (IntKind.u32.wrap (IntKind.u64.wrap ((IntKind.u64.wrap ((IntKind.u64.wrap ((IntKind.u64.wrap x18984) * (IntKind.u64.wrap x19166))) + (IntKind.u64.wrap x19172))) + x19127)))), ((IntKind.u64.wrap ((IntKind.u64.wrap ((IntKind.u64.wrap ((IntKind.u64.wrap x18984) * (IntKind.u64.wrap x19166))) + (IntKind.u64.wrap x19172))) + x19127)).fdiv (2 ^ min (32 : Int).toNat (IntKind.u64).bits)), (IntKind.i64.wrap (x19128 + 1)))))
    (some (.done (x19123, x19127)))

def integer_times_L21 (n : Nat) (x16440 : (List Int)) (x16443 : (List Int)) : ((List Int) × Int) → Option (Out ((List Int) × Int) (List Int))
  | (x18287, x18291) =>
    cond (decide (x18291 < (x16440.length : Int)))
    (((idx x16440 x18291).bind fun x18984 =>
    (loopN (integer_times_L25 x16443 x18291 x18984) n (x18287, 0, 0) : Option ((List Int) × Int)).bind fun (x19088, x19092) =>
    (idx x19088 (IntKind.i64.wrap (x18291 + (x16443.length : Int)))).bind fun x19194 =>
    some ((upd x19088 (IntKind.i64.wrap (x18291 + (x16443.length : Int))) (IntKind.u32.wrap x19092))) : Option (List Int)).bind fun x18977 =>
    some (.go (x18977, (IntKind.i64.wrap (x18291 + 1)))))
    (some (.done x18287))

def integer_times (n : Nat) : (List Int) → (List Int) → Option (List Int)
  | x16440, x16443 =>
    (mk (IntKind.i64.wrap ((x16440.length : Int) + (x16443.length : Int))) 0).bind fun x16447 =>
    (loopN (integer_times_L21 n x16440 x16443) n (x16447, 0) : Option (List Int)).bind fun x17827 =>
    some (x17827)

def integer_Parse (n : Nat) : ByteArray → Option (Int_2 × Int)
  | x19209 =>
    cond (decide ((x19209.size : Int) > 2000))
    (some (((Int_2.mk false []), 6)))
    ((strings_CutPrefix n x19209 (ByteArray.mk #[45])).bind fun (x19214, x19215) =>
    (cond (x19214.toList == (ByteArray.mk #[]).toList)
    (some (()))
    ((bidx x19214 0).bind fun x19222 =>
    cond (x19222 == 48)
    (cond (!(x19209.toList == (ByteArray.mk #[48]).toList))
    (some (()))
    (none))
    (none)) : Option Unit).bind fun _ =>
    some (((Int_2.mk false []), 3)))

def ref01_trim_L1 : (List Int) → Option (Out (List Int) (List Int))
  | x19321 =>
    (cond (decide ((x19321.length : Int) > 0))
    ((idx x19321 (IntKind.i64.wrap ((x19321.length : Int) - 1))).bind fun x19358 =>
    some ((x19358 == 0)))
    (some (false)) : Option Bool).bind fun x19355 =>
    cond x19355
    ((cut x19321 0 (IntKind.i64.wrap ((x19321.length : Int) - 1))).bind fun x19364 =>
    some (.go x19364))
    (some (.done x19321))

def ref01_trim (n : Nat) : (List Int) → Option (List Int)
  | x19225 =>
    (loopN (ref01_trim_L1) n x19225 : Option (List Int)).bind fun x19297 =>
    (app ([] : List Int) x19297).bind fun x19373 =>
    some (x19373)

def ref01_Norm (n : Nat) : Int_2 → Option Int_2
  | x19379 =>
    (ref01_trim n x19379.Mag).bind fun x19390 =>
    (cond x19379.Neg
    (some (((decide ((x19390.length : Int) > 0)), x19390)))
    (some ((false, x19390))) : Option (Bool × (List Int))).bind fun (x19407, x19408) =>
    some ((Int_2.mk x19407 x19408))

def ref01_Of (n : Nat) : Int → Option Int_2
  | x19426 =>
    (cond (decide (x19426 < 0))
    (some ((IntKind.u64.wrap (0 - (IntKind.u64.wrap x19426)))))
    (some ((IntKind.u64.wrap x19426))) : Option Int).bind fun x19430 =>
    (ref01_Norm n (Int_2.mk (decide (x19426 < 0)) [(IntKind.u32.wrap x19430), (IntKind.u32.wrap (x19430.fdiv (2 ^ min (32 : Int).toNat (IntKind.u64).bits)))])).bind fun x19441 =>
    some ((Int_2.mk x19441.Neg x19441.Mag))

def ref01_Same_L1 (x19448 : Int_2) (x19451 : Int_2) : Int → Option (Out Int (Out Unit Bool))
  | x19530 =>
    cond (decide (x19530 < (x19448.Mag.length : Int)))
    ((idx x19448.Mag x19530).bind fun x19549 =>
    (idx x19451.Mag x19530).bind fun x19555 =>
    cond (x19549 != x19555)
    (some (.done (.done false)))
    (some (.go (IntKind.i64.wrap (x19530 + 1)))))
    (some (.done (.go ())))

def ref01_Same (n : Nat) : Int_2 → Int_2 → Option Bool
  | x19448, x19451 =>
    (cond (!(x19448.Neg == x19451.Neg))
    (some (true))
    (some (((x19448.Mag.length : Int) != (x19451.Mag.length : Int)))) : Option Bool).bind fun x19464 =>
    cond x19464
    (some (false))
    ((loopN (ref01_Same_L1 x19448 x19451) n 0 : Option (Out Unit Bool)).bind fun y19515 => (match y19515 with
    | .go _ =>
    some (true)
    | .done r => some r))

def bits_Mul32 (n : Nat) : Int → Int → Option (Int × Int)
  | x19566, x19567 =>
    some (((IntKind.u32.wrap ((IntKind.u64.wrap ((IntKind.u64.wrap x19566) * (IntKind.u64.wrap x19567))).fdiv (2 ^ min (32 : Int).toNat (IntKind.u64).bits))), (IntKind.u32.wrap (IntKind.u64.wrap ((IntKind.u64.wrap x19566) * (IntKind.u64.wrap x19567))))))

def bits_Mul64 (n : Nat) : Int → Int → Option (Int × Int)
  | x19568, x19569 =>
    some (((IntKind.u64.wrap ((IntKind.u64.wrap ((IntKind.u64.wrap ((x19568.fdiv (2 ^ min (32 : Int).toNat (IntKind.u64).bits)) * (x19569.fdiv (2 ^ min (32 : Int).toNat (IntKind.u64).bits)))) + ((IntKind.u64.wrap ((IntKind.u64.wrap ((x19568.fdiv (2 ^ min (32 : Int).toNat (IntKind.u64).bits)) * (ib .and .u64 x19569 4294967295))) + ((IntKind.u64.wrap ((ib .and .u64 x19568 4294967295) * (ib .and .u64 x19569 4294967295))).fdiv (2 ^ min (32 : Int).toNat (IntKind.u64).bits)))).fdiv (2 ^ min (32 : Int).toNat (IntKind.u64).bits)))) + ((IntKind.u64.wrap ((ib .and .u64 (IntKind.u64.wrap ((IntKind.u64.wrap ((x19568.fdiv (2 ^ min (32 : Int).toNat (IntKind.u64).bits)) * (ib .and .u64 x19569 4294967295))) + ((IntKind.u64.wrap ((ib .and .u64 x19568 4294967295) * (ib .and .u64 x19569 4294967295))).fdiv (2 ^ min (32 : Int).toNat (IntKind.u64).bits)))) 4294967295) + (IntKind.u64.wrap ((ib .and .u64 x19568 4294967295) * (x19569.fdiv (2 ^ min (32 : Int).toNat (IntKind.u64).bits)))))).fdiv (2 ^ min (32 : Int).toNat (IntKind.u64).bits)))), (IntKind.u64.wrap (x19568 * x19569))))

def bits_Mul (n : Nat) : Int → Int → Option (Int × Int)
  | x19570, x19571 =>
    (bits_Mul64 n x19570 x19571).bind fun (x19572, x19573) =>
    some ((x19572, x19573))

def strings_HasPrefix (n : Nat) : ByteArray → ByteArray → Option Bool
  | x19576, x19577 =>
    (stringslite_HasPrefix n x19576 x19577).bind fun x19578 =>
    some (x19578)

def slices_Reversestring_string__L0 : ((List ByteArray) × Int × Int) → Option (Out ((List ByteArray) × Int × Int) (List ByteArray))
  | (x19988, x19992, x19993) =>
    cond (decide (x19992 < x19993))
    (((idx x19988 x19993).bind fun x20558 =>
    (idx x19988 x19992).bind fun x20566 =>
    (idx x19988 x19992).bind fun x20574 =>
    (idx (upd x19988 x19992 x20558) x19993).bind fun x20587 =>
    some ((upd (upd x19988 x19992 x20558) x19993 x20566)) : Option (List ByteArray)).bind fun x20467 =>
    some (.go (x20467, (IntKind.i64.wrap (x19992 + 1)), (IntKind.i64.wrap (x19993 - 1)))))
    (some (.done x19988))

def slices_Reversestring_string_ (n : Nat) : (List ByteArray) → Option (List ByteArray)
  | x19672 =>
    loopN (slices_Reversestring_string__L0) n (x19672, 0, (IntKind.i64.wrap ((x19672.length : Int) - 1)))

def integer_Text_L1 (n : Nat) : ((List Int) × (List ByteArray)) → Option (Out ((List Int) × (List ByteArray)) (List ByteArray))
  | (x20835, x20838) =>
    cond (decide ((x20835.length : Int) > 0))
    ((integer_short n x20835 1000000000).bind fun (x20894, x20895) =>
    (integer_trim n x20894).bind fun x20901 =>
    (strconv_FormatUint n (IntKind.u64.wrap x20895) 10).bind fun x20907 =>
    (cond (decide ((x20901.length : Int) > 0))
    ((strings_Repeat n (ByteArray.mk #[48]) (IntKind.i64.wrap (9 - (x20907.size : Int)))).bind fun x20918 =>
    (need (decide (x20918.size + x20907.size ≤ 9223372036854775807))).bind fun _ =>
    some ((x20918 ++ x20907)))
    (some (x20907)) : Option ByteArray).bind fun x20914 =>
    (app x20838 [x20914]).bind fun x20926 =>
    some (.go (x20901, x20926)))
    (some (.done x20838))

def integer_Text (n : Nat) : Int_2 → Option ByteArray
  | x20631 =>
    (integer_trim n x20631.Mag).bind fun x20639 =>
    (slices_Cloneuint32_uint32_ n x20639).bind fun x20645 =>
    cond ((x20645.length : Int) == 0)
    (some ((ByteArray.mk #[48])))
    ((loopN (integer_Text_L1 n) n (x20645, []) : Option (List ByteArray)).bind fun x20788 =>
    (cond x20631.Neg
    ((app x20788 [(ByteArray.mk #[45])]).bind fun x20955 =>
    some (x20955))
    (some (x20788)) : Option (List ByteArray)).bind fun x20943 =>
    (slices_Reversestring_string_ n x20943).bind fun x20961 =>
    (strings_Join n x20961 (ByteArray.mk #[])).bind fun x20968 =>
    some (x20968))

def integer_Abs (n : Nat) : Int_2 → Option Int_2
  | x20971 =>
    (integer_trim n x20971.Mag).bind fun x20982 =>
    (slices_Cloneuint32_uint32_ n x20982).bind fun x20988 =>
    (integer_made n false x20988).bind fun x20994 =>
    some ((Int_2.mk x20994.Neg x20994.Mag))

def integer_Gcd_L1 (n : Nat) : (Bool × (List Int) × Bool × (List Int)) → Option (Out (Bool × (List Int) × Bool × (List Int)) (Bool × (List Int)))
  | (x21944, x21945, x21948, x21949) =>
    cond (decide ((x21949.length : Int) > 0))
    ((integer_DivMod n (Int_2.mk x21944 x21945) (Int_2.mk x21948 x21949)).bind fun (x21986, x21987, x21988) =>
    some (.go (x21948, x21949, x21987.Neg, x21987.Mag)))
    (some (.done (x21944, x21945)))

def integer_Gcd (n : Nat) : Int_2 → Int_2 → Option Int_2
  | x21176, x21179 =>
    ((integer_Abs n (Int_2.mk x21176.Neg x21176.Mag)).bind fun x21677 =>
    (integer_Abs n (Int_2.mk x21179.Neg x21179.Mag)).bind fun x21683 =>
    some ((x21677.Neg, x21677.Mag, x21683.Neg, x21683.Mag)) : Option (Bool × (List Int) × Bool × (List Int))).bind fun (x21508, x21509, x21513, x21514) =>
    (loopN (integer_Gcd_L1 n) n (x21508, x21509, x21513, x21514) : Option (Bool × (List Int))).bind fun (x21916, x21917) =>
    some ((Int_2.mk x21916 x21917))

def law01_awake (n : Nat) : Option Bool :=
    (integer_Of n (-7)).bind fun x22008 =>
    (integer_Of n 2).bind fun x22014 =>
    (integer_DivMod n x22008 x22014).bind fun (x22020, x22021, x22022) =>
    (integer_DivMod n (Int_2.mk x22020.Neg x22020.Mag) (Int_2.mk true [0])).bind fun (x22044, x22045, x22046) =>
    (integer_Small n (Int_2.mk true [7, 0])).bind fun (x22068, x22069) =>
    (integer_Of n 24).bind fun x22072 =>
    (integer_Sqrt n x22072).bind fun (x22078, x22079) =>
    (integer_Parse n (ByteArray.mk #[45, 48])).bind fun (x22088, x22089) =>
    ((ref01_Of n (-4)).bind fun x22361 =>
    (ref01_Same n (Int_2.mk x22020.Neg x22020.Mag) x22361).bind fun x22367 =>
    (need (decide (x22367 = true))).bind fun _ =>
    (ref01_Of n 1).bind fun x22371 =>
    (ref01_Same n (Int_2.mk x22021.Neg x22021.Mag) x22371).bind fun x22377 =>
    (need (decide (x22377 = true))).bind fun _ =>
    (need (decide ((x22022 == 0) = true))).bind fun _ =>
    (need (decide ((x22046 == 10) = true))).bind fun _ =>
    (need (decide ((x22068 == (-7)) = true))).bind fun _ =>
    (need (decide (x22069 = true))).bind fun _ =>
    (ref01_Of n 4).bind fun x22385 =>
    (ref01_Same n (Int_2.mk x22078.Neg x22078.Mag) x22385).bind fun x22391 =>
    (need (decide (x22391 = true))).bind fun _ =>
    (need (decide ((x22079 == 0) = true))).bind fun _ =>
    (need (decide ((x22089 == 3) = true))).bind fun _ =>
    (need (decide (((x22088.Mag.length : Int) == 0) = true))).bind fun _ =>
    (integer_Text n (Int_2.mk true [0, 1])).bind fun x22406 =>
    (need (decide ((x22406.toList == (ByteArray.mk #[45, 52, 50, 57, 52, 57, 54, 55, 50, 57, 54]).toList) = true))).bind fun _ =>
    (integer_Of n (-12)).bind fun x22410 =>
    (integer_Of n 18).bind fun x22416 =>
    (integer_Gcd n x22410 x22416).bind fun x22422 =>
    (ref01_Of n 6).bind fun x22428 =>
    (ref01_Same n x22422 x22428).bind fun x22434 =>
    (need (decide (x22434 = true))).bind fun _ =>
    (integer_Of n (-8)).bind fun x22438 =>
    (integer_Bits n x22438).bind fun x22444 =>
    some ((x22444 == 4)) : Option Bool).bind fun x22270 =>
    some (x22270)

def law01_few (n : Nat) : Int_2 → Option Bool
  | x22447 =>
    some ((decide ((x22447.Mag.length : Int) ≤ 12)))

def ref01_cmp_L1 (x22455 : (List Int)) (x22458 : (List Int)) : Int → Option (Out Int (Out Unit Int))
  | x22577 =>
    cond (decide (x22577 ≥ 0))
    ((idx x22455 x22577).bind fun x22609 =>
    (idx x22458 x22577).bind fun x22615 =>
    cond (decide (x22609 < x22615))
    (some (.done (.done (-1))))
    ((idx x22455 x22577).bind fun x22623 =>
    (idx x22458 x22577).bind fun x22629 =>
    cond (decide (x22623 > x22629))
    (some (.done (.done 1)))
    (some (.go (IntKind.i64.wrap (x22577 - 1))))))
    (some (.done (.go ())))

def ref01_cmp (n : Nat) : (List Int) → (List Int) → Option Int
  | x22455, x22458 =>
    cond ((x22455.length : Int) != (x22458.length : Int))
    (cond (decide ((x22455.length : Int) < (x22458.length : Int)))
    (some ((-1)))
    (some (1)))
    ((loopN (ref01_cmp_L1 x22455 x22458) n (IntKind.i64.wrap ((x22455.length : Int) - 1)) : Option (Out Unit Int)).bind fun y22549 => (match y22549 with
    | .go _ =>
    some (0)
    | .done r => some r))

def ref01_Cmp (n : Nat) : Int_2 → Int_2 → Option Int
  | x22638, x22641 =>
    (ref01_Norm n (Int_2.mk x22638.Neg x22638.Mag)).bind fun x22648 =>
    (ref01_Norm n (Int_2.mk x22641.Neg x22641.Mag)).bind fun x22655 =>
    cond (!(x22648.Neg == x22655.Neg))
    (cond x22648.Neg
    (some ((-1)))
    (some (1)))
    (cond x22648.Neg
    ((ref01_cmp n x22655.Mag x22648.Mag).bind fun x22662 =>
    some (x22662))
    ((ref01_cmp n x22648.Mag x22655.Mag).bind fun x22665 =>
    some (x22665)))

def ref01_Small_L1 (x22668 : Int_2) (x22753 : (List Int)) : (Int × Int) → Option (Out (Int × Int) Int)
  | (x22911, x22912) =>
    cond (decide (x22912 ≥ 0))
    ((cond x22668.Neg
    ((idx x22753 x22912).bind fun x22972 =>
    some ((IntKind.i64.wrap ((IntKind.i64.wrap (x22911 * 4294967296)) - (IntKind.i64.wrap x22972)))))
    ((idx x22753 x22912).bind fun x22980 =>
    some ((IntKind.i64.wrap ((IntKind.i64.wrap (x22911 * 4294967296)) + (IntKind.i64.wrap x22980))))) : Option Int).bind fun x22969 =>
    some (.go (x22969, (IntKind.i64.wrap (x22912 - 1)))))
    (some (.done x22911))

def ref01_Small (n : Nat) : Int_2 → Option (Int × Bool)
  | x22668 =>
    ((ref01_Of n (-9223372036854775808)).bind fun x22735 =>
    (ref01_Cmp n (Int_2.mk x22668.Neg x22668.Mag) x22735).bind fun x22741 =>
    cond (decide (x22741 < 0))
    (some (true))
    ((ref01_Of n 9223372036854775807).bind fun x22744 =>
    (ref01_Cmp n (Int_2.mk x22668.Neg x22668.Mag) x22744).bind fun x22750 =>
    some ((decide (x22750 > 0)))) : Option Bool).bind fun x22712 =>
    cond x22712
    (some ((0, false)))
    ((ref01_trim n x22668.Mag).bind fun x22753 =>
    (loopN (ref01_Small_L1 x22668 x22753) n (0, (IntKind.i64.wrap ((x22753.length : Int) - 1))) : Option Int).bind fun x22873 =>
    some ((x22873, true)))

def law01_IntegerLarges (n : Nat) : Int_2 → Option Bool
  | x22989 =>
    ((law01_awake n ).bind fun x23007 =>
    cond (!x23007)
    (some (true))
    ((law01_few n (Int_2.mk x22989.Neg x22989.Mag)).bind fun x23010 =>
    some ((!x23010))) : Option Bool).bind fun x23003 =>
    cond x23003
    ((law01_awake n ).bind fun x23013 =>
    some (x23013))
    ((integer_Small n (Int_2.mk x22989.Neg x22989.Mag)).bind fun (x23016, x23017) =>
    (ref01_Small n (Int_2.mk x22989.Neg x22989.Mag)).bind fun (x23020, x23021) =>
    (cond (x23016 != x23020)
    (some (true))
    (some ((!(x23017 == x23021)))) : Option Bool).bind fun x23024 =>
    cond x23024
    (some (false))
    (cond x23017
    ((integer_Of n x23016).bind fun x23036 =>
    (integer_Cmp n x23036 (Int_2.mk x22989.Neg x22989.Mag)).bind fun x23042 =>
    some ((x23042 == 0)))
    ((integer_Bits n (Int_2.mk x22989.Neg x22989.Mag)).bind fun x23045 =>
    some ((decide (x23045 ≥ 64))))))

def ref01_Abs (n : Nat) : Int_2 → Option Int_2
  | x23048 =>
    (ref01_Norm n (Int_2.mk false x23048.Mag)).bind fun x23063 =>
    some ((Int_2.mk x23063.Neg x23063.Mag))

def ref01_half_L1 (x23070 : (List Int)) : ((List Int) × Int) → Option (Out ((List Int) × Int) (List Int))
  | (x23526, x23530) =>
    cond (decide (x23530 < (x23526.length : Int)))
    (((idx x23526 x23530).bind fun x23701 =>
    (idx x23526 x23530).bind fun x23709 =>
    cond (decide ((IntKind.i64.wrap (x23530 + 1)) < (x23070.length : Int)))
    ((idx (upd x23526 x23530 (x23701.fdiv (2 ^ min (1 : Int).toNat (IntKind.u32).bits))) x23530).bind fun x23723 =>
    (idx x23070 (IntKind.i64.wrap (x23530 + 1))).bind fun x23731 =>
    (idx (upd x23526 x23530 (x23701.fdiv (2 ^ min (1 : Int).toNat (IntKind.u32).bits))) x23530).bind fun x23737 =>
    some ((upd (upd x23526 x23530 (x23701.fdiv (2 ^ min (1 : Int).toNat (IntKind.u32).bits))) x23530 (IntKind.u32.wrap (x23723 + (IntKind.u32.wrap ((x23731.tmod 2) * 2 ^ min (31 : Int).toNat (IntKind.u32).bits)))))))
    (some ((upd x23526 x23530 (x23701.fdiv (2 ^ min (1 : Int).toNat (IntKind.u32).bits))))) : Option (List Int)).bind fun x23694 =>
    some (.go (x23694, (IntKind.i64.wrap (x23530 + 1)))))
    (some (.done x23526))

def ref01_half (n : Nat) : (List Int) → Option (List Int)
  | x23070 =>
    (app ([] : List Int) x23070).bind fun x23078 =>
    (loopN (ref01_half_L1 x23070) n (x23078, 0) : Option (List Int)).bind fun x23414 =>
    (ref01_trim n x23414).bind fun x23752 =>
    some (x23752)

def ref01_sub_L1 (x23760 : (List Int)) (x23763 : (List Int)) : ((List Int) × Int × Int) → Option (Out ((List Int) × Int × Int) (List Int))
  | (x23937, x23941, x23942) =>
    cond (decide (x23942 < (x23760.length : Int)))
    ((idx x23760 x23942).bind fun x23991 =>
    (cond (decide (x23942 < (x23763.length : Int)))
    ((idx x23763 x23942).bind fun x24006 =>
    some ((IntKind.i64.wrap ((IntKind.i64.wrap ((IntKind.i64.wrap x23991) - x23941)) - (IntKind.i64.wrap x24006)))))
    (some ((IntKind.i64.wrap ((IntKind.i64.wrap x23991) - x23941)))) : Option Int).bind fun x24003 =>
    (cond (decide (x24003 < 0))
    (some ((1, (IntKind.i64.wrap (x24003 + 4294967296)))))
    (some ((0, x24003))) : Option (Int × Int)).bind fun (x24012, x24013) =>
    (app x23937 [(IntKind.u32.wrap x24013)]).bind fun x24020 =>
    some (.go (x24020, x24012, (IntKind.i64.wrap (x23942 + 1)))))
    (some (.done x23937))

def ref01_sub (n : Nat) : (List Int) → (List Int) → Option (List Int)
  | x23760, x23763 =>
    (loopN (ref01_sub_L1 x23760 x23763) n ([], 0, 0) : Option (List Int)).bind fun x23893 =>
    (ref01_trim n x23893).bind fun x24028 =>
    some (x24028)

def ref01_add_L1 (x24036 : (List Int)) (x24039 : (List Int)) : ((List Int) × Int × Int) → Option (Out ((List Int) × Int × Int) (List Int))
  | (x24245, x24249, x24250) =>
    (cond (decide (x24250 < (x24036.length : Int)))
    (some (true))
    (cond (decide (x24250 < (x24039.length : Int)))
    (some (true))
    (some ((decide (x24249 > 0))))) : Option Bool).bind fun x24307 =>
    cond x24307
    ((cond (decide (x24250 < (x24036.length : Int)))
    ((idx x24036 x24250).bind fun x24319 =>
    some ((IntKind.u64.wrap (x24249 + (IntKind.u64.wrap x24319)))))
    (some (x24249)) : Option Int).bind fun x24316 =>
    (cond (decide (x24250 < (x24039.length : Int)))
    ((idx x24039 x24250).bind fun x24334 =>
    some ((IntKind.u64.wrap (x24316 + (IntKind.u64.wrap x24334)))))
    (some (x24316)) : Option Int).bind fun x24331 =>
    (app x24245 [(IntKind.u32.wrap x24331)]).bind fun x24344 =>
    some (.go (x24344, (x24331.fdiv (2 ^ min (32 : Int).toNat (IntKind.u64).bits)), (IntKind.i64.wrap (x24250 + 1)))))
    (some (.done x24245))

def ref01_add (n : Nat) : (List Int) → (List Int) → Option (List Int)
  | x24036, x24039 =>
    (loopN (ref01_add_L1 x24036 x24039) n ([], 0, 0) : Option (List Int)).bind fun x24193 =>
    (ref01_trim n x24193).bind fun x24352 =>
    some (x24352)

def ref01_Gcd_L1 (n : Nat) : ((List Int) × (List Int) × Int) → Option (Out ((List Int) × (List Int) × Int) ((List Int) × (List Int) × Int))
  | (x24617, x24620, x24623) =>
    ((idx x24617 0).bind fun x24693 =>
    cond ((x24693.tmod 2) == 0)
    ((idx x24620 0).bind fun x24699 =>
    some (((x24699.tmod 2) == 0)))
    (some (false)) : Option Bool).bind fun x24690 =>
    cond x24690
    ((ref01_half n x24617).bind fun x24705 =>
    (ref01_half n x24620).bind fun x24711 =>
    some (.go (x24705, x24711, (IntKind.i64.wrap (x24623 + 1)))))
    (some (.done (x24617, x24620, x24623)))

def ref01_Gcd_L3 (n : Nat) : ((List Int) × (List Int)) → Option (Out ((List Int) × (List Int)) (List Int))
  | (x24912, x24915) =>
    (ref01_cmp n x24912 x24915).bind fun x24972 =>
    cond (x24972 != 0)
    ((idx x24912 0).bind fun x24975 =>
    cond ((x24975.tmod 2) == 0)
    ((ref01_half n x24912).bind fun x24981 =>
    some (.go (x24981, x24915)))
    ((idx x24915 0).bind fun x24987 =>
    cond ((x24987.tmod 2) == 0)
    ((ref01_half n x24915).bind fun x24993 =>
    some (.go (x24912, x24993)))
    ((ref01_cmp n x24912 x24915).bind fun x24999 =>
    cond (decide (x24999 > 0))
    ((ref01_sub n x24912 x24915).bind fun x25002 =>
    some (.go (x25002, x24915)))
    ((ref01_sub n x24915 x24912).bind fun x25008 =>
    some (.go (x24912, x25008))))))
    (some (.done x24912))

def ref01_Gcd_L5 (n : Nat) (x24563 : Int) : ((List Int) × Int) → Option (Out ((List Int) × Int) (List Int))
  | (x25061, x25064) =>
    cond (decide (x25064 < x24563))
    ((ref01_add n x25061 x25061).bind fun x25081 =>
    some (.go (x25081, (IntKind.i64.wrap (x25064 + 1)))))
    (some (.done x25061))

def ref01_Gcd (n : Nat) : Int_2 → Int_2 → Option Int_2
  | x24360, x24363 =>
    (ref01_trim n x24360.Mag).bind fun x24379 =>
    (ref01_trim n x24363.Mag).bind fun x24386 =>
    cond ((x24379.length : Int) == 0)
    ((ref01_Abs n (Int_2.mk x24363.Neg x24363.Mag)).bind fun x24393 =>
    some ((Int_2.mk x24393.Neg x24393.Mag)))
    (cond ((x24386.length : Int) == 0)
    ((ref01_Abs n (Int_2.mk x24360.Neg x24360.Mag)).bind fun x24400 =>
    some ((Int_2.mk x24400.Neg x24400.Mag)))
    ((loopN (ref01_Gcd_L1 n) n (x24379, x24386, 0) : Option ((List Int) × (List Int) × Int)).bind fun (x24557, x24560, x24563) =>
    (loopN (ref01_Gcd_L3 n) n (x24557, x24560) : Option (List Int)).bind fun x24863 =>
    (loopN (ref01_Gcd_L5 n x24563) n (x24863, 0) : Option (List Int)).bind fun x25048 =>
    some ((Int_2.mk false x25048))))

def law01_IntegerGcds (n : Nat) : Int_2 → Int_2 → Option Bool
  | x25093, x25096 =>
    ((law01_awake n ).bind fun x25116 =>
    cond (!x25116)
    (some (true))
    (cond (decide ((x25093.Mag.length : Int) > 6))
    (some (true))
    (some ((decide ((x25096.Mag.length : Int) > 6))))) : Option Bool).bind fun x25112 =>
    cond x25112
    ((law01_awake n ).bind fun x25119 =>
    some (x25119))
    ((integer_Gcd n (Int_2.mk x25093.Neg x25093.Mag) (Int_2.mk x25096.Neg x25096.Mag)).bind fun x25122 =>
    ((ref01_Gcd n (Int_2.mk x25093.Neg x25093.Mag) (Int_2.mk x25096.Neg x25096.Mag)).bind fun x25190 =>
    (ref01_Same n (Int_2.mk x25122.Neg x25122.Mag) x25190).bind fun x25196 =>
    cond (!x25196)
    (some (true))
    ((integer_Gcd n (Int_2.mk x25096.Neg x25096.Mag) (Int_2.mk x25093.Neg x25093.Mag)).bind fun x25199 =>
    (ref01_Same n (Int_2.mk x25122.Neg x25122.Mag) x25199).bind fun x25205 =>
    some ((!x25205))) : Option Bool).bind fun x25167 =>
    cond x25167
    (some (false))
    ((integer_Sign n (Int_2.mk x25122.Neg x25122.Mag)).bind fun x25208 =>
    cond (x25208 == 0)
    (((integer_Sign n (Int_2.mk x25093.Neg x25093.Mag)).bind fun x25221 =>
    cond (x25221 == 0)
    ((integer_Sign n (Int_2.mk x25096.Neg x25096.Mag)).bind fun x25224 =>
    some ((x25224 == 0)))
    (some (false)) : Option Bool).bind fun x25217 =>
    some (x25217))
    ((integer_DivMod n (Int_2.mk x25093.Neg x25093.Mag) (Int_2.mk x25122.Neg x25122.Mag)).bind fun (x25227, x25228, x25229) =>
    (integer_DivMod n (Int_2.mk x25096.Neg x25096.Mag) (Int_2.mk x25122.Neg x25122.Mag)).bind fun (x25243, x25244, x25245) =>
    (integer_Of n 1).bind fun x25259 =>
    ((integer_Sign n (Int_2.mk x25122.Neg x25122.Mag)).bind fun x25327 =>
    cond (decide (x25327 > 0))
    ((integer_Sign n (Int_2.mk x25228.Neg x25228.Mag)).bind fun x25330 =>
    cond (x25330 == 0)
    ((integer_Sign n (Int_2.mk x25244.Neg x25244.Mag)).bind fun x25333 =>
    cond (x25333 == 0)
    ((integer_Gcd n (Int_2.mk x25227.Neg x25227.Mag) (Int_2.mk x25243.Neg x25243.Mag)).bind fun x25336 =>
    (ref01_Same n x25336 (Int_2.mk x25259.Neg x25259.Mag)).bind fun x25342 =>
    some (x25342))
    (some (false)))
    (some (false)))
    (some (false)) : Option Bool).bind fun x25304 =>
    some (x25304))))

def ref01_Text_L13 : ((List Int) × Int × Int) → Option (Out ((List Int) × Int × Int) ((List Int) × Int))
  | (x26412, x26416, x26417) =>
    cond (decide (x26417 ≥ 0))
    ((idx x26412 x26417).bind fun x26449 =>
    (idx x26412 x26417).bind fun x26457 =>
    some (.go ((upd x26412 x26417 (IntKind.u32.wrap (IntKind.u64.wrap ((IntKind.u64.wrap ((IntKind.u64.wrap (x26416 * 4294967296)) + (IntKind.u64.wrap x26449))).tdiv 10)))), ((IntKind.u64.wrap ((IntKind.u64.wrap (x26416 * 4294967296)) + (IntKind.u64.wrap x26449))).tmod 10), (IntKind.i64.wrap (x26417 - 1)))))
    (some (.done (x26412, x26416)))

def ref01_Text_L11 (n : Nat) : (ByteArray × (List Int)) → Option (Out (ByteArray × (List Int)) ByteArray)
  | (x26106, x26107) =>
    cond (decide ((x26107.length : Int) > 0))
    ((loopN (ref01_Text_L13) n (x26107, 0, (IntKind.i64.wrap ((x26107.length : Int) - 1))) : Option ((List Int) × Int)).bind fun (x26383, x26387) =>
    (need (decide ((strOfNums [(IntKind.u8.wrap (IntKind.u64.wrap (48 + x26387)))]).size + x26106.size ≤ 9223372036854775807))).bind fun _ =>
    (ref01_trim n x26383).bind fun x26477 =>
    some (.go (((strOfNums [(IntKind.u8.wrap (IntKind.u64.wrap (48 + x26387)))]) ++ x26106), x26477)))
    (some (.done x26106))

def ref01_Text (n : Nat) : Int_2 → Option ByteArray
  | x25345 =>
    (ref01_trim n x25345.Mag).bind fun x25353 =>
    (loopN (ref01_Text_L11 n) n ((ByteArray.mk #[]), x25353) : Option ByteArray).bind fun x25920 =>
    cond (x25920.toList == (ByteArray.mk #[]).toList)
    (some ((ByteArray.mk #[48])))
    (cond x25345.Neg
    ((need (decide ((ByteArray.mk #[45]).size + x25920.size ≤ 9223372036854775807))).bind fun _ =>
    some (((ByteArray.mk #[45]) ++ x25920)))
    (some (x25920)))

def law01_IntegerTexts (n : Nat) : Int_2 → Option Bool
  | x26486 =>
    ((law01_awake n ).bind fun x26504 =>
    cond (!x26504)
    (some (true))
    ((law01_few n (Int_2.mk x26486.Neg x26486.Mag)).bind fun x26507 =>
    some ((!x26507))) : Option Bool).bind fun x26500 =>
    cond x26500
    ((law01_awake n ).bind fun x26510 =>
    some (x26510))
    ((integer_Text n (Int_2.mk x26486.Neg x26486.Mag)).bind fun x26513 =>
    (integer_Parse n x26513).bind fun (x26516, x26517) =>
    ((ref01_Text n (Int_2.mk x26486.Neg x26486.Mag)).bind fun x26567 =>
    cond (x26513.toList == x26567.toList)
    (cond (x26517 == 0)
    ((ref01_Norm n (Int_2.mk x26486.Neg x26486.Mag)).bind fun x26570 =>
    (ref01_Same n (Int_2.mk x26516.Neg x26516.Mag) x26570).bind fun x26576 =>
    some (x26576))
    (some (false)))
    (some (false)) : Option Bool).bind fun x26550 =>
    some (x26550))

def ref01_Parse_L25 : ((List Int) × Int × Int) → Option (Out ((List Int) × Int × Int) ((List Int) × Int))
  | (x28928, x28932, x28933) =>
    cond (decide (x28933 < (x28928.length : Int)))
    ((idx x28928 x28933).bind fun x28965 =>
    (idx x28928 x28933).bind fun x28973 =>
    some (.go ((upd x28928 x28933 (IntKind.u32.wrap (IntKind.u64.wrap (x28932 + (IntKind.u64.wrap ((IntKind.u64.wrap x28965) * 10)))))), ((IntKind.u64.wrap (x28932 + (IntKind.u64.wrap ((IntKind.u64.wrap x28965) * 10)))).fdiv (2 ^ min (32 : Int).toNat (IntKind.u64).bits)), (IntKind.i64.wrap (x28933 + 1)))))
    (some (.done (x28928, x28932)))

def ref01_Parse_L21 (n : Nat) (x26579 : ByteArray) : ((List Int) × Int) → Option (Out ((List Int) × Int) (Out (List Int) (Int_2 × Int)))
  | (x28196, x28200) =>
    cond (decide (x28200 < (x26579.size : Int)))
    ((((bidx x26579 x28200).bind fun x28811 =>
    cond (decide (x28811 < 48))
    (some (true))
    ((bidx x26579 x28200).bind fun x28813 =>
    some ((decide (x28813 > 57)))) : Option Bool).bind fun x28808 =>
    cond x28808
    (some (.done (.done (.done ((Int_2.mk false []), 3)))))
    ((bidx x26579 x28200).bind fun x28817 =>
    (loopN (ref01_Parse_L25) n (x28196, (IntKind.u64.wrap (IntKind.u8.wrap (x28817 - 48))), 0) : Option ((List Int) × Int)).bind fun (x28899, x28903) =>
    cond (decide (x28903 > 0))
    ((app x28899 [(IntKind.u32.wrap x28903)]).bind fun x28991 =>
    some (.go x28991))
    (some (.go x28899))) : Option (Out (List Int) (Out ((List Int) × Int) (Out (List Int) (Int_2 × Int))))).bind fun y28802 => (match y28802 with
    | .go x28796 =>
    some (.go (x28796, (IntKind.i64.wrap (x28200 + 1))))
    | .done r => some r))
    (some (.done (.go x28196)))

def ref01_Parse (n : Nat) : ByteArray → Option (Int_2 × Int)
  | x26579 =>
    cond (decide ((x26579.size : Int) > 2000))
    (some (((Int_2.mk false []), 6)))
    (((cond (decide ((x26579.size : Int) > 0))
    ((bidx x26579 0).bind fun x26600 =>
    some ((x26600 == 45)))
    (some (false)) : Option Bool).bind fun x26597 =>
    cond x26597
    (some (1))
    (some (0)) : Option Int).bind fun x26592 =>
    (loopN (ref01_Parse_L21 n x26579) n ([], x26592) : Option (Out (List Int) (Int_2 × Int))).bind fun y27802 => (match y27802 with
    | .go x27796 =>
    ((ref01_Norm n (Int_2.mk (x26592 == 1) x27796)).bind fun x29003 =>
    (ref01_Text n (Int_2.mk x29003.Neg x29003.Mag)).bind fun x29012 =>
    cond (!(x29012.toList == x26579.toList))
    (some (((Int_2.mk false []), 3)))
    (some (((Int_2.mk x29003.Neg x29003.Mag), 0))))
    | .done r => some r))

def law01_IntegerParses (n : Nat) : ByteArray → Option Bool
  | x29017 =>
    ((law01_awake n ).bind fun x29025 =>
    cond (!x29025)
    (some (true))
    (some ((decide ((x29017.size : Int) > 2100)))) : Option Bool).bind fun x29021 =>
    cond x29021
    ((law01_awake n ).bind fun x29028 =>
    some (x29028))
    ((integer_Parse n x29017).bind fun (x29031, x29032) =>
    cond (decide ((x29017.size : Int) > 2000))
    ((cond (x29032 == 6)
    (some (((x29031.Mag.length : Int) == 0)))
    (some (false)) : Option Bool).bind fun x29041 =>
    some (x29041))
    ((ref01_Parse n x29017).bind fun (x29044, x29045) =>
    (cond (x29032 == x29045)
    ((ref01_Norm n (Int_2.mk x29044.Neg x29044.Mag)).bind fun x29095 =>
    (ref01_Same n (Int_2.mk x29031.Neg x29031.Mag) x29095).bind fun x29101 =>
    cond x29101
    (cond (x29032 != 0)
    (some (true))
    ((integer_Text n (Int_2.mk x29031.Neg x29031.Mag)).bind fun x29104 =>
    some ((x29104.toList == x29017.toList))))
    (some (false)))
    (some (false)) : Option Bool).bind fun x29078 =>
    some (x29078)))

def integer_Mul (n : Nat) : Int_2 → Int_2 → Option Int_2
  | x29107, x29110 =>
    (integer_trim n x29107.Mag).bind fun x29151 =>
    (integer_trim n x29110.Mag).bind fun x29157 =>
    (integer_times n x29151 x29157).bind fun x29163 =>
    (integer_made n (!(x29107.Neg == x29110.Neg)) x29163).bind fun x29169 =>
    some ((Int_2.mk x29169.Neg x29169.Mag))

def law01_IntegerDivides (n : Nat) : Int_2 → Int_2 → Option Bool
  | x29176, x29179 =>
    ((law01_awake n ).bind fun x29205 =>
    cond (!x29205)
    (some (true))
    ((law01_few n (Int_2.mk x29176.Neg x29176.Mag)).bind fun x29208 =>
    cond (!x29208)
    (some (true))
    ((law01_few n (Int_2.mk x29179.Neg x29179.Mag)).bind fun x29211 =>
    some ((!x29211)))) : Option Bool).bind fun x29201 =>
    cond x29201
    ((law01_awake n ).bind fun x29214 =>
    some (x29214))
    ((integer_DivMod n (Int_2.mk x29176.Neg x29176.Mag) (Int_2.mk x29179.Neg x29179.Mag)).bind fun (x29217, x29218, x29219) =>
    (integer_Sign n (Int_2.mk x29179.Neg x29179.Mag)).bind fun x29233 =>
    cond (x29233 == 0)
    ((cond (x29219 == 10)
    (cond ((x29217.Mag.length : Int) == 0)
    (some (((x29218.Mag.length : Int) == 0)))
    (some (false)))
    (some (false)) : Option Bool).bind fun x29236 =>
    some (x29236))
    ((cond (x29219 == 0)
    ((integer_Mul n (Int_2.mk x29217.Neg x29217.Mag) (Int_2.mk x29179.Neg x29179.Mag)).bind fun x29379 =>
    (integer_Add n x29379 (Int_2.mk x29218.Neg x29218.Mag)).bind fun x29385 =>
    (integer_Cmp n x29385 (Int_2.mk x29176.Neg x29176.Mag)).bind fun x29391 =>
    cond (x29391 == 0)
    ((integer_Sign n (Int_2.mk x29218.Neg x29218.Mag)).bind fun x29394 =>
    cond (decide (x29394 ≥ 0))
    ((integer_Abs n (Int_2.mk x29179.Neg x29179.Mag)).bind fun x29397 =>
    (integer_Cmp n (Int_2.mk x29218.Neg x29218.Mag) x29397).bind fun x29403 =>
    cond (decide (x29403 < 0))
    ((ref01_Norm n (Int_2.mk x29217.Neg x29217.Mag)).bind fun x29406 =>
    (ref01_Same n (Int_2.mk x29217.Neg x29217.Mag) x29406).bind fun x29412 =>
    cond x29412
    ((ref01_Norm n (Int_2.mk x29218.Neg x29218.Mag)).bind fun x29415 =>
    (ref01_Same n (Int_2.mk x29218.Neg x29218.Mag) x29415).bind fun x29421 =>
    some (x29421))
    (some (false)))
    (some (false)))
    (some (false)))
    (some (false)))
    (some (false)) : Option Bool).bind fun x29329 =>
    some (x29329)))

def law01_IntegerRoots (n : Nat) : Int_2 → Option Bool
  | x29500 =>
    ((law01_awake n ).bind fun x29515 =>
    cond (!x29515)
    (some (true))
    (some ((decide ((x29500.Mag.length : Int) > 6)))) : Option Bool).bind fun x29511 =>
    cond x29511
    ((law01_awake n ).bind fun x29518 =>
    some (x29518))
    ((integer_Sqrt n (Int_2.mk x29500.Neg x29500.Mag)).bind fun (x29521, x29522) =>
    (integer_Sign n (Int_2.mk x29500.Neg x29500.Mag)).bind fun x29531 =>
    cond (decide (x29531 < 0))
    ((cond (x29522 == 2)
    (some (((x29521.Mag.length : Int) == 0)))
    (some (false)) : Option Bool).bind fun x29534 =>
    some (x29534))
    (((integer_Of n 1).bind fun x29663 =>
    (integer_Add n (Int_2.mk x29521.Neg x29521.Mag) x29663).bind fun x29669 =>
    some ((x29669.Neg, x29669.Mag)) : Option (Bool × (List Int))).bind fun (x29616, x29617) =>
    (cond (x29522 == 0)
    ((integer_Sign n (Int_2.mk x29521.Neg x29521.Mag)).bind fun x29770 =>
    cond (decide (x29770 ≥ 0))
    ((integer_Mul n (Int_2.mk x29521.Neg x29521.Mag) (Int_2.mk x29521.Neg x29521.Mag)).bind fun x29773 =>
    (integer_Cmp n x29773 (Int_2.mk x29500.Neg x29500.Mag)).bind fun x29779 =>
    cond (decide (x29779 ≤ 0))
    ((integer_Mul n (Int_2.mk x29616 x29617) (Int_2.mk x29616 x29617)).bind fun x29782 =>
    (integer_Cmp n x29782 (Int_2.mk x29500.Neg x29500.Mag)).bind fun x29788 =>
    some ((decide (x29788 > 0))))
    (some (false)))
    (some (false)))
    (some (false)) : Option Bool).bind fun x29744 =>
    some (x29744)))

def integer_Sub (n : Nat) : Int_2 → Int_2 → Option Int_2
  | x29791, x29794 =>
    (integer_Add n (Int_2.mk x29791.Neg x29791.Mag) (Int_2.mk (!x29794.Neg) x29794.Mag)).bind fun x29814 =>
    some ((Int_2.mk x29814.Neg x29814.Mag))

def law01_IntegerSmalls (n : Nat) : Int → Int → Option Bool
  | x29821, x29822 =>
    (law01_awake n ).bind fun x29823 =>
    cond (!x29823)
    (some (false))
    ((integer_Of n x29821).bind fun x29826 =>
    (integer_Of n x29822).bind fun x29832 =>
    (integer_Small n (Int_2.mk x29826.Neg x29826.Mag)).bind fun (x29844, x29845) =>
    (cond (x29844 != x29821)
    (some (true))
    (cond (!x29845)
    (some (true))
    ((integer_Cmp n (Int_2.mk x29826.Neg x29826.Mag) (Int_2.mk x29832.Neg x29832.Mag)).bind fun x29858 =>
    cond (!((decide (x29858 < 0)) == (decide (x29821 < x29822))))
    (some (true))
    ((integer_Cmp n (Int_2.mk x29826.Neg x29826.Mag) (Int_2.mk x29832.Neg x29832.Mag)).bind fun x29861 =>
    some ((!((decide (x29861 > 0)) == (decide (x29821 > x29822)))))))) : Option Bool).bind fun x29854 =>
    cond x29854
    (some (false))
    ((integer_Of n (x29821.fdiv (2 ^ min (2 : Int).toNat (IntKind.i64).bits))).bind fun x29864 =>
    (integer_Of n (x29822.fdiv (2 ^ min (2 : Int).toNat (IntKind.i64).bits))).bind fun x29870 =>
    (integer_Add n x29864 x29870).bind fun x29876 =>
    (integer_Small n x29876).bind fun (x29882, x29883) =>
    (integer_Of n (x29821.fdiv (2 ^ min (2 : Int).toNat (IntKind.i64).bits))).bind fun x29886 =>
    (integer_Of n (x29822.fdiv (2 ^ min (2 : Int).toNat (IntKind.i64).bits))).bind fun x29892 =>
    (integer_Sub n x29886 x29892).bind fun x29898 =>
    (integer_Small n x29898).bind fun (x29904, x29905) =>
    (integer_Of n (x29821.fdiv (2 ^ min (33 : Int).toNat (IntKind.i64).bits))).bind fun x29908 =>
    (integer_Of n (x29822.fdiv (2 ^ min (33 : Int).toNat (IntKind.i64).bits))).bind fun x29914 =>
    (integer_Mul n x29908 x29914).bind fun x29920 =>
    (integer_Small n x29920).bind fun (x29926, x29927) =>
    (cond (x29882 == (IntKind.i64.wrap ((x29821.fdiv (2 ^ min (2 : Int).toNat (IntKind.i64).bits)) + (x29822.fdiv (2 ^ min (2 : Int).toNat (IntKind.i64).bits)))))
    (cond x29883
    (cond (x29904 == (IntKind.i64.wrap ((x29821.fdiv (2 ^ min (2 : Int).toNat (IntKind.i64).bits)) - (x29822.fdiv (2 ^ min (2 : Int).toNat (IntKind.i64).bits)))))
    (cond x29905
    (cond (x29926 == (IntKind.i64.wrap ((x29821.fdiv (2 ^ min (33 : Int).toNat (IntKind.i64).bits)) * (x29822.fdiv (2 ^ min (33 : Int).toNat (IntKind.i64).bits)))))
    (some (x29927))
    (some (false)))
    (some (false)))
    (some (false)))
    (some (false)))
    (some (false)) : Option Bool).bind fun x29930 =>
    some (x29930)))

def integer_Norm (n : Nat) : Int_2 → Option Int_2
  | x29933 =>
    (integer_trim n x29933.Mag).bind fun x29963 =>
    (slices_Cloneuint32_uint32_ n x29963).bind fun x29969 =>
    (integer_made n x29933.Neg x29969).bind fun x29975 =>
    some ((Int_2.mk x29975.Neg x29975.Mag))

def law01_IntegerRing (n : Nat) : Int_2 → Int_2 → Int_2 → Option Bool
  | x30034, x30037, x30040 =>
    ((law01_awake n ).bind fun x30074 =>
    cond (!x30074)
    (some (true))
    ((law01_few n (Int_2.mk x30034.Neg x30034.Mag)).bind fun x30077 =>
    cond (!x30077)
    (some (true))
    ((law01_few n (Int_2.mk x30037.Neg x30037.Mag)).bind fun x30080 =>
    cond (!x30080)
    (some (true))
    ((law01_few n (Int_2.mk x30040.Neg x30040.Mag)).bind fun x30083 =>
    some ((!x30083))))) : Option Bool).bind fun x30070 =>
    cond x30070
    ((law01_awake n ).bind fun x30086 =>
    some (x30086))
    ((integer_Mul n (Int_2.mk x30034.Neg x30034.Mag) (Int_2.mk x30037.Neg x30037.Mag)).bind fun x30089 =>
    ((integer_Mul n (Int_2.mk x30037.Neg x30037.Mag) (Int_2.mk x30034.Neg x30034.Mag)).bind fun x30274 =>
    (ref01_Same n (Int_2.mk x30089.Neg x30089.Mag) x30274).bind fun x30280 =>
    cond (!x30280)
    (some (true))
    ((integer_Mul n (Int_2.mk x30089.Neg x30089.Mag) (Int_2.mk x30040.Neg x30040.Mag)).bind fun x30283 =>
    (integer_Mul n (Int_2.mk x30037.Neg x30037.Mag) (Int_2.mk x30040.Neg x30040.Mag)).bind fun x30289 =>
    (integer_Mul n (Int_2.mk x30034.Neg x30034.Mag) x30289).bind fun x30295 =>
    (ref01_Same n x30283 x30295).bind fun x30301 =>
    cond (!x30301)
    (some (true))
    ((integer_Add n (Int_2.mk x30034.Neg x30034.Mag) (Int_2.mk x30037.Neg x30037.Mag)).bind fun x30304 =>
    (integer_Add n x30304 (Int_2.mk x30040.Neg x30040.Mag)).bind fun x30310 =>
    (integer_Add n (Int_2.mk x30037.Neg x30037.Mag) (Int_2.mk x30040.Neg x30040.Mag)).bind fun x30316 =>
    (integer_Add n (Int_2.mk x30034.Neg x30034.Mag) x30316).bind fun x30322 =>
    (ref01_Same n x30310 x30322).bind fun x30328 =>
    some ((!x30328)))) : Option Bool).bind fun x30212 =>
    cond x30212
    (some (false))
    (((integer_Add n (Int_2.mk x30037.Neg x30037.Mag) (Int_2.mk x30040.Neg x30040.Mag)).bind fun x30507 =>
    (integer_Mul n (Int_2.mk x30034.Neg x30034.Mag) x30507).bind fun x30513 =>
    (integer_Mul n (Int_2.mk x30034.Neg x30034.Mag) (Int_2.mk x30040.Neg x30040.Mag)).bind fun x30519 =>
    (integer_Add n (Int_2.mk x30089.Neg x30089.Mag) x30519).bind fun x30525 =>
    (ref01_Same n x30513 x30525).bind fun x30531 =>
    cond x30531
    ((integer_Sub n (Int_2.mk x30034.Neg x30034.Mag) (Int_2.mk x30034.Neg x30034.Mag)).bind fun x30534 =>
    (integer_Sign n x30534).bind fun x30540 =>
    cond (x30540 == 0)
    ((integer_Sub n (Int_2.mk x30034.Neg x30034.Mag) (Int_2.mk x30037.Neg x30037.Mag)).bind fun x30543 =>
    (integer_Add n x30543 (Int_2.mk x30037.Neg x30037.Mag)).bind fun x30549 =>
    (integer_Norm n (Int_2.mk x30034.Neg x30034.Mag)).bind fun x30555 =>
    (ref01_Same n x30549 x30555).bind fun x30561 =>
    some (x30561))
    (some (false)))
    (some (false)) : Option Bool).bind fun x30445 =>
    some (x30445)))

def ref01_Add (n : Nat) : Int_2 → Int_2 → Option Int_2
  | x30564, x30567 =>
    (ref01_Norm n (Int_2.mk x30564.Neg x30564.Mag)).bind fun x30577 =>
    (ref01_Norm n (Int_2.mk x30567.Neg x30567.Mag)).bind fun x30584 =>
    cond (x30577.Neg == x30584.Neg)
    ((ref01_add n x30577.Mag x30584.Mag).bind fun x30608 =>
    (ref01_Norm n (Int_2.mk x30577.Neg x30608)).bind fun x30618 =>
    some ((Int_2.mk x30618.Neg x30618.Mag)))
    ((ref01_cmp n x30577.Mag x30584.Mag).bind fun x30625 =>
    cond (decide (x30625 < 0))
    ((ref01_sub n x30584.Mag x30577.Mag).bind fun x30645 =>
    (ref01_Norm n (Int_2.mk x30584.Neg x30645)).bind fun x30655 =>
    some ((Int_2.mk x30655.Neg x30655.Mag)))
    ((ref01_sub n x30577.Mag x30584.Mag).bind fun x30679 =>
    (ref01_Norm n (Int_2.mk x30577.Neg x30679)).bind fun x30689 =>
    some ((Int_2.mk x30689.Neg x30689.Mag))))

def ref01_Neg (n : Nat) : Int_2 → Option Int_2
  | x30696 =>
    (ref01_Norm n (Int_2.mk (!x30696.Neg) x30696.Mag)).bind fun x30711 =>
    some ((Int_2.mk x30711.Neg x30711.Mag))

def ref01_Sub (n : Nat) : Int_2 → Int_2 → Option Int_2
  | x30718, x30721 =>
    (ref01_Neg n (Int_2.mk x30721.Neg x30721.Mag)).bind fun x30750 =>
    (ref01_Add n (Int_2.mk x30718.Neg x30718.Mag) x30750).bind fun x30756 =>
    some ((Int_2.mk x30756.Neg x30756.Mag))

def ref01_Mul_L13 (x30763 : Int_2) (x30766 : Int_2) (x32274 : Int) : ((List Int) × Int × Int) → Option (Out ((List Int) × Int × Int) (List Int))
  | (x32889, x32893, x32894) =>
    (cond (decide (x32894 < (x30766.Mag.length : Int)))
    (some (true))
    (some ((decide (x32893 > 0)))) : Option Bool).bind fun x32959 =>
    cond x32959
    ((idx x32889 (IntKind.i64.wrap (x32274 + x32894))).bind fun x32962 =>
    (cond (decide (x32894 < (x30766.Mag.length : Int)))
    ((idx x30763.Mag x32274).bind fun x32987 =>
    (idx x30766.Mag x32894).bind fun x32993 =>
    some ((IntKind.u64.wrap ((IntKind.u64.wrap ((IntKind.u64.wrap x32962) + x32893)) + (IntKind.u64.wrap ((IntKind.u64.wrap x32987) * (IntKind.u64.wrap x32993)))))))
    (some ((IntKind.u64.wrap ((IntKind.u64.wrap x32962) + x32893)))) : Option Int).bind fun x32983 =>
    (idx x32889 (IntKind.i64.wrap (x32274 + x32894))).bind fun x33000 =>
    some (.go ((upd x32889 (IntKind.i64.wrap (x32274 + x32894)) (IntKind.u32.wrap x32983)), (x32983.fdiv (2 ^ min (32 : Int).toNat (IntKind.u64).bits)), (IntKind.i64.wrap (x32894 + 1)))))
    (some (.done x32889))

def ref01_Mul_L11 (n : Nat) (x30763 : Int_2) (x30766 : Int_2) : ((List Int) × Int) → Option (Out ((List Int) × Int) (List Int))
  | (x32270, x32274) =>
    cond (decide (x32274 < (x30763.Mag.length : Int)))
    ((loopN (ref01_Mul_L13 x30763 x30766 x32274) n (x32270, 0, 0) : Option (List Int)).bind fun x32828 =>
    some (.go (x32828, (IntKind.i64.wrap (x32274 + 1)))))
    (some (.done x32270))

def ref01_Mul (n : Nat) : Int_2 → Int_2 → Option Int_2
  | x30763, x30766 =>
    (mk (IntKind.i64.wrap ((IntKind.i64.wrap ((x30763.Mag.length : Int) + (x30766.Mag.length : Int))) + 1)) 0).bind fun x30782 =>
    (loopN (ref01_Mul_L11 n x30763 x30766) n (x30782, 0) : Option (List Int)).bind fun x31898 =>
    (ref01_Norm n (Int_2.mk (!(x30763.Neg == x30766.Neg)) x31898)).bind fun x33020 =>
    some ((Int_2.mk x33020.Neg x33020.Mag))

def integer_Neg (n : Nat) : Int_2 → Option Int_2
  | x33027 =>
    (integer_trim n x33027.Mag).bind fun x33057 =>
    (slices_Cloneuint32_uint32_ n x33057).bind fun x33063 =>
    (integer_made n (!x33027.Neg) x33063).bind fun x33069 =>
    some ((Int_2.mk x33069.Neg x33069.Mag))

def ref01_Sign (n : Nat) : Int_2 → Option Int
  | x33076 =>
    (ref01_trim n x33076.Mag).bind fun x33084 =>
    cond ((x33084.length : Int) == 0)
    (some (0))
    (cond x33076.Neg
    (some ((-1)))
    (some (1)))

def ref01_bit (n : Nat) : (List Int) → Int → Option Int
  | x33091, x33094 =>
    cond (decide ((IntKind.i64.wrap (x33094.tdiv 32)) ≥ (x33091.length : Int)))
    (some (0))
    ((idx x33091 (IntKind.i64.wrap (x33094.tdiv 32))).bind fun x33095 =>
    (need (decide (0 ≤ (IntKind.u64.wrap (x33094.tmod 32))))).bind fun _ =>
    some (((x33095.fdiv (2 ^ min (IntKind.u64.wrap (x33094.tmod 32)).toNat (IntKind.u32).bits)).tmod 2)))

def ref01_Bits_L1 (n : Nat) : ((List Int) × Int) → Option (Out ((List Int) × Int) Int)
  | (x33192, x33195) =>
    (cond (decide (x33195 > 0))
    ((ref01_bit n x33192 (IntKind.i64.wrap (x33195 - 1))).bind fun x33224 =>
    some ((x33224 == 0)))
    (some (false)) : Option Bool).bind fun x33220 =>
    cond x33220
    (some (.go (x33192, (IntKind.i64.wrap (x33195 - 1)))))
    (some (.done x33195))

def ref01_Bits (n : Nat) : Int_2 → Option Int
  | x33102 =>
    (ref01_trim n x33102.Mag).bind fun x33110 =>
    (loopN (ref01_Bits_L1 n) n (x33110, (IntKind.i64.wrap (32 * (x33110.length : Int)))) : Option Int).bind fun x33170 =>
    some (x33170)

def law01_IntegerMatchesReference (n : Nat) : Int_2 → Int_2 → Option Bool
  | x33228, x33231 =>
    ((law01_awake n ).bind fun x33257 =>
    cond (!x33257)
    (some (true))
    ((law01_few n (Int_2.mk x33228.Neg x33228.Mag)).bind fun x33260 =>
    cond (!x33260)
    (some (true))
    ((law01_few n (Int_2.mk x33231.Neg x33231.Mag)).bind fun x33263 =>
    some ((!x33263)))) : Option Bool).bind fun x33253 =>
    cond x33253
    ((law01_awake n ).bind fun x33266 =>
    some (x33266))
    (((integer_Add n (Int_2.mk x33228.Neg x33228.Mag) (Int_2.mk x33231.Neg x33231.Mag)).bind fun x33427 =>
    (ref01_Add n (Int_2.mk x33228.Neg x33228.Mag) (Int_2.mk x33231.Neg x33231.Mag)).bind fun x33433 =>
    (ref01_Same n x33427 x33433).bind fun x33439 =>
    cond (!x33439)
    (some (true))
    ((integer_Sub n (Int_2.mk x33228.Neg x33228.Mag) (Int_2.mk x33231.Neg x33231.Mag)).bind fun x33442 =>
    (ref01_Sub n (Int_2.mk x33228.Neg x33228.Mag) (Int_2.mk x33231.Neg x33231.Mag)).bind fun x33448 =>
    (ref01_Same n x33442 x33448).bind fun x33454 =>
    cond (!x33454)
    (some (true))
    ((integer_Mul n (Int_2.mk x33228.Neg x33228.Mag) (Int_2.mk x33231.Neg x33231.Mag)).bind fun x33457 =>
    (ref01_Mul n (Int_2.mk x33228.Neg x33228.Mag) (Int_2.mk x33231.Neg x33231.Mag)).bind fun x33463 =>
    (ref01_Same n x33457 x33463).bind fun x33469 =>
    cond (!x33469)
    (some (true))
    ((integer_Cmp n (Int_2.mk x33228.Neg x33228.Mag) (Int_2.mk x33231.Neg x33231.Mag)).bind fun x33472 =>
    (ref01_Cmp n (Int_2.mk x33228.Neg x33228.Mag) (Int_2.mk x33231.Neg x33231.Mag)).bind fun x33475 =>
    some ((x33472 != x33475))))) : Option Bool).bind fun x33371 =>
    cond x33371
    (some (false))
    (((integer_Norm n (Int_2.mk x33228.Neg x33228.Mag)).bind fun x33654 =>
    (ref01_Norm n (Int_2.mk x33228.Neg x33228.Mag)).bind fun x33660 =>
    (ref01_Same n x33654 x33660).bind fun x33666 =>
    cond x33666
    ((integer_Neg n (Int_2.mk x33228.Neg x33228.Mag)).bind fun x33669 =>
    (ref01_Neg n (Int_2.mk x33228.Neg x33228.Mag)).bind fun x33675 =>
    (ref01_Same n x33669 x33675).bind fun x33681 =>
    cond x33681
    ((integer_Abs n (Int_2.mk x33228.Neg x33228.Mag)).bind fun x33684 =>
    (ref01_Abs n (Int_2.mk x33228.Neg x33228.Mag)).bind fun x33690 =>
    (ref01_Same n x33684 x33690).bind fun x33696 =>
    cond x33696
    ((integer_Sign n (Int_2.mk x33228.Neg x33228.Mag)).bind fun x33699 =>
    (ref01_Sign n (Int_2.mk x33228.Neg x33228.Mag)).bind fun x33702 =>
    cond (x33699 == x33702)
    ((integer_Bits n (Int_2.mk x33228.Neg x33228.Mag)).bind fun x33705 =>
    (ref01_Bits n (Int_2.mk x33228.Neg x33228.Mag)).bind fun x33708 =>
    some ((x33705 == x33708)))
    (some (false)))
    (some (false)))
    (some (false)))
    (some (false)) : Option Bool).bind fun x33592 =>
    some (x33592)))

end Go.Proofs.YthhghkcopfnbiaaGreatDoor
