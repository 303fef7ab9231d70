/-
  What the functions of the program compute, as plain Lean functions.
-/
import Derived.Test.YtepadjfmcbjkmaaGreatDoorCoreA
import Derived.Lib.Bytealg
namespace Go.Proofs.YtepadjfmcbjkmaaGreatDoor
open Go Go.Proofs.YtepadjfmcbjkmaaGreatDoor.Gw Go.RowKit
set_option linter.unusedVariables false
def pow10 : List Int := [1, 10, 100, 1000, 10000, 100000, 1000000, 10000000, 100000000, 1000000000, 10000000000, 100000000000, 1000000000000, 10000000000000, 100000000000000, 1000000000000000, 10000000000000000, 100000000000000000, 1000000000000000000, 10000000000000000000]
structure Int_2 where
  Neg : Bool
  Mag : (List Int)
structure Rational where
  Num : Int_2
  Den : Int_2
structure Interval where
  Lo : Rational
  Hi : Rational
def okInt_2 (x : Int_2) : Prop := True ∧ (x.Mag.length ≤ maxLen ∧ ∀ yxMag ∈ x.Mag, inK .u32 yxMag)
def okRational (x : Rational) : Prop := okInt_2 x.Num ∧ okInt_2 x.Den
def okInterval (x : Interval) : Prop := okRational x.Lo ∧ okRational x.Hi
def strconv_FormatUint (n : Nat) (x b : Int) : Option ByteArray := fmtU x b
def strconv_ParseUint (n : Nat) (s : ByteArray) (b k : Int) : Option (Int × Unit) := parU s b k
def strings_Repeat (n : Nat) (s : ByteArray) (c : Int) : Option ByteArray := repS s c
def strings_Join (n : Nat) (xs : List ByteArray) (sep : ByteArray) : Option ByteArray := joinS xs sep
def stringslite_IndexByte (n : Nat) (s : ByteArray) (c : Int) : Option Int := some (Lib.indexByte s.data.toList c.toNat.toUInt8)
def integer_trim_L1 : (List Int) → Option (Out (List Int) (List Int))
  | x96 =>
    (cond (decide ((x96.length : Int) > 0))
    ((idx x96 (IntKind.i64.wrap ((x96.length : Int) - 1))).bind fun x133 =>
    some ((x133 == 0)))
    (some (false)) : Option Bool).bind fun x130 =>
    cond x130
    ((cut x96 0 (IntKind.i64.wrap ((x96.length : Int) - 1))).bind fun x139 =>
    some (.go x139))
    (some (.done x96))

def integer_trim (n : Nat) : (List Int) → Option (List Int)
  | x1 =>
    (loopN (integer_trim_L1) n x1 : Option (List Int)).bind fun x72 =>
    some (x72)

def integer_made (n : Nat) : Bool → (List Int) → Option Int_2
  | x144, x145 =>
    (integer_trim n x145).bind fun x151 =>
    cond ((x151.length : Int) == 0)
    (some ((Int_2.mk false [])))
    (some ((Int_2.mk x144 x151)))

def integer_Of (n : Nat) : Int → Option Int_2
  | x163 =>
    (cond (decide (x163 < 0))
    (some ((IntKind.u64.wrap (0 - (IntKind.u64.wrap x163)))))
    (some ((IntKind.u64.wrap x163))) : Option Int).bind fun x167 =>
    (integer_made n (decide (x163 < 0)) [(IntKind.u32.wrap x167), (IntKind.u32.wrap (x167.fdiv (2 ^ min (32 : Int).toNat (IntKind.u64).bits)))]).bind fun x174 =>
    some ((Int_2.mk x174.Neg x174.Mag))

def integer_Sign (n : Nat) : Int_2 → Option Int
  | x181 =>
    (integer_trim n x181.Mag).bind fun x189 =>
    cond ((x189.length : Int) == 0)
    (some (0))
    (cond x181.Neg
    (some ((-1)))
    (some (1)))

def slices_Cloneuint32_uint32_ (n : Nat) : (List Int) → Option (List Int)
  | x195 =>
    (app ([] : List Int) x195).bind fun x205 =>
    some (x205)

def integer_Neg (n : Nat) : Int_2 → Option Int_2
  | x212 =>
    (integer_trim n x212.Mag).bind fun x242 =>
    (slices_Cloneuint32_uint32_ n x242).bind fun x248 =>
    (integer_made n (!x212.Neg) x248).bind fun x254 =>
    some ((Int_2.mk x254.Neg x254.Mag))

def integer_Abs (n : Nat) : Int_2 → Option Int_2
  | x261 =>
    (integer_trim n x261.Mag).bind fun x272 =>
    (slices_Cloneuint32_uint32_ n x272).bind fun x278 =>
    (integer_made n false x278).bind fun x284 =>
    some ((Int_2.mk x284.Neg x284.Mag))

def integer_compare_L1 (x291 : (List Int)) (x294 : (List Int)) : Int → Option (Out Int (Out Unit Int))
  | x413 =>
    cond (decide (x413 ≥ 0))
    ((idx x291 x413).bind fun x445 =>
    (idx x294 x413).bind fun x451 =>
    cond (x445 != x451)
    ((idx x291 x413).bind fun x458 =>
    (idx x294 x413).bind fun x464 =>
    cond (decide (x458 < x464))
    (some (.done (.done (-1))))
    (some (.done (.done 1))))
    (some (.go (IntKind.i64.wrap (x413 - 1)))))
    (some (.done (.go ())))

def integer_compare (n : Nat) : (List Int) → (List Int) → Option Int
  | x291, x294 =>
    cond ((x291.length : Int) != (x294.length : Int))
    (cond (decide ((x291.length : Int) < (x294.length : Int)))
    (some ((-1)))
    (some (1)))
    ((loopN (integer_compare_L1 x291 x294) n (IntKind.i64.wrap ((x291.length : Int) - 1)) : Option (Out Unit Int)).bind fun y385 => (match y385 with
    | .go _ =>
    some (0)
    | .done r => some r))

def bits_Div32 (n : Nat) : Int → Int → Int → Option (Int × Int)
  | x474, x475, x476 =>
    ((cond (x476 != 0)
    (some ((decide (x476 ≤ x474))))
    (some (false)) : Option Bool).bind fun x482 =>
    cond x482
    (none)
    (some (())) : Option Unit).bind fun _ =>
    (need (decide ((IntKind.u64.wrap x476) ≠ 0))).bind fun _ =>
    (need (decide ((IntKind.u64.wrap x476) ≠ 0))).bind fun _ =>
    some (((IntKind.u32.wrap (IntKind.u64.wrap ((ib .or .u64 (IntKind.u64.wrap ((IntKind.u64.wrap x474) * 2 ^ min (32 : Int).toNat (IntKind.u64).bits)) (IntKind.u64.wrap x475)).tdiv (IntKind.u64.wrap x476)))), (IntKind.u32.wrap ((ib .or .u64 (IntKind.u64.wrap ((IntKind.u64.wrap x474) * 2 ^ min (32 : Int).toNat (IntKind.u64).bits)) (IntKind.u64.wrap x475)).tmod (IntKind.u64.wrap x476)))))

def integer_short_L1 (n : Nat) (x488 : (List Int)) (x491 : Int) : ((List Int) × Int × Int) → Option (Out ((List Int) × Int × Int) ((List Int) × Int))
  | (x616, x620, x621) =>
    cond (decide (x621 ≥ 0))
    ((idx x488 x621).bind fun x655 =>
    (bits_Div32 n x620 x655 x491).bind fun (x661, x662) =>
    (idx x616 x621).bind fun x665 =>
    some (.go ((upd x616 x621 x661), x662, (IntKind.i64.wrap (x621 - 1)))))
    (some (.done (x616, x620)))

def integer_short (n : Nat) : (List Int) → Int → Option ((List Int) × Int)
  | x488, x491 =>
    (mk (x488.length : Int) 0).bind fun x493 =>
    (loopN (integer_short_L1 n x488 x491) n (x493, 0, (IntKind.i64.wrap ((x488.length : Int) - 1))) : Option ((List Int) × Int)).bind fun (x585, x589) =>
    some ((x585, x589))

def bits_Len32 (n : Nat) : Int → Option Int
  | x680 =>
    (cond (decide (x680 ≥ 65536))
    (some (((x680.fdiv (2 ^ min (16 : Int).toNat (IntKind.u32).bits)), 16)))
    (some ((x680, 0))) : Option (Int × Int)).bind fun (x681, x682) =>
    (cond (decide (x681 ≥ 256))
    (some (((x681.fdiv (2 ^ min (8 : Int).toNat (IntKind.u32).bits)), (IntKind.i64.wrap (x682 + 8)))))
    (some ((x681, x682))) : Option (Int × Int)).bind fun (x685, x686) =>
    (bidx (ByteArray.mk #[0, 1, 2, 2, 3, 3, 3, 3, 4, 4, 4, 4, 4, 4, 4, 4, 5, 5, 5, 5, 5, 5, 5, 5, 5, 5, 5, 5, 5, 5, 5, 5, 6, 6, 6, 6, 6, 6, 6, 6, 6, 6, 6, 6, 6, 6, 6, 6, 6, 6, 6, 6, 6, 6, 6, 6, 6, 6, 6, 6, 6, 6, 6, 6, 7, 7, 7, 7, 7, 7, 7, 7, 7, 7, 7, 7, 7, 7, 7, 7, 7, 7, 7, 7, 7, 7, 7, 7, 7, 7, 7, 7, 7, 7, 7, 7, 7, 7, 7, 7, 7, 7, 7, 7, 7, 7, 7, 7, 7, 7, 7, 7, 7, 7, 7, 7, 7, 7, 7, 7, 7, 7, 7, 7, 7, 7, 7, 7, 8, 8, 8, 8, 8, 8, 8, 8, 8, 8, 8, 8, 8, 8, 8, 8, 8, 8, 8, 8, 8, 8, 8, 8, 8, 8, 8, 8, 8, 8, 8, 8, 8, 8, 8, 8, 8, 8, 8, 8, 8, 8, 8, 8, 8, 8, 8, 8, 8, 8, 8, 8, 8, 8, 8, 8, 8, 8, 8, 8, 8, 8, 8, 8, 8, 8, 8, 8, 8, 8, 8, 8, 8, 8, 8, 8, 8, 8, 8, 8, 8, 8, 8, 8, 8, 8, 8, 8, 8, 8, 8, 8, 8, 8, 8, 8, 8, 8, 8, 8, 8, 8, 8, 8, 8, 8, 8, 8, 8, 8, 8, 8, 8, 8, 8, 8, 8, 8, 8, 8, 8, 8, 8, 8, 8, 8, 8, 8]) (IntKind.u8.wrap x685)).bind fun x689 =>
    some ((IntKind.i64.wrap (x686 + (IntKind.i64.wrap x689))))

def bits_LeadingZeros32 (n : Nat) : Int → Option Int
  | x691 =>
    (bits_Len32 n x691).bind fun x692 =>
    some ((IntKind.i64.wrap (32 - x692)))

def integer_shifted_L1 (x695 : (List Int)) (x698 : Int) : ((List Int) × Int) → Option (Out ((List Int) × Int) (List Int))
  | (x893, x897) =>
    cond (decide (x897 < (x695.length : Int)))
    ((idx x695 x897).bind fun x948 =>
    (need (decide (0 ≤ x698))).bind fun _ =>
    (idx x893 x897).bind fun x955 =>
    (idx x893 x897).bind fun x963 =>
    (idx (upd x893 x897 (ib .or .u32 x955 (IntKind.u32.wrap (IntKind.u64.wrap ((IntKind.u64.wrap x948) * 2 ^ min x698.toNat (IntKind.u64).bits))))) (IntKind.i64.wrap (x897 + 1))).bind fun x976 =>
    some (.go ((upd (upd x893 x897 (ib .or .u32 x955 (IntKind.u32.wrap (IntKind.u64.wrap ((IntKind.u64.wrap x948) * 2 ^ min x698.toNat (IntKind.u64).bits))))) (IntKind.i64.wrap (x897 + 1)) (IntKind.u32.wrap ((IntKind.u64.wrap ((IntKind.u64.wrap x948) * 2 ^ min x698.toNat (IntKind.u64).bits)).fdiv (2 ^ min (32 : Int).toNat (IntKind.u64).bits)))), (IntKind.i64.wrap (x897 + 1)))))
    (some (.done x893))

def integer_shifted (n : Nat) : (List Int) → Int → Option (List Int)
  | x695, x698 =>
    (mk (IntKind.i64.wrap ((x695.length : Int) + 1)) 0).bind fun x701 =>
    (loopN (integer_shifted_L1 x695 x698) n (x701, 0) : Option (List Int)).bind fun x845 =>
    some (x845)

def bits_Sub32 (n : Nat) : Int → Int → Int → Option (Int × Int)
  | x990, x991, x992 =>
    some (((IntKind.u32.wrap ((IntKind.u32.wrap (x990 - x991)) - x992)), ((ib .or .u32 (ib .and .u32 (ib .xor .u32 (if (IntKind.u32).signed then -1 else (IntKind.u32).max) x990) x991) (ib .and .u32 (ib .xor .u32 (if (IntKind.u32).signed then -1 else (IntKind.u32).max) (ib .xor .u32 x990 x991)) (IntKind.u32.wrap ((IntKind.u32.wrap (x990 - x991)) - x992)))).fdiv (2 ^ min (31 : Int).toNat (IntKind.u32).bits))))

def bits_Add32 (n : Nat) : Int → Int → Int → Option (Int × Int)
  | x993, x994, x995 =>
    some (((IntKind.u32.wrap (IntKind.u64.wrap ((IntKind.u64.wrap ((IntKind.u64.wrap x993) + (IntKind.u64.wrap x994))) + (IntKind.u64.wrap x995)))), (IntKind.u32.wrap ((IntKind.u64.wrap ((IntKind.u64.wrap ((IntKind.u64.wrap x993) + (IntKind.u64.wrap x994))) + (IntKind.u64.wrap x995))).fdiv (2 ^ min (32 : Int).toNat (IntKind.u64).bits)))))

def integer_divide_L91 (x1073 : (List Int)) (x9841 : (List Int)) (x9849 : Int) : (Int × Int) → Option (Out (Int × Int) Int)
  | (x13354, x13355) =>
    (cond (decide (x13354 ≥ 4294967296))
    (some (true))
    ((idx x1073 (IntKind.i64.wrap ((x1073.length : Int) - 2))).bind fun x13425 =>
    (idx x9841 (IntKind.i64.wrap ((IntKind.i64.wrap (x9849 + (x1073.length : Int))) - 2))).bind fun x13431 =>
    some ((decide ((IntKind.u64.wrap (x13354 * (IntKind.u64.wrap x13425))) > (ib .or .u64 (IntKind.u64.wrap (x13355 * 2 ^ min (32 : Int).toNat (IntKind.u64).bits)) (IntKind.u64.wrap x13431)))))) : Option Bool).bind fun x13420 =>
    cond x13420
    ((idx x1073 (IntKind.i64.wrap ((x1073.length : Int) - 1))).bind fun x13440 =>
    cond (decide ((IntKind.u64.wrap (x13355 + (IntKind.u64.wrap x13440))) ≥ 4294967296))
    (some (.done (IntKind.u64.wrap (x13354 - 1))))
    (some (.go ((IntKind.u64.wrap (x13354 - 1)), (IntKind.u64.wrap (x13355 + (IntKind.u64.wrap x13440)))))))
    (some (.done x13354))

def integer_divide_L93 (n : Nat) (x1073 : (List Int)) (x9849 : Int) (x13308 : Int) : ((List Int) × Int × Int × Int) → Option (Out ((List Int) × Int × Int × Int) ((List Int) × Int × Int))
  | (x13600, x13604, x13605, x13606) =>
    cond (decide (x13606 < (x1073.length : Int)))
    ((idx x1073 x13606).bind fun x13649 =>
    (idx x13600 (IntKind.i64.wrap (x13606 + x9849))).bind fun x13655 =>
    (bits_Sub32 n x13655 (IntKind.u32.wrap (IntKind.u64.wrap ((IntKind.u64.wrap (x13308 * (IntKind.u64.wrap x13649))) + x13604))) x13605).bind fun (x13663, x13664) =>
    (idx x13600 (IntKind.i64.wrap (x13606 + x9849))).bind fun x13667 =>
    some (.go ((upd x13600 (IntKind.i64.wrap (x13606 + x9849)) x13663), ((IntKind.u64.wrap ((IntKind.u64.wrap (x13308 * (IntKind.u64.wrap x13649))) + x13604)).fdiv (2 ^ min (32 : Int).toNat (IntKind.u64).bits)), x13664, (IntKind.i64.wrap (x13606 + 1)))))
    (some (.done (x13600, x13604, x13605)))

def integer_divide_L97 (n : Nat) (x1073 : (List Int)) (x9849 : Int) : ((List Int) × Int × Int) → Option (Out ((List Int) × Int × Int) ((List Int) × Int))
  | (x14112, x14116, x14117) =>
    cond (decide (x14117 < (x1073.length : Int)))
    ((idx x1073 x14117).bind fun x14159 =>
    (idx x14112 (IntKind.i64.wrap (x14117 + x9849))).bind fun x14165 =>
    (bits_Add32 n x14165 x14159 x14116).bind fun (x14173, x14174) =>
    (idx x14112 (IntKind.i64.wrap (x14117 + x9849))).bind fun x14177 =>
    some (.go ((upd x14112 (IntKind.i64.wrap (x14117 + x9849)) x14173), x14174, (IntKind.i64.wrap (x14117 + 1)))))
    (some (.done (x14112, x14116)))

def integer_divide_L81 (n : Nat) (x1073 : (List Int)) : ((List Int) × (List Int) × Int) → Option (Out ((List Int) × (List Int) × Int) ((List Int) × (List Int)))
  | (x9841, x9845, x9849) =>
    cond (decide (x9849 ≥ 0))
    (((idx x9841 (IntKind.i64.wrap (x9849 + (x1073.length : Int)))).bind fun x13140 =>
    (idx x9841 (IntKind.i64.wrap ((IntKind.i64.wrap (x9849 + (x1073.length : Int))) - 1))).bind fun x13148 =>
    (idx x1073 (IntKind.i64.wrap ((x1073.length : Int) - 1))).bind fun x13157 =>
    (need (decide ((IntKind.u64.wrap x13157) ≠ 0))).bind fun _ =>
    (idx x1073 (IntKind.i64.wrap ((x1073.length : Int) - 1))).bind fun x13164 =>
    (need (decide ((IntKind.u64.wrap x13164) ≠ 0))).bind fun _ =>
    (loopN (integer_divide_L91 x1073 x9841 x9849) n ((IntKind.u64.wrap ((ib .or .u64 (IntKind.u64.wrap ((IntKind.u64.wrap x13140) * 2 ^ min (32 : Int).toNat (IntKind.u64).bits)) (IntKind.u64.wrap x13148)).tdiv (IntKind.u64.wrap x13157))), ((ib .or .u64 (IntKind.u64.wrap ((IntKind.u64.wrap x13140) * 2 ^ min (32 : Int).toNat (IntKind.u64).bits)) (IntKind.u64.wrap x13148)).tmod (IntKind.u64.wrap x13164))) : Option Int).bind fun x13308 =>
    (loopN (integer_divide_L93 n x1073 x9849 x13308) n (x9841, 0, 0, 0) : Option ((List Int) × Int × Int)).bind fun (x13560, x13564, x13565) =>
    (idx x13560 (IntKind.i64.wrap (x9849 + (x1073.length : Int)))).bind fun x13681 =>
    (bits_Sub32 n x13681 (IntKind.u32.wrap x13564) x13565).bind fun (x13689, x13690) =>
    (idx x13560 (IntKind.i64.wrap (x9849 + (x1073.length : Int)))).bind fun x13693 =>
    (cond (x13690 != 0)
    ((loopN (integer_divide_L97 n x1073 x9849) n ((upd x13560 (IntKind.i64.wrap (x9849 + (x1073.length : Int))) x13689), 0, 0) : Option ((List Int) × Int)).bind fun (x14073, x14077) =>
    (idx x14073 (IntKind.i64.wrap (x9849 + (x1073.length : Int)))).bind fun x14191 =>
    (idx x14073 (IntKind.i64.wrap (x9849 + (x1073.length : Int)))).bind fun x14199 =>
    some (((upd x14073 (IntKind.i64.wrap (x9849 + (x1073.length : Int))) (IntKind.u32.wrap (x14191 + x14077))), (IntKind.u64.wrap (x13308 - 1)))))
    (some (((upd x13560 (IntKind.i64.wrap (x9849 + (x1073.length : Int))) x13689), x13308))) : Option ((List Int) × Int)).bind fun (x13955, x13959) =>
    (idx x9845 x9849).bind fun x14212 =>
    some ((x13955, (upd x9845 x9849 (IntKind.u32.wrap x13959)))) : Option ((List Int) × (List Int))).bind fun (x13129, x13133) =>
    some (.go (x13129, x13133, (IntKind.i64.wrap (x9849 - 1)))))
    (some (.done (x9841, x9845)))

def integer_divide_L99 (x1036 : Int) (x7649 : (List Int)) (x14226 : (List Int)) : ((List Int) × Int) → Option (Out ((List Int) × Int) (List Int))
  | (x14378, x14382) =>
    cond (decide (x14382 < (x14226.length : Int)))
    ((idx x7649 (IntKind.i64.wrap (x14382 + 1))).bind fun x14424 =>
    (idx x7649 x14382).bind fun x14432 =>
    (need (decide (0 ≤ (IntKind.u64.wrap x1036)))).bind fun _ =>
    (idx x14378 x14382).bind fun x14441 =>
    some (.go ((upd x14378 x14382 (IntKind.u32.wrap ((ib .or .u64 (IntKind.u64.wrap ((IntKind.u64.wrap x14424) * 2 ^ min (32 : Int).toNat (IntKind.u64).bits)) (IntKind.u64.wrap x14432)).fdiv (2 ^ min (IntKind.u64.wrap x1036).toNat (IntKind.u64).bits)))), (IntKind.i64.wrap (x14382 + 1)))))
    (some (.done x14378))

def integer_divide (n : Nat) : (List Int) → (List Int) → Option ((List Int) × (List Int))
  | x996, x999 =>
    (integer_compare n x996 x999).bind fun x1004 =>
    cond (decide (x1004 < 0))
    ((slices_Cloneuint32_uint32_ n x996).bind fun x1007 =>
    some (([], x1007)))
    (cond ((x999.length : Int) == 1)
    ((idx x999 0).bind fun x1013 =>
    (integer_short n x996 x1013).bind fun (x1019, x1020) =>
    some ((x1019, [x1020])))
    ((idx x999 (IntKind.i64.wrap ((x999.length : Int) - 1))).bind fun x1030 =>
    (bits_LeadingZeros32 n x1030).bind fun x1036 =>
    (integer_shifted n x996 (IntKind.u64.wrap x1036)).bind fun x1058 =>
    (integer_shifted n x999 (IntKind.u64.wrap x1036)).bind fun x1065 =>
    (cut x1065 0 (x999.length : Int)).bind fun x1073 =>
    (mk (IntKind.i64.wrap ((x1058.length : Int) - (x1073.length : Int))) 0).bind fun x1077 =>
    (loopN (integer_divide_L81 n x1073) n (x1058, x1077, (IntKind.i64.wrap ((IntKind.i64.wrap ((x1058.length : Int) - (x1073.length : Int))) - 1))) : Option ((List Int) × (List Int))).bind fun (x7649, x7653) =>
    (mk (x1073.length : Int) 0).bind fun x14226 =>
    (loopN (integer_divide_L99 x1036 x7649 x14226) n (x14226, 0) : Option (List Int)).bind fun x14340 =>
    some ((x7653, x14340))))

def integer_plus_L1 (n : Nat) (x14464 : (List Int)) (x14467 : (List Int)) : ((List Int) × Int × Int) → Option (Out ((List Int) × Int × Int) ((List Int) × Int))
  | (x14646, x14650, x14651) =>
    cond (decide (x14651 < (x14464.length : Int)))
    ((idx x14464 x14651).bind fun x14699 =>
    (cond (decide (x14651 < (x14467.length : Int)))
    ((idx x14467 x14651).bind fun x14714 =>
    some (x14714))
    (some (0)) : Option Int).bind fun x14711 =>
    (bits_Add32 n x14699 x14711 x14650).bind fun (x14720, x14721) =>
    (app x14646 [x14720]).bind fun x14728 =>
    some (.go (x14728, x14721, (IntKind.i64.wrap (x14651 + 1)))))
    (some (.done (x14646, x14650)))

def integer_plus (n : Nat) : (List Int) → (List Int) → Option (List Int)
  | x14457, x14460 =>
    (cond (decide ((x14457.length : Int) < (x14460.length : Int)))
    (some ((x14460, x14457)))
    (some ((x14457, x14460))) : Option ((List Int) × (List Int))).bind fun (x14464, x14467) =>
    (mkc 0 (IntKind.i64.wrap ((x14464.length : Int) + 1)) 0).bind fun x14472 =>
    (loopN (integer_plus_L1 n x14464 x14467) n (x14472, 0, 0) : Option ((List Int) × Int)).bind fun (x14602, x14606) =>
    (app x14602 [x14606]).bind fun x14739 =>
    some (x14739)

def integer_minus_L1 (n : Nat) (x14746 : (List Int)) (x14749 : (List Int)) : ((List Int) × Int × Int) → Option (Out ((List Int) × Int × Int) (List Int))
  | (x14926, x14930, x14931) =>
    cond (decide (x14931 < (x14746.length : Int)))
    ((idx x14746 x14931).bind fun x14979 =>
    (cond (decide (x14931 < (x14749.length : Int)))
    ((idx x14749 x14931).bind fun x14994 =>
    some (x14994))
    (some (0)) : Option Int).bind fun x14991 =>
    (bits_Sub32 n x14979 x14991 x14930).bind fun (x15000, x15001) =>
    (app x14926 [x15000]).bind fun x15008 =>
    some (.go (x15008, x15001, (IntKind.i64.wrap (x14931 + 1)))))
    (some (.done x14926))

def integer_minus (n : Nat) : (List Int) → (List Int) → Option (List Int)
  | x14746, x14749 =>
    (mkc 0 (x14746.length : Int) 0).bind fun x14753 =>
    (loopN (integer_minus_L1 n x14746 x14749) n (x14753, 0, 0) : Option (List Int)).bind fun x14883 =>
    some (x14883)

def integer_Add (n : Nat) : Int_2 → Int_2 → Option Int_2
  | x15016, x15019 =>
    (integer_trim n x15016.Mag).bind fun x15047 =>
    (integer_trim n x15019.Mag).bind fun x15053 =>
    cond (x15016.Neg == x15019.Neg)
    ((integer_plus n x15047 x15053).bind fun x15072 =>
    (integer_made n x15016.Neg x15072).bind fun x15078 =>
    some ((Int_2.mk x15078.Neg x15078.Mag)))
    ((integer_compare n x15047 x15053).bind fun x15085 =>
    cond (decide (x15085 ≥ 0))
    ((integer_minus n x15047 x15053).bind fun x15101 =>
    (integer_made n x15016.Neg x15101).bind fun x15107 =>
    some ((Int_2.mk x15107.Neg x15107.Mag)))
    ((integer_minus n x15053 x15047).bind fun x15127 =>
    (integer_made n x15019.Neg x15127).bind fun x15133 =>
    some ((Int_2.mk x15133.Neg x15133.Mag))))

def integer_DivMod (n : Nat) : Int_2 → Int_2 → Option (Int_2 × Int_2 × Int)
  | x15353, x15356 =>
    (integer_trim n x15353.Mag).bind fun x15387 =>
    (integer_trim n x15356.Mag).bind fun x15393 =>
    cond ((x15393.length : Int) == 0)
    (some (((Int_2.mk false []), (Int_2.mk false []), 10)))
    ((integer_divide n x15387 x15393).bind fun (x15401, x15402) =>
    ((integer_made n (!(x15353.Neg == x15356.Neg)) x15401).bind fun x15892 =>
    (integer_made n x15353.Neg x15402).bind fun x15898 =>
    some ((x15892.Neg, x15892.Mag, x15898.Neg, x15898.Mag)) : Option (Bool × (List Int) × Bool × (List Int))).bind fun (x15723, x15724, x15728, x15729) =>
    (cond x15728
    ((integer_Add n (Int_2.mk x15728 x15729) (Int_2.mk false x15393)).bind fun x16090 =>
    (integer_Add n (Int_2.mk x15723 x15724) (Int_2.mk (!x15356.Neg) [1])).bind fun x16105 =>
    some ((x16105.Neg, x16105.Mag, x16090.Neg, x16090.Mag)))
    (some ((x15723, x15724, x15728, x15729))) : Option (Bool × (List Int) × Bool × (List Int))).bind fun (x16074, x16075, x16078, x16079) =>
    some (((Int_2.mk x16074 x16075), (Int_2.mk x16078 x16079), 0)))

def integer_Gcd_L1 (n : Nat) : (Bool × (List Int) × Bool × (List Int)) → Option (Out (Bool × (List Int) × Bool × (List Int)) (Bool × (List Int)))
  | (x17059, x17060, x17063, x17064) =>
    cond (decide ((x17064.length : Int) > 0))
    ((integer_DivMod n (Int_2.mk x17059 x17060) (Int_2.mk x17063 x17064)).bind fun (x17101, x17102, x17103) =>
    some (.go (x17063, x17064, x17102.Neg, x17102.Mag)))
    (some (.done (x17059, x17060)))

def integer_Gcd (n : Nat) : Int_2 → Int_2 → Option Int_2
  | x16291, x16294 =>
    ((integer_Abs n (Int_2.mk x16291.Neg x16291.Mag)).bind fun x16792 =>
    (integer_Abs n (Int_2.mk x16294.Neg x16294.Mag)).bind fun x16798 =>
    some ((x16792.Neg, x16792.Mag, x16798.Neg, x16798.Mag)) : Option (Bool × (List Int) × Bool × (List Int))).bind fun (x16623, x16624, x16628, x16629) =>
    (loopN (integer_Gcd_L1 n) n (x16623, x16624, x16628, x16629) : Option (Bool × (List Int))).bind fun (x17031, x17032) =>
    some ((Int_2.mk x17031 x17032))

def rational_New (n : Nat) : Int_2 → Int_2 → Option Rational
  | x17123, x17126 =>
    (integer_Sign n (Int_2.mk x17126.Neg x17126.Mag)).bind fun x17137 =>
    cond (x17137 == 0)
    ((integer_Of n 0).bind fun x17140 =>
    (integer_Of n 1).bind fun x17146 =>
    some ((Rational.mk (Int_2.mk x17140.Neg x17140.Mag) (Int_2.mk x17146.Neg x17146.Mag))))
    (((integer_Sign n (Int_2.mk x17126.Neg x17126.Mag)).bind fun x17204 =>
    cond (decide (x17204 < 0))
    ((integer_Neg n (Int_2.mk x17123.Neg x17123.Mag)).bind fun x17221 =>
    (integer_Neg n (Int_2.mk x17126.Neg x17126.Mag)).bind fun x17227 =>
    some ((x17221.Neg, x17221.Mag, x17227.Neg, x17227.Mag)))
    (some ((x17123.Neg, x17123.Mag, x17126.Neg, x17126.Mag))) : Option (Bool × (List Int) × Bool × (List Int))).bind fun (x17192, x17193, x17196, x17197) =>
    (integer_Gcd n (Int_2.mk x17192 x17193) (Int_2.mk x17196 x17197)).bind fun x17235 =>
    (integer_DivMod n (Int_2.mk x17192 x17193) (Int_2.mk x17235.Neg x17235.Mag)).bind fun (x17244, x17245, x17246) =>
    (integer_DivMod n (Int_2.mk x17196 x17197) (Int_2.mk x17235.Neg x17235.Mag)).bind fun (x17260, x17261, x17262) =>
    some ((Rational.mk (Int_2.mk x17244.Neg x17244.Mag) (Int_2.mk x17260.Neg x17260.Mag))))

def rational_Of (n : Nat) : Int → Int → Option Rational
  | x17285, x17286 =>
    (integer_Of n x17285).bind fun x17291 =>
    (integer_Of n x17286).bind fun x17297 =>
    (rational_New n x17291 x17297).bind fun x17303 =>
    some ((Rational.mk (Int_2.mk x17303.Num.Neg x17303.Num.Mag) (Int_2.mk x17303.Den.Neg x17303.Den.Mag)))

def rational_Norm (n : Nat) : Rational → Option Rational
  | x17312 =>
    (rational_New n (Int_2.mk x17312.Num.Neg x17312.Num.Mag) (Int_2.mk x17312.Den.Neg x17312.Den.Mag)).bind fun x17326 =>
    some ((Rational.mk (Int_2.mk x17326.Num.Neg x17326.Num.Mag) (Int_2.mk x17326.Den.Neg x17326.Den.Mag)))

def integer_Cmp (n : Nat) : Int_2 → Int_2 → Option Int
  | x17335, x17338 =>
    (integer_Sign n (Int_2.mk x17335.Neg x17335.Mag)).bind fun x17351 =>
    (integer_Sign n (Int_2.mk x17338.Neg x17338.Mag)).bind fun x17353 =>
    cond (decide (x17351 < x17353))
    (some ((-1)))
    (cond (decide (x17351 > x17353))
    (some (1))
    ((integer_trim n x17335.Mag).bind fun x17371 =>
    (integer_trim n x17338.Mag).bind fun x17377 =>
    (integer_compare n x17371 x17377).bind fun x17383 =>
    some ((IntKind.i64.wrap (x17351 * x17383)))))

def rational_one (n : Nat) : Int_2 → Option Bool
  | x17386 =>
    (integer_Of n 1).bind fun x17403 =>
    (integer_Cmp n (Int_2.mk x17386.Neg x17386.Mag) x17403).bind fun x17409 =>
    some ((x17409 == 0))

def bits_Len64 (n : Nat) : Int → Option Int
  | x17412 =>
    (cond (decide (x17412 ≥ 4294967296))
    (some (((x17412.fdiv (2 ^ min (32 : Int).toNat (IntKind.u64).bits)), 32)))
    (some ((x17412, 0))) : Option (Int × Int)).bind fun (x17413, x17414) =>
    (cond (decide (x17413 ≥ 65536))
    (some (((x17413.fdiv (2 ^ min (16 : Int).toNat (IntKind.u64).bits)), (IntKind.i64.wrap (x17414 + 16)))))
    (some ((x17413, x17414))) : Option (Int × Int)).bind fun (x17417, x17418) =>
    (cond (decide (x17417 ≥ 256))
    (some (((x17417.fdiv (2 ^ min (8 : Int).toNat (IntKind.u64).bits)), (IntKind.i64.wrap (x17418 + 8)))))
    (some ((x17417, x17418))) : Option (Int × Int)).bind fun (x17421, x17422) =>
    (bidx (ByteArray.mk #[0, 1, 2, 2, 3, 3, 3, 3, 4, 4, 4, 4, 4, 4, 4, 4, 5, 5, 5, 5, 5, 5, 5, 5, 5, 5, 5, 5, 5, 5, 5, 5, 6, 6, 6, 6, 6, 6, 6, 6, 6, 6, 6, 6, 6, 6, 6, 6, 6, 6, 6, 6, 6, 6, 6, 6, 6, 6, 6, 6, 6, 6, 6, 6, 7, 7, 7, 7, 7, 7, 7, 7, 7, 7, 7, 7, 7, 7, 7, 7, 7, 7, 7, 7, 7, 7, 7, 7, 7, 7, 7, 7, 7, 7, 7, 7, 7, 7, 7, 7, 7, 7, 7, 7, 7, 7, 7, 7, 7, 7, 7, 7, 7, 7, 7, 7, 7, 7, 7, 7, 7, 7, 7, 7, 7, 7, 7, 7, 8, 8, 8, 8, 8, 8, 8, 8, 8, 8, 8, 8, 8, 8, 8, 8, 8, 8, 8, 8, 8, 8, 8, 8, 8, 8, 8, 8, 8, 8, 8, 8, 8, 8, 8, 8, 8, 8, 8, 8, 8, 8, 8, 8, 8, 8, 8, 8, 8, 8, 8, 8, 8, 8, 8, 8, 8, 8, 8, 8, 8, 8, 8, 8, 8, 8, 8, 8, 8, 8, 8, 8, 8, 8, 8, 8, 8, 8, 8, 8, 8, 8, 8, 8, 8, 8, 8, 8, 8, 8, 8, 8, 8, 8, 8, 8, 8, 8, 8, 8, 8, 8, 8, 8, 8, 8, 8, 8, 8, 8, 8, 8, 8, 8, 8, 8, 8, 8, 8, 8, 8, 8, 8, 8, 8, 8, 8, 8]) (IntKind.u8.wrap x17421)).bind fun x17425 =>
    some ((IntKind.i64.wrap (x17422 + (IntKind.i64.wrap x17425))))

def bits_Mul32 (n : Nat) : Int → Int → Option (Int × Int)
  | x17429, x17430 =>
    some (((IntKind.u32.wrap ((IntKind.u64.wrap ((IntKind.u64.wrap x17429) * (IntKind.u64.wrap x17430))).fdiv (2 ^ min (32 : Int).toNat (IntKind.u64).bits))), (IntKind.u32.wrap (IntKind.u64.wrap ((IntKind.u64.wrap x17429) * (IntKind.u64.wrap x17430))))))

def bits_Mul64 (n : Nat) : Int → Int → Option (Int × Int)
  | x17431, x17432 =>
    some (((IntKind.u64.wrap ((IntKind.u64.wrap ((IntKind.u64.wrap ((x17431.fdiv (2 ^ min (32 : Int).toNat (IntKind.u64).bits)) * (x17432.fdiv (2 ^ min (32 : Int).toNat (IntKind.u64).bits)))) + ((IntKind.u64.wrap ((IntKind.u64.wrap ((x17431.fdiv (2 ^ min (32 : Int).toNat (IntKind.u64).bits)) * (ib .and .u64 x17432 4294967295))) + ((IntKind.u64.wrap ((ib .and .u64 x17431 4294967295) * (ib .and .u64 x17432 4294967295))).fdiv (2 ^ min (32 : Int).toNat (IntKind.u64).bits)))).fdiv (2 ^ min (32 : Int).toNat (IntKind.u64).bits)))) + ((IntKind.u64.wrap ((ib .and .u64 (IntKind.u64.wrap ((IntKind.u64.wrap ((x17431.fdiv (2 ^ min (32 : Int).toNat (IntKind.u64).bits)) * (ib .and .u64 x17432 4294967295))) + ((IntKind.u64.wrap ((ib .and .u64 x17431 4294967295) * (ib .and .u64 x17432 4294967295))).fdiv (2 ^ min (32 : Int).toNat (IntKind.u64).bits)))) 4294967295) + (IntKind.u64.wrap ((ib .and .u64 x17431 4294967295) * (x17432.fdiv (2 ^ min (32 : Int).toNat (IntKind.u64).bits)))))).fdiv (2 ^ min (32 : Int).toNat (IntKind.u64).bits)))), (IntKind.u64.wrap (x17431 * x17432))))

def bits_Mul (n : Nat) : Int → Int → Option (Int × Int)
  | x17433, x17434 =>
    (bits_Mul64 n x17433 x17434).bind fun (x17435, x17436) =>
    some ((x17435, x17436))

def stringslite_HasPrefix (n : Nat) : ByteArray → ByteArray → Option Bool
  | x17439, x17440 =>
    (cond (decide ((x17439.size : Int) ≥ (x17440.size : Int)))
    ((scut x17439 0 (x17440.size : Int)).bind fun x17446 =>
    some ((x17446.toList == x17440.toList)))
    (some (false)) : Option Bool).bind fun x17443 =>
    some (x17443)

def strings_HasPrefix (n : Nat) : ByteArray → ByteArray → Option Bool
  | x17448, x17449 =>
    (stringslite_HasPrefix n x17448 x17449).bind fun x17450 =>
    some (x17450)

def slices_Reversestring_string__L0 : ((List ByteArray) × Int × Int) → Option (Out ((List ByteArray) × Int × Int) (List ByteArray))
  | (x17860, x17864, x17865) =>
    cond (decide (x17864 < x17865))
    (((idx x17860 x17865).bind fun x18430 =>
    (idx x17860 x17864).bind fun x18438 =>
    (idx x17860 x17864).bind fun x18446 =>
    (idx (upd x17860 x17864 x18430) x17865).bind fun x18459 =>
    some ((upd (upd x17860 x17864 x18430) x17865 x18438)) : Option (List ByteArray)).bind fun x18339 =>
    some (.go (x18339, (IntKind.i64.wrap (x17864 + 1)), (IntKind.i64.wrap (x17865 - 1)))))
    (some (.done x17860))

def slices_Reversestring_string_ (n : Nat) : (List ByteArray) → Option (List ByteArray)
  | x17544 =>
    loopN (slices_Reversestring_string__L0) n (x17544, 0, (IntKind.i64.wrap ((x17544.length : Int) - 1)))

def integer_Text_L1 (n : Nat) : ((List Int) × (List ByteArray)) → Option (Out ((List Int) × (List ByteArray)) (List ByteArray))
  | (x18707, x18710) =>
    cond (decide ((x18707.length : Int) > 0))
    ((integer_short n x18707 1000000000).bind fun (x18766, x18767) =>
    (integer_trim n x18766).bind fun x18773 =>
    (strconv_FormatUint n (IntKind.u64.wrap x18767) 10).bind fun x18779 =>
    (cond (decide ((x18773.length : Int) > 0))
    ((strings_Repeat n (ByteArray.mk #[48]) (IntKind.i64.wrap (9 - (x18779.size : Int)))).bind fun x18790 =>
    (need (decide (x18790.size + x18779.size ≤ 9223372036854775807))).bind fun _ =>
    some ((x18790 ++ x18779)))
    (some (x18779)) : Option ByteArray).bind fun x18786 =>
    (app x18710 [x18786]).bind fun x18798 =>
    some (.go (x18773, x18798)))
    (some (.done x18710))

def integer_Text (n : Nat) : Int_2 → Option ByteArray
  | x18503 =>
    (integer_trim n x18503.Mag).bind fun x18511 =>
    (slices_Cloneuint32_uint32_ n x18511).bind fun x18517 =>
    cond ((x18517.length : Int) == 0)
    (some ((ByteArray.mk #[48])))
    ((loopN (integer_Text_L1 n) n (x18517, []) : Option (List ByteArray)).bind fun x18660 =>
    (cond x18503.Neg
    ((app x18660 [(ByteArray.mk #[45])]).bind fun x18827 =>
    some (x18827))
    (some (x18660)) : Option (List ByteArray)).bind fun x18815 =>
    (slices_Reversestring_string_ n x18815).bind fun x18833 =>
    (strings_Join n x18833 (ByteArray.mk #[])).bind fun x18840 =>
    some (x18840))

def rational_Text (n : Nat) : Rational → Option ByteArray
  | x18843 =>
    (rational_Norm n (Rational.mk (Int_2.mk x18843.Num.Neg x18843.Num.Mag) (Int_2.mk x18843.Den.Neg x18843.Den.Mag))).bind fun x18850 =>
    (rational_one n (Int_2.mk x18850.Den.Neg x18850.Den.Mag)).bind fun x18859 =>
    cond x18859
    ((integer_Text n (Int_2.mk x18850.Num.Neg x18850.Num.Mag)).bind fun x18862 =>
    some (x18862))
    ((integer_Text n (Int_2.mk x18850.Num.Neg x18850.Num.Mag)).bind fun x18865 =>
    (need (decide (x18865.size + (ByteArray.mk #[47]).size ≤ 9223372036854775807))).bind fun _ =>
    (integer_Text n (Int_2.mk x18850.Den.Neg x18850.Den.Mag)).bind fun x18868 =>
    (need (decide ((x18865 ++ (ByteArray.mk #[47])).size + x18868.size ≤ 9223372036854775807))).bind fun _ =>
    some (((x18865 ++ (ByteArray.mk #[47])) ++ x18868)))

def integer_times_L25 (x18875 : (List Int)) (x20723 : Int) (x21416 : Int) : ((List Int) × Int × Int) → Option (Out ((List Int) × Int × Int) ((List Int) × Int))
  | (x21555, x21559, x21560) =>
    cond (decide (x21560 < (x18875.length : Int)))
    ((idx x18875 x21560).bind fun x21598 =>
    (idx x21555 (IntKind.i64.wrap (x20723 + x21560))).bind fun x21604 =>
    (idx x21555 (IntKind.i64.wrap (x20723 + x21560))).bind fun x21612 =>
    some (.go ((upd x21555 (IntKind.i64.wrap (x20723 + x21560)) (IntKind.u32.wrap (IntKind.u64.wrap ((IntKind.u64.wrap ((IntKind.u64.wrap ((IntKind.u64.wrap x21416) * (IntKind.u64.wrap x21598))) + (IntKind.u64.wrap x21604))) + x21559)))), ((IntKind.u64.wrap ((IntKind.u64.wrap ((IntKind.u64.wrap ((IntKind.u64.wrap x21416) * (IntKind.u64.wrap x21598))) + (IntKind.u64.wrap x21604))) + x21559)).fdiv (2 ^ min (32 : Int).toNat (IntKind.u64).bits)), (IntKind.i64.wrap (x21560 + 1)))))
    (some (.done (x21555, x21559)))

def integer_times_L21 (n : Nat) (x18872 : (List Int)) (x18875 : (List Int)) : ((List Int) × Int) → Option (Out ((List Int) × Int) (List Int))
  | (x20719, x20723) =>
    cond (decide (x20723 < (x18872.length : Int)))
    (((idx x18872 x20723).bind fun x21416 =>
    (loopN (integer_times_L25 x18875 x20723 x21416) n (x20719, 0, 0) : Option ((List Int) × Int)).bind fun (x21520, x21524) =>
    (idx x21520 (IntKind.i64.wrap (x20723 + (x18875.length : Int)))).bind fun x21626 =>
    some ((upd x21520 (IntKind.i64.wrap (x20723 + (x18875.length : Int))) (IntKind.u32.wrap x21524))) : Option (List Int)).bind fun x21409 =>
    some (.go (x21409, (IntKind.i64.wrap (x20723 + 1)))))
    (some (.done x20719))

def integer_times (n : Nat) : (List Int) → (List Int) → Option (List Int)
  | x18872, x18875 =>
    (mk (IntKind.i64.wrap ((x18872.length : Int) + (x18875.length : Int))) 0).bind fun x18879 =>
    (loopN (integer_times_L21 n x18872 x18875) n (x18879, 0) : Option (List Int)).bind fun x20259 =>
    some (x20259)

def integer_Mul (n : Nat) : Int_2 → Int_2 → Option Int_2
  | x21641, x21644 =>
    (integer_trim n x21641.Mag).bind fun x21685 =>
    (integer_trim n x21644.Mag).bind fun x21691 =>
    (integer_times n x21685 x21691).bind fun x21697 =>
    (integer_made n (!(x21641.Neg == x21644.Neg)) x21697).bind fun x21703 =>
    some ((Int_2.mk x21703.Neg x21703.Mag))

def rational_Add (n : Nat) : Rational → Rational → Option Rational
  | x21710, x21715 =>
    (rational_Norm n (Rational.mk (Int_2.mk x21710.Num.Neg x21710.Num.Mag) (Int_2.mk x21710.Den.Neg x21710.Den.Mag))).bind fun x21746 =>
    (rational_Norm n (Rational.mk (Int_2.mk x21715.Num.Neg x21715.Num.Mag) (Int_2.mk x21715.Den.Neg x21715.Den.Mag))).bind fun x21754 =>
    (integer_Mul n (Int_2.mk x21746.Num.Neg x21746.Num.Mag) (Int_2.mk x21754.Den.Neg x21754.Den.Mag)).bind fun x21797 =>
    (integer_Mul n (Int_2.mk x21754.Num.Neg x21754.Num.Mag) (Int_2.mk x21746.Den.Neg x21746.Den.Mag)).bind fun x21803 =>
    (integer_Add n x21797 x21803).bind fun x21809 =>
    (integer_Mul n (Int_2.mk x21746.Den.Neg x21746.Den.Mag) (Int_2.mk x21754.Den.Neg x21754.Den.Mag)).bind fun x21815 =>
    (rational_New n x21809 x21815).bind fun x21821 =>
    some ((Rational.mk (Int_2.mk x21821.Num.Neg x21821.Num.Mag) (Int_2.mk x21821.Den.Neg x21821.Den.Mag)))

def law02_awake (n : Nat) : Option Bool :=
    ((rational_Of n 6 (-4)).bind fun x21873 =>
    (rational_Text n x21873).bind fun x21881 =>
    cond (x21881.toList == (ByteArray.mk #[45, 51, 47, 50]).toList)
    ((rational_Of n 1 2).bind fun x21884 =>
    (rational_Of n 1 3).bind fun x21892 =>
    (rational_Add n x21884 x21892).bind fun x21900 =>
    (rational_Text n x21900).bind fun x21908 =>
    some ((x21908.toList == (ByteArray.mk #[53, 47, 54]).toList)))
    (some (false)) : Option Bool).bind fun x21868 =>
    some (x21868)

def ref02_Few_L1 (x21911 : (List Rational)) : (Int × Int) → Option (Out (Int × Int) Int)
  | (x22023, x22024) =>
    (cond (decide (x22024 < (x21911.length : Int)))
    (some ((decide (x22024 < 50))))
    (some (false)) : Option Bool).bind fun x22055 =>
    cond x22055
    ((idx x21911 x22024).bind fun x22058 =>
    (idx x21911 x22024).bind fun x22068 =>
    some (.go ((IntKind.i64.wrap (x22023 + (IntKind.i64.wrap ((if 100 < (x22058.Num.Mag.length : Int) then 100 else (x22058.Num.Mag.length : Int)) + (if 100 < (x22068.Den.Mag.length : Int) then 100 else (x22068.Den.Mag.length : Int)))))), (IntKind.i64.wrap (x22024 + 1)))))
    (some (.done x22023))

def ref02_Few (n : Nat) : (List Rational) → Option Bool
  | x21911 =>
    (loopN (ref02_Few_L1 x21911) n (0, 0) : Option Int).bind fun x21995 =>
    (cond (decide ((x21911.length : Int) ≤ 12))
    (some ((decide (x21995 ≤ 60))))
    (some (false)) : Option Bool).bind fun x22080 =>
    some (x22080)

def law02_few (n : Nat) : (List Rational) → Option Bool
  | x22083 =>
    (ref02_Few n x22083).bind fun x22086 =>
    some (x22086)

def rational_Mul (n : Nat) : Rational → Rational → Option Rational
  | x22089, x22094 =>
    (integer_Mul n (Int_2.mk x22089.Num.Neg x22089.Num.Mag) (Int_2.mk x22094.Num.Neg x22094.Num.Mag)).bind fun x22134 =>
    (integer_Mul n (Int_2.mk x22089.Den.Neg x22089.Den.Mag) (Int_2.mk x22094.Den.Neg x22094.Den.Mag)).bind fun x22140 =>
    (rational_New n x22134 x22140).bind fun x22146 =>
    some ((Rational.mk (Int_2.mk x22146.Num.Neg x22146.Num.Mag) (Int_2.mk x22146.Den.Neg x22146.Den.Mag)))

def rational_Div (n : Nat) : Rational → Rational → Option (Rational × Int)
  | x22155, x22160 =>
    (rational_Norm n (Rational.mk (Int_2.mk x22160.Num.Neg x22160.Num.Mag) (Int_2.mk x22160.Den.Neg x22160.Den.Mag))).bind fun x22176 =>
    (integer_Sign n (Int_2.mk x22176.Num.Neg x22176.Num.Mag)).bind fun x22185 =>
    cond (x22185 == 0)
    (some (((Rational.mk (Int_2.mk false []) (Int_2.mk false [])), 10)))
    ((rational_Mul n (Rational.mk (Int_2.mk x22155.Num.Neg x22155.Num.Mag) (Int_2.mk x22155.Den.Neg x22155.Den.Mag)) (Rational.mk (Int_2.mk x22176.Den.Neg x22176.Den.Mag) (Int_2.mk x22176.Num.Neg x22176.Num.Mag))).bind fun x22197 =>
    some (((Rational.mk (Int_2.mk x22197.Num.Neg x22197.Num.Mag) (Int_2.mk x22197.Den.Neg x22197.Den.Mag)), 0)))

def ref01_trim_L1 : (List Int) → Option (Out (List Int) (List Int))
  | x22302 =>
    (cond (decide ((x22302.length : Int) > 0))
    ((idx x22302 (IntKind.i64.wrap ((x22302.length : Int) - 1))).bind fun x22339 =>
    some ((x22339 == 0)))
    (some (false)) : Option Bool).bind fun x22336 =>
    cond x22336
    ((cut x22302 0 (IntKind.i64.wrap ((x22302.length : Int) - 1))).bind fun x22345 =>
    some (.go x22345))
    (some (.done x22302))

def ref01_trim (n : Nat) : (List Int) → Option (List Int)
  | x22206 =>
    (loopN (ref01_trim_L1) n x22206 : Option (List Int)).bind fun x22278 =>
    (app ([] : List Int) x22278).bind fun x22354 =>
    some (x22354)

def ref01_Sign (n : Nat) : Int_2 → Option Int
  | x22360 =>
    (ref01_trim n x22360.Mag).bind fun x22368 =>
    cond ((x22368.length : Int) == 0)
    (some (0))
    (cond x22360.Neg
    (some ((-1)))
    (some (1)))

def ref01_Norm (n : Nat) : Int_2 → Option Int_2
  | x22375 =>
    (ref01_trim n x22375.Mag).bind fun x22386 =>
    (cond x22375.Neg
    (some (((decide ((x22386.length : Int) > 0)), x22386)))
    (some ((false, x22386))) : Option (Bool × (List Int))).bind fun (x22403, x22404) =>
    some ((Int_2.mk x22403 x22404))

def ref01_Of (n : Nat) : Int → Option Int_2
  | x22422 =>
    (cond (decide (x22422 < 0))
    (some ((IntKind.u64.wrap (0 - (IntKind.u64.wrap x22422)))))
    (some ((IntKind.u64.wrap x22422))) : Option Int).bind fun x22426 =>
    (ref01_Norm n (Int_2.mk (decide (x22422 < 0)) [(IntKind.u32.wrap x22426), (IntKind.u32.wrap (x22426.fdiv (2 ^ min (32 : Int).toNat (IntKind.u64).bits)))])).bind fun x22437 =>
    some ((Int_2.mk x22437.Neg x22437.Mag))

def ref02_One (n : Nat) : Option Int_2 :=
    (ref01_Of n 1).bind fun x22447 =>
    some ((Int_2.mk x22447.Neg x22447.Mag))

def ref01_Neg (n : Nat) : Int_2 → Option Int_2
  | x22454 =>
    (ref01_Norm n (Int_2.mk (!x22454.Neg) x22454.Mag)).bind fun x22469 =>
    some ((Int_2.mk x22469.Neg x22469.Mag))

def ref01_Abs (n : Nat) : Int_2 → Option Int_2
  | x22476 =>
    (ref01_Norm n (Int_2.mk false x22476.Mag)).bind fun x22491 =>
    some ((Int_2.mk x22491.Neg x22491.Mag))

def ref01_half_L1 (x22498 : (List Int)) : ((List Int) × Int) → Option (Out ((List Int) × Int) (List Int))
  | (x22954, x22958) =>
    cond (decide (x22958 < (x22954.length : Int)))
    (((idx x22954 x22958).bind fun x23129 =>
    (idx x22954 x22958).bind fun x23137 =>
    cond (decide ((IntKind.i64.wrap (x22958 + 1)) < (x22498.length : Int)))
    ((idx (upd x22954 x22958 (x23129.fdiv (2 ^ min (1 : Int).toNat (IntKind.u32).bits))) x22958).bind fun x23151 =>
    (idx x22498 (IntKind.i64.wrap (x22958 + 1))).bind fun x23159 =>
    (idx (upd x22954 x22958 (x23129.fdiv (2 ^ min (1 : Int).toNat (IntKind.u32).bits))) x22958).bind fun x23165 =>
    some ((upd (upd x22954 x22958 (x23129.fdiv (2 ^ min (1 : Int).toNat (IntKind.u32).bits))) x22958 (IntKind.u32.wrap (x23151 + (IntKind.u32.wrap ((x23159.tmod 2) * 2 ^ min (31 : Int).toNat (IntKind.u32).bits)))))))
    (some ((upd x22954 x22958 (x23129.fdiv (2 ^ min (1 : Int).toNat (IntKind.u32).bits))))) : Option (List Int)).bind fun x23122 =>
    some (.go (x23122, (IntKind.i64.wrap (x22958 + 1)))))
    (some (.done x22954))

def ref01_half (n : Nat) : (List Int) → Option (List Int)
  | x22498 =>
    (app ([] : List Int) x22498).bind fun x22506 =>
    (loopN (ref01_half_L1 x22498) n (x22506, 0) : Option (List Int)).bind fun x22842 =>
    (ref01_trim n x22842).bind fun x23180 =>
    some (x23180)

def ref01_cmp_L1 (x23188 : (List Int)) (x23191 : (List Int)) : Int → Option (Out Int (Out Unit Int))
  | x23310 =>
    cond (decide (x23310 ≥ 0))
    ((idx x23188 x23310).bind fun x23342 =>
    (idx x23191 x23310).bind fun x23348 =>
    cond (decide (x23342 < x23348))
    (some (.done (.done (-1))))
    ((idx x23188 x23310).bind fun x23356 =>
    (idx x23191 x23310).bind fun x23362 =>
    cond (decide (x23356 > x23362))
    (some (.done (.done 1)))
    (some (.go (IntKind.i64.wrap (x23310 - 1))))))
    (some (.done (.go ())))

def ref01_cmp (n : Nat) : (List Int) → (List Int) → Option Int
  | x23188, x23191 =>
    cond ((x23188.length : Int) != (x23191.length : Int))
    (cond (decide ((x23188.length : Int) < (x23191.length : Int)))
    (some ((-1)))
    (some (1)))
    ((loopN (ref01_cmp_L1 x23188 x23191) n (IntKind.i64.wrap ((x23188.length : Int) - 1)) : Option (Out Unit Int)).bind fun y23282 => (match y23282 with
    | .go _ =>
    some (0)
    | .done r => some r))

def ref01_sub_L1 (x23371 : (List Int)) (x23374 : (List Int)) : ((List Int) × Int × Int) → Option (Out ((List Int) × Int × Int) (List Int))
  | (x23548, x23552, x23553) =>
    cond (decide (x23553 < (x23371.length : Int)))
    ((idx x23371 x23553).bind fun x23602 =>
    (cond (decide (x23553 < (x23374.length : Int)))
    ((idx x23374 x23553).bind fun x23617 =>
    some ((IntKind.i64.wrap ((IntKind.i64.wrap ((IntKind.i64.wrap x23602) - x23552)) - (IntKind.i64.wrap x23617)))))
    (some ((IntKind.i64.wrap ((IntKind.i64.wrap x23602) - x23552)))) : Option Int).bind fun x23614 =>
    (cond (decide (x23614 < 0))
    (some ((1, (IntKind.i64.wrap (x23614 + 4294967296)))))
    (some ((0, x23614))) : Option (Int × Int)).bind fun (x23623, x23624) =>
    (app x23548 [(IntKind.u32.wrap x23624)]).bind fun x23631 =>
    some (.go (x23631, x23623, (IntKind.i64.wrap (x23553 + 1)))))
    (some (.done x23548))

def ref01_sub (n : Nat) : (List Int) → (List Int) → Option (List Int)
  | x23371, x23374 =>
    (loopN (ref01_sub_L1 x23371 x23374) n ([], 0, 0) : Option (List Int)).bind fun x23504 =>
    (ref01_trim n x23504).bind fun x23639 =>
    some (x23639)

def ref01_add_L1 (x23647 : (List Int)) (x23650 : (List Int)) : ((List Int) × Int × Int) → Option (Out ((List Int) × Int × Int) (List Int))
  | (x23856, x23860, x23861) =>
    (cond (decide (x23861 < (x23647.length : Int)))
    (some (true))
    (cond (decide (x23861 < (x23650.length : Int)))
    (some (true))
    (some ((decide (x23860 > 0))))) : Option Bool).bind fun x23918 =>
    cond x23918
    ((cond (decide (x23861 < (x23647.length : Int)))
    ((idx x23647 x23861).bind fun x23930 =>
    some ((IntKind.u64.wrap (x23860 + (IntKind.u64.wrap x23930)))))
    (some (x23860)) : Option Int).bind fun x23927 =>
    (cond (decide (x23861 < (x23650.length : Int)))
    ((idx x23650 x23861).bind fun x23945 =>
    some ((IntKind.u64.wrap (x23927 + (IntKind.u64.wrap x23945)))))
    (some (x23927)) : Option Int).bind fun x23942 =>
    (app x23856 [(IntKind.u32.wrap x23942)]).bind fun x23955 =>
    some (.go (x23955, (x23942.fdiv (2 ^ min (32 : Int).toNat (IntKind.u64).bits)), (IntKind.i64.wrap (x23861 + 1)))))
    (some (.done x23856))

def ref01_add (n : Nat) : (List Int) → (List Int) → Option (List Int)
  | x23647, x23650 =>
    (loopN (ref01_add_L1 x23647 x23650) n ([], 0, 0) : Option (List Int)).bind fun x23804 =>
    (ref01_trim n x23804).bind fun x23963 =>
    some (x23963)

def ref01_Gcd_L1 (n : Nat) : ((List Int) × (List Int) × Int) → Option (Out ((List Int) × (List Int) × Int) ((List Int) × (List Int) × Int))
  | (x24228, x24231, x24234) =>
    ((idx x24228 0).bind fun x24304 =>
    cond ((x24304.tmod 2) == 0)
    ((idx x24231 0).bind fun x24310 =>
    some (((x24310.tmod 2) == 0)))
    (some (false)) : Option Bool).bind fun x24301 =>
    cond x24301
    ((ref01_half n x24228).bind fun x24316 =>
    (ref01_half n x24231).bind fun x24322 =>
    some (.go (x24316, x24322, (IntKind.i64.wrap (x24234 + 1)))))
    (some (.done (x24228, x24231, x24234)))

def ref01_Gcd_L3 (n : Nat) : ((List Int) × (List Int)) → Option (Out ((List Int) × (List Int)) (List Int))
  | (x24523, x24526) =>
    (ref01_cmp n x24523 x24526).bind fun x24583 =>
    cond (x24583 != 0)
    ((idx x24523 0).bind fun x24586 =>
    cond ((x24586.tmod 2) == 0)
    ((ref01_half n x24523).bind fun x24592 =>
    some (.go (x24592, x24526)))
    ((idx x24526 0).bind fun x24598 =>
    cond ((x24598.tmod 2) == 0)
    ((ref01_half n x24526).bind fun x24604 =>
    some (.go (x24523, x24604)))
    ((ref01_cmp n x24523 x24526).bind fun x24610 =>
    cond (decide (x24610 > 0))
    ((ref01_sub n x24523 x24526).bind fun x24613 =>
    some (.go (x24613, x24526)))
    ((ref01_sub n x24526 x24523).bind fun x24619 =>
    some (.go (x24523, x24619))))))
    (some (.done x24523))

def ref01_Gcd_L5 (n : Nat) (x24174 : Int) : ((List Int) × Int) → Option (Out ((List Int) × Int) (List Int))
  | (x24672, x24675) =>
    cond (decide (x24675 < x24174))
    ((ref01_add n x24672 x24672).bind fun x24692 =>
    some (.go (x24692, (IntKind.i64.wrap (x24675 + 1)))))
    (some (.done x24672))

def ref01_Gcd (n : Nat) : Int_2 → Int_2 → Option Int_2
  | x23971, x23974 =>
    (ref01_trim n x23971.Mag).bind fun x23990 =>
    (ref01_trim n x23974.Mag).bind fun x23997 =>
    cond ((x23990.length : Int) == 0)
    ((ref01_Abs n (Int_2.mk x23974.Neg x23974.Mag)).bind fun x24004 =>
    some ((Int_2.mk x24004.Neg x24004.Mag)))
    (cond ((x23997.length : Int) == 0)
    ((ref01_Abs n (Int_2.mk x23971.Neg x23971.Mag)).bind fun x24011 =>
    some ((Int_2.mk x24011.Neg x24011.Mag)))
    ((loopN (ref01_Gcd_L1 n) n (x23990, x23997, 0) : Option ((List Int) × (List Int) × Int)).bind fun (x24168, x24171, x24174) =>
    (loopN (ref01_Gcd_L3 n) n (x24168, x24171) : Option (List Int)).bind fun x24474 =>
    (loopN (ref01_Gcd_L5 n x24174) n (x24474, 0) : Option (List Int)).bind fun x24659 =>
    some ((Int_2.mk false x24659))))

def ref01_bit (n : Nat) : (List Int) → Int → Option Int
  | x24704, x24707 =>
    cond (decide ((IntKind.i64.wrap (x24707.tdiv 32)) ≥ (x24704.length : Int)))
    (some (0))
    ((idx x24704 (IntKind.i64.wrap (x24707.tdiv 32))).bind fun x24708 =>
    (need (decide (0 ≤ (IntKind.u64.wrap (x24707.tmod 32))))).bind fun _ =>
    some (((x24708.fdiv (2 ^ min (IntKind.u64.wrap (x24707.tmod 32)).toNat (IntKind.u32).bits)).tmod 2)))

def ref01_divide_L1 (n : Nat) (x24715 : (List Int)) (x24718 : (List Int)) : ((List Int) × (List Int) × Int) → Option (Out ((List Int) × (List Int) × Int) ((List Int) × (List Int)))
  | (x25367, x25371, x25374) =>
    cond (decide (x25374 ≥ 0))
    (((ref01_add n x25371 x25371).bind fun x25621 =>
    ((ref01_bit n x24715 x25374).bind fun x25647 =>
    cond (x25647 == 1)
    ((ref01_add n x25621 [1]).bind fun x25654 =>
    some (x25654))
    (some (x25621)) : Option (List Int)).bind fun x25640 =>
    (ref01_cmp n x25640 x24718).bind fun x25660 =>
    cond (decide (x25660 ≥ 0))
    ((ref01_sub n x25640 x24718).bind fun x25663 =>
    (idx x25367 (IntKind.i64.wrap (x25374.tdiv 32))).bind fun x25669 =>
    (need (decide (0 ≤ (IntKind.u64.wrap (x25374.tmod 32))))).bind fun _ =>
    (idx x25367 (IntKind.i64.wrap (x25374.tdiv 32))).bind fun x25678 =>
    some (((upd x25367 (IntKind.i64.wrap (x25374.tdiv 32)) (IntKind.u32.wrap (x25669 + (IntKind.u32.wrap ((1 : Int) * 2 ^ min (IntKind.u64.wrap (x25374.tmod 32)).toNat (IntKind.u32).bits))))), x25663)))
    (some ((x25367, x25640))) : Option ((List Int) × (List Int))).bind fun (x25610, x25614) =>
    some (.go (x25610, x25614, (IntKind.i64.wrap (x25374 - 1)))))
    (some (.done (x25367, x25371)))

def ref01_divide (n : Nat) : (List Int) → (List Int) → Option ((List Int) × (List Int))
  | x24715, x24718 =>
    (mk (x24715.length : Int) 0).bind fun x24723 =>
    (loopN (ref01_divide_L1 n x24715 x24718) n (x24723, [], (IntKind.i64.wrap ((IntKind.i64.wrap (32 * (x24715.length : Int))) - 1))) : Option ((List Int) × (List Int))).bind fun (x25205, x25209) =>
    (ref01_trim n x25205).bind fun x25693 =>
    some ((x25693, x25209))

def ref01_Add (n : Nat) : Int_2 → Int_2 → Option Int_2
  | x25701, x25704 =>
    (ref01_Norm n (Int_2.mk x25701.Neg x25701.Mag)).bind fun x25714 =>
    (ref01_Norm n (Int_2.mk x25704.Neg x25704.Mag)).bind fun x25721 =>
    cond (x25714.Neg == x25721.Neg)
    ((ref01_add n x25714.Mag x25721.Mag).bind fun x25745 =>
    (ref01_Norm n (Int_2.mk x25714.Neg x25745)).bind fun x25755 =>
    some ((Int_2.mk x25755.Neg x25755.Mag)))
    ((ref01_cmp n x25714.Mag x25721.Mag).bind fun x25762 =>
    cond (decide (x25762 < 0))
    ((ref01_sub n x25721.Mag x25714.Mag).bind fun x25782 =>
    (ref01_Norm n (Int_2.mk x25721.Neg x25782)).bind fun x25792 =>
    some ((Int_2.mk x25792.Neg x25792.Mag)))
    ((ref01_sub n x25714.Mag x25721.Mag).bind fun x25816 =>
    (ref01_Norm n (Int_2.mk x25714.Neg x25816)).bind fun x25826 =>
    some ((Int_2.mk x25826.Neg x25826.Mag))))

def ref01_Sub (n : Nat) : Int_2 → Int_2 → Option Int_2
  | x25833, x25836 =>
    (ref01_Neg n (Int_2.mk x25836.Neg x25836.Mag)).bind fun x25865 =>
    (ref01_Add n (Int_2.mk x25833.Neg x25833.Mag) x25865).bind fun x25871 =>
    some ((Int_2.mk x25871.Neg x25871.Mag))

def ref01_DivMod (n : Nat) : Int_2 → Int_2 → Option (Int_2 × Int_2 × Int)
  | x25878, x25881 =>
    (ref01_Sign n (Int_2.mk x25881.Neg x25881.Mag)).bind fun x25900 =>
    cond (x25900 == 0)
    (some (((Int_2.mk false []), (Int_2.mk false []), 10)))
    ((ref01_trim n x25878.Mag).bind fun x25930 =>
    (ref01_trim n x25881.Mag).bind fun x25937 =>
    (ref01_divide n x25930 x25937).bind fun (x25946, x25947) =>
    (ref01_Norm n (Int_2.mk (!(x25878.Neg == x25881.Neg)) x25946)).bind fun x25959 =>
    (ref01_Norm n (Int_2.mk x25878.Neg x25947)).bind fun x25972 =>
    (cond x25972.Neg
    ((ref01_Abs n (Int_2.mk x25881.Neg x25881.Mag)).bind fun x26084 =>
    (ref01_Add n (Int_2.mk x25972.Neg x25972.Mag) x26084).bind fun x26090 =>
    cond x25881.Neg
    ((ref01_Of n 1).bind fun x26110 =>
    (ref01_Add n (Int_2.mk x25959.Neg x25959.Mag) x26110).bind fun x26116 =>
    some ((x26116.Neg, x26116.Mag, x26090.Neg, x26090.Mag)))
    ((ref01_Of n 1).bind fun x26136 =>
    (ref01_Sub n (Int_2.mk x25959.Neg x25959.Mag) x26136).bind fun x26142 =>
    some ((x26142.Neg, x26142.Mag, x26090.Neg, x26090.Mag))))
    (some ((x25959.Neg, x25959.Mag, x25972.Neg, x25972.Mag))) : Option (Bool × (List Int) × Bool × (List Int))).bind fun (x26059, x26060, x26063, x26064) =>
    some (((Int_2.mk x26059 x26060), (Int_2.mk x26063 x26064), 0)))

def ref02_part (n : Nat) : Int_2 → Int_2 → Option Int_2
  | x26153, x26156 =>
    (ref01_DivMod n (Int_2.mk x26153.Neg x26153.Mag) (Int_2.mk x26156.Neg x26156.Mag)).bind fun (x26172, x26173, x26174) =>
    some ((Int_2.mk x26172.Neg x26172.Mag))

def ref02_New (n : Nat) : Int_2 → Int_2 → Option Rational
  | x26189, x26192 =>
    ((ref01_Sign n (Int_2.mk x26189.Neg x26189.Mag)).bind fun x26213 =>
    cond (x26213 == 0)
    (some (true))
    ((ref01_Sign n (Int_2.mk x26192.Neg x26192.Mag)).bind fun x26216 =>
    some ((x26216 == 0))) : Option Bool).bind fun x26209 =>
    cond x26209
    ((ref01_Of n 0).bind fun x26219 =>
    (ref02_One n ).bind fun x26225 =>
    some ((Rational.mk (Int_2.mk x26219.Neg x26219.Mag) (Int_2.mk x26225.Neg x26225.Mag))))
    (((ref01_Sign n (Int_2.mk x26192.Neg x26192.Mag)).bind fun x26269 =>
    cond (decide (x26269 < 0))
    ((ref01_Neg n (Int_2.mk x26189.Neg x26189.Mag)).bind fun x26272 =>
    (ref01_Neg n (Int_2.mk x26192.Neg x26192.Mag)).bind fun x26279 =>
    some ((x26272.Neg, x26272.Mag, x26279.Neg, x26279.Mag)))
    (some ((x26189.Neg, x26189.Mag, x26192.Neg, x26192.Mag))) : Option (Bool × (List Int) × Bool × (List Int))).bind fun (x26257, x26258, x26261, x26262) =>
    (ref01_Gcd n (Int_2.mk x26257 x26258) (Int_2.mk x26261 x26262)).bind fun x26286 =>
    (ref02_part n (Int_2.mk x26257 x26258) (Int_2.mk x26286.Neg x26286.Mag)).bind fun x26316 =>
    (ref02_part n (Int_2.mk x26261 x26262) (Int_2.mk x26286.Neg x26286.Mag)).bind fun x26322 =>
    some ((Rational.mk (Int_2.mk x26316.Neg x26316.Mag) (Int_2.mk x26322.Neg x26322.Mag))))

def ref02_Norm (n : Nat) : Rational → Option Rational
  | x26337 =>
    (ref02_New n (Int_2.mk x26337.Num.Neg x26337.Num.Mag) (Int_2.mk x26337.Den.Neg x26337.Den.Mag)).bind fun x26351 =>
    some ((Rational.mk (Int_2.mk x26351.Num.Neg x26351.Num.Mag) (Int_2.mk x26351.Den.Neg x26351.Den.Mag)))

def ref02_Sign (n : Nat) : Rational → Option Int
  | x26360 =>
    (ref02_Norm n (Rational.mk (Int_2.mk x26360.Num.Neg x26360.Num.Mag) (Int_2.mk x26360.Den.Neg x26360.Den.Mag))).bind fun x26370 =>
    (ref01_Sign n (Int_2.mk x26370.Num.Neg x26370.Num.Mag)).bind fun x26378 =>
    some (x26378)

def ref01_Mul_L13 (x26381 : Int_2) (x26384 : Int_2) (x27892 : Int) : ((List Int) × Int × Int) → Option (Out ((List Int) × Int × Int) (List Int))
  | (x28507, x28511, x28512) =>
    (cond (decide (x28512 < (x26384.Mag.length : Int)))
    (some (true))
    (some ((decide (x28511 > 0)))) : Option Bool).bind fun x28577 =>
    cond x28577
    ((idx x28507 (IntKind.i64.wrap (x27892 + x28512))).bind fun x28580 =>
    (cond (decide (x28512 < (x26384.Mag.length : Int)))
    ((idx x26381.Mag x27892).bind fun x28605 =>
    (idx x26384.Mag x28512).bind fun x28611 =>
    some ((IntKind.u64.wrap ((IntKind.u64.wrap ((IntKind.u64.wrap x28580) + x28511)) + (IntKind.u64.wrap ((IntKind.u64.wrap x28605) * (IntKind.u64.wrap x28611)))))))
    (some ((IntKind.u64.wrap ((IntKind.u64.wrap x28580) + x28511)))) : Option Int).bind fun x28601 =>
    (idx x28507 (IntKind.i64.wrap (x27892 + x28512))).bind fun x28618 =>
    some (.go ((upd x28507 (IntKind.i64.wrap (x27892 + x28512)) (IntKind.u32.wrap x28601)), (x28601.fdiv (2 ^ min (32 : Int).toNat (IntKind.u64).bits)), (IntKind.i64.wrap (x28512 + 1)))))
    (some (.done x28507))

def ref01_Mul_L11 (n : Nat) (x26381 : Int_2) (x26384 : Int_2) : ((List Int) × Int) → Option (Out ((List Int) × Int) (List Int))
  | (x27888, x27892) =>
    cond (decide (x27892 < (x26381.Mag.length : Int)))
    ((loopN (ref01_Mul_L13 x26381 x26384 x27892) n (x27888, 0, 0) : Option (List Int)).bind fun x28446 =>
    some (.go (x28446, (IntKind.i64.wrap (x27892 + 1)))))
    (some (.done x27888))

def ref01_Mul (n : Nat) : Int_2 → Int_2 → Option Int_2
  | x26381, x26384 =>
    (mk (IntKind.i64.wrap ((IntKind.i64.wrap ((x26381.Mag.length : Int) + (x26384.Mag.length : Int))) + 1)) 0).bind fun x26400 =>
    (loopN (ref01_Mul_L11 n x26381 x26384) n (x26400, 0) : Option (List Int)).bind fun x27516 =>
    (ref01_Norm n (Int_2.mk (!(x26381.Neg == x26384.Neg)) x27516)).bind fun x28638 =>
    some ((Int_2.mk x28638.Neg x28638.Mag))

def ref02_Div (n : Nat) : Rational → Rational → Option (Rational × Int)
  | x28645, x28650 =>
    (ref02_Norm n (Rational.mk (Int_2.mk x28645.Num.Neg x28645.Num.Mag) (Int_2.mk x28645.Den.Neg x28645.Den.Mag))).bind fun x28669 =>
    (ref02_Norm n (Rational.mk (Int_2.mk x28650.Num.Neg x28650.Num.Mag) (Int_2.mk x28650.Den.Neg x28650.Den.Mag))).bind fun x28680 =>
    (ref02_Sign n (Rational.mk (Int_2.mk x28680.Num.Neg x28680.Num.Mag) (Int_2.mk x28680.Den.Neg x28680.Den.Mag))).bind fun x28691 =>
    cond (x28691 == 0)
    (some (((Rational.mk (Int_2.mk false []) (Int_2.mk false [])), 10)))
    ((ref01_Mul n (Int_2.mk x28669.Num.Neg x28669.Num.Mag) (Int_2.mk x28680.Den.Neg x28680.Den.Mag)).bind fun x28716 =>
    (ref01_Mul n (Int_2.mk x28669.Den.Neg x28669.Den.Mag) (Int_2.mk x28680.Num.Neg x28680.Num.Mag)).bind fun x28722 =>
    (ref02_New n x28716 x28722).bind fun x28728 =>
    some (((Rational.mk (Int_2.mk x28728.Num.Neg x28728.Num.Mag) (Int_2.mk x28728.Den.Neg x28728.Den.Mag)), 0)))

def rational_Whole (n : Nat) : Rational → Option (Int_2 × Bool)
  | x28737 =>
    (rational_Norm n (Rational.mk (Int_2.mk x28737.Num.Neg x28737.Num.Mag) (Int_2.mk x28737.Den.Neg x28737.Den.Mag))).bind fun x28747 =>
    (rational_one n (Int_2.mk x28747.Den.Neg x28747.Den.Mag)).bind fun x28756 =>
    cond (!x28756)
    (some (((Int_2.mk false []), false)))
    (some (((Int_2.mk x28747.Num.Neg x28747.Num.Mag), true)))

def ref01_Cmp (n : Nat) : Int_2 → Int_2 → Option Int
  | x28761, x28764 =>
    (ref01_Norm n (Int_2.mk x28761.Neg x28761.Mag)).bind fun x28771 =>
    (ref01_Norm n (Int_2.mk x28764.Neg x28764.Mag)).bind fun x28778 =>
    cond (!(x28771.Neg == x28778.Neg))
    (cond x28771.Neg
    (some ((-1)))
    (some (1)))
    (cond x28771.Neg
    ((ref01_cmp n x28778.Mag x28771.Mag).bind fun x28785 =>
    some (x28785))
    ((ref01_cmp n x28771.Mag x28778.Mag).bind fun x28788 =>
    some (x28788)))

def ref02_Whole (n : Nat) : Rational → Option (Int_2 × Bool)
  | x28791 =>
    (ref02_Norm n (Rational.mk (Int_2.mk x28791.Num.Neg x28791.Num.Mag) (Int_2.mk x28791.Den.Neg x28791.Den.Mag))).bind fun x28804 =>
    (ref02_One n ).bind fun x28824 =>
    (ref01_Cmp n (Int_2.mk x28804.Den.Neg x28804.Den.Mag) x28824).bind fun x28830 =>
    cond (x28830 != 0)
    (some (((Int_2.mk false []), false)))
    (some (((Int_2.mk x28804.Num.Neg x28804.Num.Mag), true)))

def base_Int_L1 (x28835 : Int_2) (x28838 : Int_2) : Int → Option (Out Int (Out Unit Bool))
  | x28917 =>
    cond (decide (x28917 < (x28835.Mag.length : Int)))
    ((idx x28835.Mag x28917).bind fun x28936 =>
    (idx x28838.Mag x28917).bind fun x28942 =>
    cond (x28936 != x28942)
    (some (.done (.done false)))
    (some (.go (IntKind.i64.wrap (x28917 + 1)))))
    (some (.done (.go ())))

def base_Int (n : Nat) : Int_2 → Int_2 → Option Bool
  | x28835, x28838 =>
    (cond (!(x28835.Neg == x28838.Neg))
    (some (true))
    (some (((x28835.Mag.length : Int) != (x28838.Mag.length : Int)))) : Option Bool).bind fun x28851 =>
    cond x28851
    (some (false))
    ((loopN (base_Int_L1 x28835 x28838) n 0 : Option (Out Unit Bool)).bind fun y28902 => (match y28902 with
    | .go _ =>
    some (true)
    | .done r => some r))

def base_Rational (n : Nat) : Rational → Rational → Option Bool
  | x28951, x28956 =>
    ((base_Int n (Int_2.mk x28951.Num.Neg x28951.Num.Mag) (Int_2.mk x28956.Num.Neg x28956.Num.Mag)).bind fun x28981 =>
    cond x28981
    ((base_Int n (Int_2.mk x28951.Den.Neg x28951.Den.Mag) (Int_2.mk x28956.Den.Neg x28956.Den.Mag)).bind fun x28984 =>
    some (x28984))
    (some (false)) : Option Bool).bind fun x28977 =>
    some (x28977)

def rational_Cmp (n : Nat) : Rational → Rational → Option Int
  | x28987, x28992 =>
    (rational_Norm n (Rational.mk (Int_2.mk x28987.Num.Neg x28987.Num.Mag) (Int_2.mk x28987.Den.Neg x28987.Den.Mag))).bind fun x29019 =>
    (rational_Norm n (Rational.mk (Int_2.mk x28992.Num.Neg x28992.Num.Mag) (Int_2.mk x28992.Den.Neg x28992.Den.Mag))).bind fun x29027 =>
    (integer_Mul n (Int_2.mk x29019.Num.Neg x29019.Num.Mag) (Int_2.mk x29027.Den.Neg x29027.Den.Mag)).bind fun x29052 =>
    (integer_Mul n (Int_2.mk x29027.Num.Neg x29027.Num.Mag) (Int_2.mk x29019.Den.Neg x29019.Den.Mag)).bind fun x29058 =>
    (integer_Cmp n x29052 x29058).bind fun x29064 =>
    some (x29064)

def ref02_Neg (n : Nat) : Rational → Option Rational
  | x29067 =>
    (ref02_Norm n (Rational.mk (Int_2.mk x29067.Num.Neg x29067.Num.Mag) (Int_2.mk x29067.Den.Neg x29067.Den.Mag))).bind fun x29081 =>
    (ref01_Neg n (Int_2.mk x29081.Num.Neg x29081.Num.Mag)).bind fun x29107 =>
    (ref02_New n x29107 (Int_2.mk x29081.Den.Neg x29081.Den.Mag)).bind fun x29113 =>
    some ((Rational.mk (Int_2.mk x29113.Num.Neg x29113.Num.Mag) (Int_2.mk x29113.Den.Neg x29113.Den.Mag)))

def ref02_Add (n : Nat) : Rational → Rational → Option Rational
  | x29122, x29127 =>
    (ref02_Norm n (Rational.mk (Int_2.mk x29122.Num.Neg x29122.Num.Mag) (Int_2.mk x29122.Den.Neg x29122.Den.Mag))).bind fun x29146 =>
    (ref02_Norm n (Rational.mk (Int_2.mk x29127.Num.Neg x29127.Num.Mag) (Int_2.mk x29127.Den.Neg x29127.Den.Mag))).bind fun x29157 =>
    (ref01_Mul n (Int_2.mk x29146.Num.Neg x29146.Num.Mag) (Int_2.mk x29157.Den.Neg x29157.Den.Mag)).bind fun x29201 =>
    (ref01_Mul n (Int_2.mk x29157.Num.Neg x29157.Num.Mag) (Int_2.mk x29146.Den.Neg x29146.Den.Mag)).bind fun x29207 =>
    (ref01_Add n x29201 x29207).bind fun x29213 =>
    (ref01_Mul n (Int_2.mk x29146.Den.Neg x29146.Den.Mag) (Int_2.mk x29157.Den.Neg x29157.Den.Mag)).bind fun x29219 =>
    (ref02_New n x29213 x29219).bind fun x29225 =>
    some ((Rational.mk (Int_2.mk x29225.Num.Neg x29225.Num.Mag) (Int_2.mk x29225.Den.Neg x29225.Den.Mag)))

def ref02_Sub (n : Nat) : Rational → Rational → Option Rational
  | x29234, x29239 =>
    (ref02_Neg n (Rational.mk (Int_2.mk x29239.Num.Neg x29239.Num.Mag) (Int_2.mk x29239.Den.Neg x29239.Den.Mag))).bind fun x29275 =>
    (ref02_Add n (Rational.mk (Int_2.mk x29234.Num.Neg x29234.Num.Mag) (Int_2.mk x29234.Den.Neg x29234.Den.Mag)) x29275).bind fun x29283 =>
    some ((Rational.mk (Int_2.mk x29283.Num.Neg x29283.Num.Mag) (Int_2.mk x29283.Den.Neg x29283.Den.Mag)))

def ref02_Cmp (n : Nat) : Rational → Rational → Option Int
  | x29292, x29297 =>
    (ref02_Sub n (Rational.mk (Int_2.mk x29292.Num.Neg x29292.Num.Mag) (Int_2.mk x29292.Den.Neg x29292.Den.Mag)) (Rational.mk (Int_2.mk x29297.Num.Neg x29297.Num.Mag) (Int_2.mk x29297.Den.Neg x29297.Den.Mag))).bind fun x29312 =>
    (ref02_Sign n x29312).bind fun x29320 =>
    some (x29320)

def rational_Floor (n : Nat) : Rational → Option Int_2
  | x29323 =>
    (rational_Norm n (Rational.mk (Int_2.mk x29323.Num.Neg x29323.Num.Mag) (Int_2.mk x29323.Den.Neg x29323.Den.Mag))).bind fun x29333 =>
    (integer_DivMod n (Int_2.mk x29333.Num.Neg x29333.Num.Mag) (Int_2.mk x29333.Den.Neg x29333.Den.Mag)).bind fun (x29342, x29343, x29344) =>
    some ((Int_2.mk x29342.Neg x29342.Mag))

def ref02_Floor (n : Nat) : Rational → Option Int_2
  | x29359 =>
    (ref02_Norm n (Rational.mk (Int_2.mk x29359.Num.Neg x29359.Num.Mag) (Int_2.mk x29359.Den.Neg x29359.Den.Mag))).bind fun x29372 =>
    (ref02_part n (Int_2.mk x29372.Num.Neg x29372.Num.Mag) (Int_2.mk x29372.Den.Neg x29372.Den.Mag)).bind fun x29383 =>
    some ((Int_2.mk x29383.Neg x29383.Mag))

def law02_RationalQuotients (n : Nat) : Rational → Rational → Option Bool
  | x29390, x29395 =>
    ((law02_awake n ).bind fun x29453 =>
    cond (!x29453)
    (some ((x29390.Num.Mag, x29390.Den.Mag, x29395.Num.Mag, x29395.Den.Mag, true)))
    ((law02_few n [(Rational.mk (Int_2.mk x29390.Num.Neg x29390.Num.Mag) (Int_2.mk x29390.Den.Neg x29390.Den.Mag)), (Rational.mk (Int_2.mk x29395.Num.Neg x29395.Num.Mag) (Int_2.mk x29395.Den.Neg x29395.Den.Mag))]).bind fun x29476 =>
    some ((x29390.Num.Mag, x29390.Den.Mag, x29395.Num.Mag, x29395.Den.Mag, (!x29476)))) : Option ((List Int) × (List Int) × (List Int) × (List Int) × Bool)).bind fun (x29436, x29439, x29442, x29445, x29448) =>
    cond x29448
    ((law02_awake n ).bind fun x29479 =>
    some (x29479))
    ((rational_Div n (Rational.mk (Int_2.mk x29390.Num.Neg x29436) (Int_2.mk x29390.Den.Neg x29439)) (Rational.mk (Int_2.mk x29395.Num.Neg x29442) (Int_2.mk x29395.Den.Neg x29445))).bind fun (x29482, x29483) =>
    (ref02_Div n (Rational.mk (Int_2.mk x29390.Num.Neg x29436) (Int_2.mk x29390.Den.Neg x29439)) (Rational.mk (Int_2.mk x29395.Num.Neg x29442) (Int_2.mk x29395.Den.Neg x29445))).bind fun (x29494, x29495) =>
    (rational_Whole n (Rational.mk (Int_2.mk x29390.Num.Neg x29436) (Int_2.mk x29390.Den.Neg x29439))).bind fun (x29506, x29507) =>
    (ref02_Whole n (Rational.mk (Int_2.mk x29390.Num.Neg x29436) (Int_2.mk x29390.Den.Neg x29439))).bind fun (x29516, x29517) =>
    (cond (x29483 == x29495)
    ((base_Rational n (Rational.mk (Int_2.mk x29482.Num.Neg x29482.Num.Mag) (Int_2.mk x29482.Den.Neg x29482.Den.Mag)) (Rational.mk (Int_2.mk x29494.Num.Neg x29494.Num.Mag) (Int_2.mk x29494.Den.Neg x29494.Den.Mag))).bind fun x29612 =>
    cond x29612
    ((rational_Cmp n (Rational.mk (Int_2.mk x29390.Num.Neg x29436) (Int_2.mk x29390.Den.Neg x29439)) (Rational.mk (Int_2.mk x29395.Num.Neg x29442) (Int_2.mk x29395.Den.Neg x29445))).bind fun x29615 =>
    (ref02_Cmp n (Rational.mk (Int_2.mk x29390.Num.Neg x29436) (Int_2.mk x29390.Den.Neg x29439)) (Rational.mk (Int_2.mk x29395.Num.Neg x29442) (Int_2.mk x29395.Den.Neg x29445))).bind fun x29618 =>
    cond (x29615 == x29618)
    ((rational_Floor n (Rational.mk (Int_2.mk x29390.Num.Neg x29436) (Int_2.mk x29390.Den.Neg x29439))).bind fun x29621 =>
    (ref02_Floor n (Rational.mk (Int_2.mk x29390.Num.Neg x29436) (Int_2.mk x29390.Den.Neg x29439))).bind fun x29627 =>
    (base_Int n x29621 x29627).bind fun x29633 =>
    cond x29633
    ((base_Int n (Int_2.mk x29506.Neg x29506.Mag) (Int_2.mk x29516.Neg x29516.Mag)).bind fun x29636 =>
    cond x29636
    (some ((x29507 == x29517)))
    (some (false)))
    (some (false)))
    (some (false)))
    (some (false)))
    (some (false)) : Option Bool).bind fun x29580 =>
    some (x29580))

def rational_empty (n : Nat) : Interval → Option Bool
  | x29639 =>
    (rational_Cmp n (Rational.mk (Int_2.mk x29639.Lo.Num.Neg x29639.Lo.Num.Mag) (Int_2.mk x29639.Lo.Den.Neg x29639.Lo.Den.Mag)) (Rational.mk (Int_2.mk x29639.Hi.Num.Neg x29639.Hi.Num.Mag) (Int_2.mk x29639.Hi.Den.Neg x29639.Hi.Den.Mag))).bind fun x29653 =>
    some ((decide (x29653 > 0)))

def rational_Plus (n : Nat) : Interval → Interval → Option (Interval × Int)
  | x29656, x29665 =>
    ((rational_empty n (Interval.mk (Rational.mk (Int_2.mk x29656.Lo.Num.Neg x29656.Lo.Num.Mag) (Int_2.mk x29656.Lo.Den.Neg x29656.Lo.Den.Mag)) (Rational.mk (Int_2.mk x29656.Hi.Num.Neg x29656.Hi.Num.Mag) (Int_2.mk x29656.Hi.Den.Neg x29656.Hi.Den.Mag)))).bind fun x29700 =>
    cond x29700
    (some (true))
    ((rational_empty n (Interval.mk (Rational.mk (Int_2.mk x29665.Lo.Num.Neg x29665.Lo.Num.Mag) (Int_2.mk x29665.Lo.Den.Neg x29665.Lo.Den.Mag)) (Rational.mk (Int_2.mk x29665.Hi.Num.Neg x29665.Hi.Num.Mag) (Int_2.mk x29665.Hi.Den.Neg x29665.Hi.Den.Mag)))).bind fun x29703 =>
    some (x29703)) : Option Bool).bind fun x29696 =>
    cond x29696
    (some (((Interval.mk (Rational.mk (Int_2.mk false []) (Int_2.mk false [])) (Rational.mk (Int_2.mk false []) (Int_2.mk false []))), 2)))
    ((rational_Add n (Rational.mk (Int_2.mk x29656.Lo.Num.Neg x29656.Lo.Num.Mag) (Int_2.mk x29656.Lo.Den.Neg x29656.Lo.Den.Mag)) (Rational.mk (Int_2.mk x29665.Lo.Num.Neg x29665.Lo.Num.Mag) (Int_2.mk x29665.Lo.Den.Neg x29665.Lo.Den.Mag))).bind fun x29740 =>
    (rational_Add n (Rational.mk (Int_2.mk x29656.Hi.Num.Neg x29656.Hi.Num.Mag) (Int_2.mk x29656.Hi.Den.Neg x29656.Hi.Den.Mag)) (Rational.mk (Int_2.mk x29665.Hi.Num.Neg x29665.Hi.Num.Mag) (Int_2.mk x29665.Hi.Den.Neg x29665.Hi.Den.Mag))).bind fun x29748 =>
    some (((Interval.mk (Rational.mk (Int_2.mk x29740.Num.Neg x29740.Num.Mag) (Int_2.mk x29740.Den.Neg x29740.Den.Mag)) (Rational.mk (Int_2.mk x29748.Num.Neg x29748.Num.Mag) (Int_2.mk x29748.Den.Neg x29748.Den.Mag))), 0)))

def rational_Times_L1 (n : Nat) (x30334 : Rational) (x30342 : Rational) (x30350 : Rational) : (Bool × (List Int) × Bool × (List Int) × Bool × (List Int) × Bool × (List Int) × Int) → Option (Out (Bool × (List Int) × Bool × (List Int) × Bool × (List Int) × Bool × (List Int) × Int) (Bool × (List Int) × Bool × (List Int) × Bool × (List Int) × Bool × (List Int)))
  | (x30477, x30478, x30481, x30482, x30485, x30486, x30489, x30490, x30493) =>
    cond (decide (x30493 < ([x30334, x30342, x30350].length : Int)))
    (((idx [x30334, x30342, x30350] x30493).bind fun x30661 =>
    ((rational_Cmp n (Rational.mk (Int_2.mk x30661.Num.Neg x30661.Num.Mag) (Int_2.mk x30661.Den.Neg x30661.Den.Mag)) (Rational.mk (Int_2.mk x30477 x30478) (Int_2.mk x30481 x30482))).bind fun x30689 =>
    cond (decide (x30689 < 0))
    (some ((x30661.Num.Neg, x30661.Num.Mag, x30661.Den.Neg, x30661.Den.Mag)))
    (some ((x30477, x30478, x30481, x30482))) : Option (Bool × (List Int) × Bool × (List Int))).bind fun (x30678, x30679, x30682, x30683) =>
    (rational_Cmp n (Rational.mk (Int_2.mk x30661.Num.Neg x30661.Num.Mag) (Int_2.mk x30661.Den.Neg x30661.Den.Mag)) (Rational.mk (Int_2.mk x30485 x30486) (Int_2.mk x30489 x30490))).bind fun x30693 =>
    cond (decide (x30693 > 0))
    (some ((x30678, x30679, x30682, x30683, x30661.Num.Neg, x30661.Num.Mag, x30661.Den.Neg, x30661.Den.Mag)))
    (some ((x30678, x30679, x30682, x30683, x30485, x30486, x30489, x30490))) : Option (Bool × (List Int) × Bool × (List Int) × Bool × (List Int) × Bool × (List Int))).bind fun (x30642, x30643, x30646, x30647, x30650, x30651, x30654, x30655) =>
    some (.go (x30642, x30643, x30646, x30647, x30650, x30651, x30654, x30655, (IntKind.i64.wrap (x30493 + 1)))))
    (some (.done (x30477, x30478, x30481, x30482, x30485, x30486, x30489, x30490)))

def rational_Times (n : Nat) : Interval → Interval → Option (Interval × Int)
  | x29773, x29782 =>
    ((rational_empty n (Interval.mk (Rational.mk (Int_2.mk x29773.Lo.Num.Neg x29773.Lo.Num.Mag) (Int_2.mk x29773.Lo.Den.Neg x29773.Lo.Den.Mag)) (Rational.mk (Int_2.mk x29773.Hi.Num.Neg x29773.Hi.Num.Mag) (Int_2.mk x29773.Hi.Den.Neg x29773.Hi.Den.Mag)))).bind fun x29817 =>
    cond x29817
    (some (true))
    ((rational_empty n (Interval.mk (Rational.mk (Int_2.mk x29782.Lo.Num.Neg x29782.Lo.Num.Mag) (Int_2.mk x29782.Lo.Den.Neg x29782.Lo.Den.Mag)) (Rational.mk (Int_2.mk x29782.Hi.Num.Neg x29782.Hi.Num.Mag) (Int_2.mk x29782.Hi.Den.Neg x29782.Hi.Den.Mag)))).bind fun x29820 =>
    some (x29820)) : Option Bool).bind fun x29813 =>
    cond x29813
    (some (((Interval.mk (Rational.mk (Int_2.mk false []) (Int_2.mk false [])) (Rational.mk (Int_2.mk false []) (Int_2.mk false []))), 2)))
    ((rational_Mul n (Rational.mk (Int_2.mk x29773.Lo.Num.Neg x29773.Lo.Num.Mag) (Int_2.mk x29773.Lo.Den.Neg x29773.Lo.Den.Mag)) (Rational.mk (Int_2.mk x29782.Lo.Num.Neg x29782.Lo.Num.Mag) (Int_2.mk x29782.Lo.Den.Neg x29782.Lo.Den.Mag))).bind fun x29824 =>
    ((rational_Mul n (Rational.mk (Int_2.mk x29773.Lo.Num.Neg x29773.Lo.Num.Mag) (Int_2.mk x29773.Lo.Den.Neg x29773.Lo.Den.Mag)) (Rational.mk (Int_2.mk x29782.Hi.Num.Neg x29782.Hi.Num.Mag) (Int_2.mk x29782.Hi.Den.Neg x29782.Hi.Den.Mag))).bind fun x30334 =>
    (rational_Mul n (Rational.mk (Int_2.mk x29773.Hi.Num.Neg x29773.Hi.Num.Mag) (Int_2.mk x29773.Hi.Den.Neg x29773.Hi.Den.Mag)) (Rational.mk (Int_2.mk x29782.Lo.Num.Neg x29782.Lo.Num.Mag) (Int_2.mk x29782.Lo.Den.Neg x29782.Lo.Den.Mag))).bind fun x30342 =>
    (rational_Mul n (Rational.mk (Int_2.mk x29773.Hi.Num.Neg x29773.Hi.Num.Mag) (Int_2.mk x29773.Hi.Den.Neg x29773.Hi.Den.Mag)) (Rational.mk (Int_2.mk x29782.Hi.Num.Neg x29782.Hi.Num.Mag) (Int_2.mk x29782.Hi.Den.Neg x29782.Hi.Den.Mag))).bind fun x30350 =>
    loopN (rational_Times_L1 n x30334 x30342 x30350) n (x29824.Num.Neg, x29824.Num.Mag, x29824.Den.Neg, x29824.Den.Mag, x29824.Num.Neg, x29824.Num.Mag, x29824.Den.Neg, x29824.Den.Mag, 0) : Option (Bool × (List Int) × Bool × (List Int) × Bool × (List Int) × Bool × (List Int))).bind fun (x30262, x30263, x30266, x30267, x30270, x30271, x30274, x30275) =>
    (rational_Norm n (Rational.mk (Int_2.mk x30262 x30263) (Int_2.mk x30266 x30267))).bind fun x30716 =>
    (rational_Norm n (Rational.mk (Int_2.mk x30270 x30271) (Int_2.mk x30274 x30275))).bind fun x30724 =>
    some (((Interval.mk (Rational.mk (Int_2.mk x30716.Num.Neg x30716.Num.Mag) (Int_2.mk x30716.Den.Neg x30716.Den.Mag)) (Rational.mk (Int_2.mk x30724.Num.Neg x30724.Num.Mag) (Int_2.mk x30724.Den.Neg x30724.Den.Mag))), 0)))

def rational_Meet (n : Nat) : Interval → Interval → Option (Interval × Bool)
  | x30866, x30875 =>
    ((rational_Norm n (Rational.mk (Int_2.mk x30866.Lo.Num.Neg x30866.Lo.Num.Mag) (Int_2.mk x30866.Lo.Den.Neg x30866.Lo.Den.Mag))).bind fun x31212 =>
    (rational_Norm n (Rational.mk (Int_2.mk x30866.Hi.Num.Neg x30866.Hi.Num.Mag) (Int_2.mk x30866.Hi.Den.Neg x30866.Hi.Den.Mag))).bind fun x31220 =>
    some ((x31212.Num.Neg, x31212.Num.Mag, x31212.Den.Neg, x31212.Den.Mag, x31220.Num.Neg, x31220.Num.Mag, x31220.Den.Neg, x31220.Den.Mag)) : Option (Bool × (List Int) × Bool × (List Int) × Bool × (List Int) × Bool × (List Int))).bind fun (x31095, x31096, x31099, x31100, x31103, x31104, x31107, x31108) =>
    ((rational_Cmp n (Rational.mk (Int_2.mk x30875.Lo.Num.Neg x30875.Lo.Num.Mag) (Int_2.mk x30875.Lo.Den.Neg x30875.Lo.Den.Mag)) (Rational.mk (Int_2.mk x31095 x31096) (Int_2.mk x31099 x31100))).bind fun x31333 =>
    cond (decide (x31333 > 0))
    ((rational_Norm n (Rational.mk (Int_2.mk x30875.Lo.Num.Neg x30875.Lo.Num.Mag) (Int_2.mk x30875.Lo.Den.Neg x30875.Lo.Den.Mag))).bind fun x31336 =>
    some ((x31336.Num.Neg, x31336.Num.Mag, x31336.Den.Neg, x31336.Den.Mag)))
    (some ((x31095, x31096, x31099, x31100))) : Option (Bool × (List Int) × Bool × (List Int))).bind fun (x31321, x31322, x31325, x31326) =>
    ((rational_Cmp n (Rational.mk (Int_2.mk x30875.Hi.Num.Neg x30875.Hi.Num.Mag) (Int_2.mk x30875.Hi.Den.Neg x30875.Hi.Den.Mag)) (Rational.mk (Int_2.mk x31103 x31104) (Int_2.mk x31107 x31108))).bind fun x31369 =>
    cond (decide (x31369 < 0))
    ((rational_Norm n (Rational.mk (Int_2.mk x30875.Hi.Num.Neg x30875.Hi.Num.Mag) (Int_2.mk x30875.Hi.Den.Neg x30875.Hi.Den.Mag))).bind fun x31372 =>
    some ((x31372.Num.Neg, x31372.Num.Mag, x31372.Den.Neg, x31372.Den.Mag)))
    (some ((x31103, x31104, x31107, x31108))) : Option (Bool × (List Int) × Bool × (List Int))).bind fun (x31357, x31358, x31361, x31362) =>
    (rational_empty n (Interval.mk (Rational.mk (Int_2.mk x31321 x31322) (Int_2.mk x31325 x31326)) (Rational.mk (Int_2.mk x31357 x31358) (Int_2.mk x31361 x31362)))).bind fun x31381 =>
    cond x31381
    (some (((Interval.mk (Rational.mk (Int_2.mk false []) (Int_2.mk false [])) (Rational.mk (Int_2.mk false []) (Int_2.mk false []))), false)))
    (some (((Interval.mk (Rational.mk (Int_2.mk x31321 x31322) (Int_2.mk x31325 x31326)) (Rational.mk (Int_2.mk x31357 x31358) (Int_2.mk x31361 x31362))), true)))

def ref02_Empty (n : Nat) : Interval → Option Bool
  | x31386 =>
    (ref02_Cmp n (Rational.mk (Int_2.mk x31386.Lo.Num.Neg x31386.Lo.Num.Mag) (Int_2.mk x31386.Lo.Den.Neg x31386.Lo.Den.Mag)) (Rational.mk (Int_2.mk x31386.Hi.Num.Neg x31386.Hi.Num.Mag) (Int_2.mk x31386.Hi.Den.Neg x31386.Hi.Den.Mag))).bind fun x31400 =>
    some ((decide (x31400 > 0)))

def ref02_Plus (n : Nat) : Interval → Interval → Option (Interval × Int)
  | x31403, x31412 =>
    ((ref02_Empty n (Interval.mk (Rational.mk (Int_2.mk x31403.Lo.Num.Neg x31403.Lo.Num.Mag) (Int_2.mk x31403.Lo.Den.Neg x31403.Lo.Den.Mag)) (Rational.mk (Int_2.mk x31403.Hi.Num.Neg x31403.Hi.Num.Mag) (Int_2.mk x31403.Hi.Den.Neg x31403.Hi.Den.Mag)))).bind fun x31447 =>
    cond x31447
    (some (true))
    ((ref02_Empty n (Interval.mk (Rational.mk (Int_2.mk x31412.Lo.Num.Neg x31412.Lo.Num.Mag) (Int_2.mk x31412.Lo.Den.Neg x31412.Lo.Den.Mag)) (Rational.mk (Int_2.mk x31412.Hi.Num.Neg x31412.Hi.Num.Mag) (Int_2.mk x31412.Hi.Den.Neg x31412.Hi.Den.Mag)))).bind fun x31450 =>
    some (x31450)) : Option Bool).bind fun x31443 =>
    cond x31443
    (some (((Interval.mk (Rational.mk (Int_2.mk false []) (Int_2.mk false [])) (Rational.mk (Int_2.mk false []) (Int_2.mk false []))), 2)))
    ((ref02_Add n (Rational.mk (Int_2.mk x31403.Lo.Num.Neg x31403.Lo.Num.Mag) (Int_2.mk x31403.Lo.Den.Neg x31403.Lo.Den.Mag)) (Rational.mk (Int_2.mk x31412.Lo.Num.Neg x31412.Lo.Num.Mag) (Int_2.mk x31412.Lo.Den.Neg x31412.Lo.Den.Mag))).bind fun x31487 =>
    (ref02_Add n (Rational.mk (Int_2.mk x31403.Hi.Num.Neg x31403.Hi.Num.Mag) (Int_2.mk x31403.Hi.Den.Neg x31403.Hi.Den.Mag)) (Rational.mk (Int_2.mk x31412.Hi.Num.Neg x31412.Hi.Num.Mag) (Int_2.mk x31412.Hi.Den.Neg x31412.Hi.Den.Mag))).bind fun x31495 =>
    some (((Interval.mk (Rational.mk (Int_2.mk x31487.Num.Neg x31487.Num.Mag) (Int_2.mk x31487.Den.Neg x31487.Den.Mag)) (Rational.mk (Int_2.mk x31495.Num.Neg x31495.Num.Mag) (Int_2.mk x31495.Den.Neg x31495.Den.Mag))), 0)))

def ref02_Mul (n : Nat) : Rational → Rational → Option Rational
  | x31520, x31525 =>
    (ref02_Norm n (Rational.mk (Int_2.mk x31520.Num.Neg x31520.Num.Mag) (Int_2.mk x31520.Den.Neg x31520.Den.Mag))).bind fun x31544 =>
    (ref02_Norm n (Rational.mk (Int_2.mk x31525.Num.Neg x31525.Num.Mag) (Int_2.mk x31525.Den.Neg x31525.Den.Mag))).bind fun x31555 =>
    (ref01_Mul n (Int_2.mk x31544.Num.Neg x31544.Num.Mag) (Int_2.mk x31555.Num.Neg x31555.Num.Mag)).bind fun x31587 =>
    (ref01_Mul n (Int_2.mk x31544.Den.Neg x31544.Den.Mag) (Int_2.mk x31555.Den.Neg x31555.Den.Mag)).bind fun x31593 =>
    (ref02_New n x31587 x31593).bind fun x31599 =>
    some ((Rational.mk (Int_2.mk x31599.Num.Neg x31599.Num.Mag) (Int_2.mk x31599.Den.Neg x31599.Den.Mag)))

def ref02_least (n : Nat) : Rational → Rational → Option Rational
  | x31608, x31613 =>
    (ref02_Cmp n (Rational.mk (Int_2.mk x31613.Num.Neg x31613.Num.Mag) (Int_2.mk x31613.Den.Neg x31613.Den.Mag)) (Rational.mk (Int_2.mk x31608.Num.Neg x31608.Num.Mag) (Int_2.mk x31608.Den.Neg x31608.Den.Mag))).bind fun x31632 =>
    cond (decide (x31632 < 0))
    ((ref02_Norm n (Rational.mk (Int_2.mk x31613.Num.Neg x31613.Num.Mag) (Int_2.mk x31613.Den.Neg x31613.Den.Mag))).bind fun x31635 =>
    some ((Rational.mk (Int_2.mk x31635.Num.Neg x31635.Num.Mag) (Int_2.mk x31635.Den.Neg x31635.Den.Mag))))
    ((ref02_Norm n (Rational.mk (Int_2.mk x31608.Num.Neg x31608.Num.Mag) (Int_2.mk x31608.Den.Neg x31608.Den.Mag))).bind fun x31644 =>
    some ((Rational.mk (Int_2.mk x31644.Num.Neg x31644.Num.Mag) (Int_2.mk x31644.Den.Neg x31644.Den.Mag))))

def ref02_greatest (n : Nat) : Rational → Rational → Option Rational
  | x31653, x31658 =>
    (ref02_Cmp n (Rational.mk (Int_2.mk x31658.Num.Neg x31658.Num.Mag) (Int_2.mk x31658.Den.Neg x31658.Den.Mag)) (Rational.mk (Int_2.mk x31653.Num.Neg x31653.Num.Mag) (Int_2.mk x31653.Den.Neg x31653.Den.Mag))).bind fun x31677 =>
    cond (decide (x31677 > 0))
    ((ref02_Norm n (Rational.mk (Int_2.mk x31658.Num.Neg x31658.Num.Mag) (Int_2.mk x31658.Den.Neg x31658.Den.Mag))).bind fun x31680 =>
    some ((Rational.mk (Int_2.mk x31680.Num.Neg x31680.Num.Mag) (Int_2.mk x31680.Den.Neg x31680.Den.Mag))))
    ((ref02_Norm n (Rational.mk (Int_2.mk x31653.Num.Neg x31653.Num.Mag) (Int_2.mk x31653.Den.Neg x31653.Den.Mag))).bind fun x31689 =>
    some ((Rational.mk (Int_2.mk x31689.Num.Neg x31689.Num.Mag) (Int_2.mk x31689.Den.Neg x31689.Den.Mag))))

def ref02_Times_L1 (n : Nat) (x31817 : Rational) (x31825 : Rational) (x31833 : Rational) (x31841 : Rational) : (Bool × (List Int) × Bool × (List Int) × Bool × (List Int) × Bool × (List Int) × Int) → Option (Out (Bool × (List Int) × Bool × (List Int) × Bool × (List Int) × Bool × (List Int) × Int) (Bool × (List Int) × Bool × (List Int) × Bool × (List Int) × Bool × (List Int)))
  | (x32328, x32329, x32332, x32333, x32336, x32337, x32340, x32341, x32344) =>
    cond (decide (x32344 < 4))
    ((idx [x31817, x31825, x31833, x31841] x32344).bind fun x32463 =>
    (ref02_least n (Rational.mk (Int_2.mk x32328 x32329) (Int_2.mk x32332 x32333)) (Rational.mk (Int_2.mk x32463.Num.Neg x32463.Num.Mag) (Int_2.mk x32463.Den.Neg x32463.Den.Mag))).bind fun x32473 =>
    (idx [x31817, x31825, x31833, x31841] x32344).bind fun x32501 =>
    (ref02_greatest n (Rational.mk (Int_2.mk x32336 x32337) (Int_2.mk x32340 x32341)) (Rational.mk (Int_2.mk x32501.Num.Neg x32501.Num.Mag) (Int_2.mk x32501.Den.Neg x32501.Den.Mag))).bind fun x32511 =>
    some (.go (x32473.Num.Neg, x32473.Num.Mag, x32473.Den.Neg, x32473.Den.Mag, x32511.Num.Neg, x32511.Num.Mag, x32511.Den.Neg, x32511.Den.Mag, (IntKind.i64.wrap (x32344 + 1)))))
    (some (.done (x32328, x32329, x32332, x32333, x32336, x32337, x32340, x32341)))

def ref02_Times (n : Nat) : Interval → Interval → Option (Interval × Int)
  | x31698, x31707 =>
    ((ref02_Empty n (Interval.mk (Rational.mk (Int_2.mk x31698.Lo.Num.Neg x31698.Lo.Num.Mag) (Int_2.mk x31698.Lo.Den.Neg x31698.Lo.Den.Mag)) (Rational.mk (Int_2.mk x31698.Hi.Num.Neg x31698.Hi.Num.Mag) (Int_2.mk x31698.Hi.Den.Neg x31698.Hi.Den.Mag)))).bind fun x31742 =>
    cond x31742
    (some (true))
    ((ref02_Empty n (Interval.mk (Rational.mk (Int_2.mk x31707.Lo.Num.Neg x31707.Lo.Num.Mag) (Int_2.mk x31707.Lo.Den.Neg x31707.Lo.Den.Mag)) (Rational.mk (Int_2.mk x31707.Hi.Num.Neg x31707.Hi.Num.Mag) (Int_2.mk x31707.Hi.Den.Neg x31707.Hi.Den.Mag)))).bind fun x31745 =>
    some (x31745)) : Option Bool).bind fun x31738 =>
    cond x31738
    (some (((Interval.mk (Rational.mk (Int_2.mk false []) (Int_2.mk false [])) (Rational.mk (Int_2.mk false []) (Int_2.mk false []))), 2)))
    ((ref02_Mul n (Rational.mk (Int_2.mk x31698.Lo.Num.Neg x31698.Lo.Num.Mag) (Int_2.mk x31698.Lo.Den.Neg x31698.Lo.Den.Mag)) (Rational.mk (Int_2.mk x31707.Lo.Num.Neg x31707.Lo.Num.Mag) (Int_2.mk x31707.Lo.Den.Neg x31707.Lo.Den.Mag))).bind fun x31817 =>
    (ref02_Mul n (Rational.mk (Int_2.mk x31698.Lo.Num.Neg x31698.Lo.Num.Mag) (Int_2.mk x31698.Lo.Den.Neg x31698.Lo.Den.Mag)) (Rational.mk (Int_2.mk x31707.Hi.Num.Neg x31707.Hi.Num.Mag) (Int_2.mk x31707.Hi.Den.Neg x31707.Hi.Den.Mag))).bind fun x31825 =>
    (ref02_Mul n (Rational.mk (Int_2.mk x31698.Hi.Num.Neg x31698.Hi.Num.Mag) (Int_2.mk x31698.Hi.Den.Neg x31698.Hi.Den.Mag)) (Rational.mk (Int_2.mk x31707.Lo.Num.Neg x31707.Lo.Num.Mag) (Int_2.mk x31707.Lo.Den.Neg x31707.Lo.Den.Mag))).bind fun x31833 =>
    (ref02_Mul n (Rational.mk (Int_2.mk x31698.Hi.Num.Neg x31698.Hi.Num.Mag) (Int_2.mk x31698.Hi.Den.Neg x31698.Hi.Den.Mag)) (Rational.mk (Int_2.mk x31707.Hi.Num.Neg x31707.Hi.Num.Mag) (Int_2.mk x31707.Hi.Den.Neg x31707.Hi.Den.Mag))).bind fun x31841 =>
    (idx [x31817, x31825, x31833, x31841] 0).bind fun x31924 =>
    (idx [x31817, x31825, x31833, x31841] 0).bind fun x31934 =>
    (loopN (ref02_Times_L1 n x31817 x31825 x31833 x31841) n (x31924.Num.Neg, x31924.Num.Mag, x31924.Den.Neg, x31924.Den.Mag, x31934.Num.Neg, x31934.Num.Mag, x31934.Den.Neg, x31934.Den.Mag, 1) : Option (Bool × (List Int) × Bool × (List Int) × Bool × (List Int) × Bool × (List Int))).bind fun (x32232, x32233, x32236, x32237, x32240, x32241, x32244, x32245) =>
    some (((Interval.mk (Rational.mk (Int_2.mk x32232 x32233) (Int_2.mk x32236 x32237)) (Rational.mk (Int_2.mk x32240 x32241) (Int_2.mk x32244 x32245))), 0)))

def ref02_Meet (n : Nat) : Interval → Interval → Option (Interval × Bool)
  | x32653, x32662 =>
    ((ref02_greatest n (Rational.mk (Int_2.mk x32653.Lo.Num.Neg x32653.Lo.Num.Mag) (Int_2.mk x32653.Lo.Den.Neg x32653.Lo.Den.Mag)) (Rational.mk (Int_2.mk x32662.Lo.Num.Neg x32662.Lo.Num.Mag) (Int_2.mk x32662.Lo.Den.Neg x32662.Lo.Den.Mag))).bind fun x32999 =>
    (ref02_least n (Rational.mk (Int_2.mk x32653.Hi.Num.Neg x32653.Hi.Num.Mag) (Int_2.mk x32653.Hi.Den.Neg x32653.Hi.Den.Mag)) (Rational.mk (Int_2.mk x32662.Hi.Num.Neg x32662.Hi.Num.Mag) (Int_2.mk x32662.Hi.Den.Neg x32662.Hi.Den.Mag))).bind fun x33007 =>
    some ((x32999.Num.Neg, x32999.Num.Mag, x32999.Den.Neg, x32999.Den.Mag, x33007.Num.Neg, x33007.Num.Mag, x33007.Den.Neg, x33007.Den.Mag)) : Option (Bool × (List Int) × Bool × (List Int) × Bool × (List Int) × Bool × (List Int))).bind fun (x32882, x32883, x32886, x32887, x32890, x32891, x32894, x32895) =>
    (ref02_Empty n (Interval.mk (Rational.mk (Int_2.mk x32882 x32883) (Int_2.mk x32886 x32887)) (Rational.mk (Int_2.mk x32890 x32891) (Int_2.mk x32894 x32895)))).bind fun x33096 =>
    cond x33096
    (some (((Interval.mk (Rational.mk (Int_2.mk false []) (Int_2.mk false [])) (Rational.mk (Int_2.mk false []) (Int_2.mk false []))), false)))
    (some (((Interval.mk (Rational.mk (Int_2.mk x32882 x32883) (Int_2.mk x32886 x32887)) (Rational.mk (Int_2.mk x32890 x32891) (Int_2.mk x32894 x32895))), true)))

def law02_RationalIntervals (n : Nat) : Interval → Interval → Option Bool
  | x33101, x33110 =>
    ((law02_awake n ).bind fun x33200 =>
    cond (!x33200)
    (some ((x33101.Lo.Num.Mag, x33101.Lo.Den.Mag, x33101.Hi.Num.Mag, x33101.Hi.Den.Mag, x33110.Lo.Num.Mag, x33110.Lo.Den.Mag, x33110.Hi.Num.Mag, x33110.Hi.Den.Mag, true)))
    ((law02_few n [(Rational.mk (Int_2.mk x33101.Lo.Num.Neg x33101.Lo.Num.Mag) (Int_2.mk x33101.Lo.Den.Neg x33101.Lo.Den.Mag)), (Rational.mk (Int_2.mk x33101.Hi.Num.Neg x33101.Hi.Num.Mag) (Int_2.mk x33101.Hi.Den.Neg x33101.Hi.Den.Mag)), (Rational.mk (Int_2.mk x33110.Lo.Num.Neg x33110.Lo.Num.Mag) (Int_2.mk x33110.Lo.Den.Neg x33110.Lo.Den.Mag)), (Rational.mk (Int_2.mk x33110.Hi.Num.Neg x33110.Hi.Num.Mag) (Int_2.mk x33110.Hi.Den.Neg x33110.Hi.Den.Mag))]).bind fun x33239 =>
    some ((x33101.Lo.Num.Mag, x33101.Lo.Den.Mag, x33101.Hi.Num.Mag, x33101.Hi.Den.Mag, x33110.Lo.Num.Mag, x33110.Lo.Den.Mag, x33110.Hi.Num.Mag, x33110.Hi.Den.Mag, (!x33239)))) : Option ((List Int) × (List Int) × (List Int) × (List Int) × (List Int) × (List Int) × (List Int) × (List Int) × Bool)).bind fun (x33171, x33174, x33177, x33180, x33183, x33186, x33189, x33192, x33195) =>
    cond x33195
    ((law02_awake n ).bind fun x33242 =>
    some (x33242))
    ((rational_Plus n (Interval.mk (Rational.mk (Int_2.mk x33101.Lo.Num.Neg x33171) (Int_2.mk x33101.Lo.Den.Neg x33174)) (Rational.mk (Int_2.mk x33101.Hi.Num.Neg x33177) (Int_2.mk x33101.Hi.Den.Neg x33180))) (Interval.mk (Rational.mk (Int_2.mk x33110.Lo.Num.Neg x33183) (Int_2.mk x33110.Lo.Den.Neg x33186)) (Rational.mk (Int_2.mk x33110.Hi.Num.Neg x33189) (Int_2.mk x33110.Hi.Den.Neg x33192)))).bind fun (x33245, x33246) =>
    (rational_Times n (Interval.mk (Rational.mk (Int_2.mk x33101.Lo.Num.Neg x33171) (Int_2.mk x33101.Lo.Den.Neg x33174)) (Rational.mk (Int_2.mk x33101.Hi.Num.Neg x33177) (Int_2.mk x33101.Hi.Den.Neg x33180))) (Interval.mk (Rational.mk (Int_2.mk x33110.Lo.Num.Neg x33183) (Int_2.mk x33110.Lo.Den.Neg x33186)) (Rational.mk (Int_2.mk x33110.Hi.Num.Neg x33189) (Int_2.mk x33110.Hi.Den.Neg x33192)))).bind fun (x33261, x33262) =>
    (rational_Meet n (Interval.mk (Rational.mk (Int_2.mk x33101.Lo.Num.Neg x33171) (Int_2.mk x33101.Lo.Den.Neg x33174)) (Rational.mk (Int_2.mk x33101.Hi.Num.Neg x33177) (Int_2.mk x33101.Hi.Den.Neg x33180))) (Interval.mk (Rational.mk (Int_2.mk x33110.Lo.Num.Neg x33183) (Int_2.mk x33110.Lo.Den.Neg x33186)) (Rational.mk (Int_2.mk x33110.Hi.Num.Neg x33189) (Int_2.mk x33110.Hi.Den.Neg x33192)))).bind fun (x33277, x33278) =>
    (ref02_Plus n (Interval.mk (Rational.mk (Int_2.mk x33101.Lo.Num.Neg x33171) (Int_2.mk x33101.Lo.Den.Neg x33174)) (Rational.mk (Int_2.mk x33101.Hi.Num.Neg x33177) (Int_2.mk x33101.Hi.Den.Neg x33180))) (Interval.mk (Rational.mk (Int_2.mk x33110.Lo.Num.Neg x33183) (Int_2.mk x33110.Lo.Den.Neg x33186)) (Rational.mk (Int_2.mk x33110.Hi.Num.Neg x33189) (Int_2.mk x33110.Hi.Den.Neg x33192)))).bind fun (x33293, x33294) =>
    (ref02_Times n (Interval.mk (Rational.mk (Int_2.mk x33101.Lo.Num.Neg x33171) (Int_2.mk x33101.Lo.Den.Neg x33174)) (Rational.mk (Int_2.mk x33101.Hi.Num.Neg x33177) (Int_2.mk x33101.Hi.Den.Neg x33180))) (Interval.mk (Rational.mk (Int_2.mk x33110.Lo.Num.Neg x33183) (Int_2.mk x33110.Lo.Den.Neg x33186)) (Rational.mk (Int_2.mk x33110.Hi.Num.Neg x33189) (Int_2.mk x33110.Hi.Den.Neg x33192)))).bind fun (x33309, x33310) =>
    (ref02_Meet n (Interval.mk (Rational.mk (Int_2.mk x33101.Lo.Num.Neg x33171) (Int_2.mk x33101.Lo.Den.Neg x33174)) (Rational.mk (Int_2.mk x33101.Hi.Num.Neg x33177) (Int_2.mk x33101.Hi.Den.Neg x33180))) (Interval.mk (Rational.mk (Int_2.mk x33110.Lo.Num.Neg x33183) (Int_2.mk x33110.Lo.Den.Neg x33186)) (Rational.mk (Int_2.mk x33110.Hi.Num.Neg x33189) (Int_2.mk x33110.Hi.Den.Neg x33192)))).bind fun (x33325, x33326) =>
    (cond (x33246 == x33294)
    (cond (x33262 == x33310)
    (cond (x33278 == x33326)
    ((base_Rational n (Rational.mk (Int_2.mk x33245.Lo.Num.Neg x33245.Lo.Num.Mag) (Int_2.mk x33245.Lo.Den.Neg x33245.Lo.Den.Mag)) (Rational.mk (Int_2.mk x33293.Lo.Num.Neg x33293.Lo.Num.Mag) (Int_2.mk x33293.Lo.Den.Neg x33293.Lo.Den.Mag))).bind fun x33363 =>
    cond x33363
    ((base_Rational n (Rational.mk (Int_2.mk x33245.Hi.Num.Neg x33245.Hi.Num.Mag) (Int_2.mk x33245.Hi.Den.Neg x33245.Hi.Den.Mag)) (Rational.mk (Int_2.mk x33293.Hi.Num.Neg x33293.Hi.Num.Mag) (Int_2.mk x33293.Hi.Den.Neg x33293.Hi.Den.Mag))).bind fun x33366 =>
    cond x33366
    ((base_Rational n (Rational.mk (Int_2.mk x33261.Lo.Num.Neg x33261.Lo.Num.Mag) (Int_2.mk x33261.Lo.Den.Neg x33261.Lo.Den.Mag)) (Rational.mk (Int_2.mk x33309.Lo.Num.Neg x33309.Lo.Num.Mag) (Int_2.mk x33309.Lo.Den.Neg x33309.Lo.Den.Mag))).bind fun x33369 =>
    cond x33369
    ((base_Rational n (Rational.mk (Int_2.mk x33261.Hi.Num.Neg x33261.Hi.Num.Mag) (Int_2.mk x33261.Hi.Den.Neg x33261.Hi.Den.Mag)) (Rational.mk (Int_2.mk x33309.Hi.Num.Neg x33309.Hi.Num.Mag) (Int_2.mk x33309.Hi.Den.Neg x33309.Hi.Den.Mag))).bind fun x33372 =>
    cond x33372
    ((base_Rational n (Rational.mk (Int_2.mk x33277.Lo.Num.Neg x33277.Lo.Num.Mag) (Int_2.mk x33277.Lo.Den.Neg x33277.Lo.Den.Mag)) (Rational.mk (Int_2.mk x33325.Lo.Num.Neg x33325.Lo.Num.Mag) (Int_2.mk x33325.Lo.Den.Neg x33325.Lo.Den.Mag))).bind fun x33375 =>
    cond x33375
    ((base_Rational n (Rational.mk (Int_2.mk x33277.Hi.Num.Neg x33277.Hi.Num.Mag) (Int_2.mk x33277.Hi.Den.Neg x33277.Hi.Den.Mag)) (Rational.mk (Int_2.mk x33325.Hi.Num.Neg x33325.Hi.Num.Mag) (Int_2.mk x33325.Hi.Den.Neg x33325.Hi.Den.Mag))).bind fun x33378 =>
    some (x33378))
    (some (false)))
    (some (false)))
    (some (false)))
    (some (false)))
    (some (false)))
    (some (false)))
    (some (false)))
    (some (false)) : Option Bool).bind fun x33359 =>
    some (x33359))

def rational_Sign (n : Nat) : Rational → Option Int
  | x33381 =>
    (integer_Sign n (Int_2.mk x33381.Num.Neg x33381.Num.Mag)).bind fun x33391 =>
    (integer_Sign n (Int_2.mk x33381.Den.Neg x33381.Den.Mag)).bind fun x33393 =>
    some ((IntKind.i64.wrap (x33391 * x33393)))

def rational_Neg (n : Nat) : Rational → Option Rational
  | x33396 =>
    (integer_Neg n (Int_2.mk x33396.Num.Neg x33396.Num.Mag)).bind fun x33425 =>
    (rational_New n x33425 (Int_2.mk x33396.Den.Neg x33396.Den.Mag)).bind fun x33431 =>
    some ((Rational.mk (Int_2.mk x33431.Num.Neg x33431.Num.Mag) (Int_2.mk x33431.Den.Neg x33431.Den.Mag)))

def integer_Norm (n : Nat) : Int_2 → Option Int_2
  | x33440 =>
    (integer_trim n x33440.Mag).bind fun x33470 =>
    (slices_Cloneuint32_uint32_ n x33470).bind fun x33476 =>
    (integer_made n x33440.Neg x33476).bind fun x33482 =>
    some ((Int_2.mk x33482.Neg x33482.Mag))

def rational_whole (n : Nat) : Int_2 → Option Rational
  | x33489 =>
    (integer_Norm n (Int_2.mk x33489.Neg x33489.Mag)).bind fun x33501 =>
    (integer_Of n 1).bind fun x33507 =>
    some ((Rational.mk (Int_2.mk x33501.Neg x33501.Mag) (Int_2.mk x33507.Neg x33507.Mag)))

def rational_Sub (n : Nat) : Rational → Rational → Option Rational
  | x33522, x33527 =>
    (rational_Neg n (Rational.mk (Int_2.mk x33527.Num.Neg x33527.Num.Mag) (Int_2.mk x33527.Den.Neg x33527.Den.Mag))).bind fun x33563 =>
    (rational_Add n (Rational.mk (Int_2.mk x33522.Num.Neg x33522.Num.Mag) (Int_2.mk x33522.Den.Neg x33522.Den.Mag)) x33563).bind fun x33571 =>
    some ((Rational.mk (Int_2.mk x33571.Num.Neg x33571.Num.Mag) (Int_2.mk x33571.Den.Neg x33571.Den.Mag)))

def rational_inverse (n : Nat) : Rational → Option Rational
  | x33580 =>
    some ((Rational.mk (Int_2.mk x33580.Den.Neg x33580.Den.Mag) (Int_2.mk x33580.Num.Neg x33580.Num.Mag)))

def rational_simplest_F (n : Nat) (self : Rational → Rational → Option Rational) : Rational → Rational → Option Rational
  | x33737, x33742 =>
    (rational_Floor n (Rational.mk (Int_2.mk x33737.Num.Neg x33737.Num.Mag) (Int_2.mk x33737.Den.Neg x33737.Den.Mag))).bind fun x33761 =>
    (integer_Mul n (Int_2.mk x33761.Neg x33761.Mag) (Int_2.mk x33737.Den.Neg x33737.Den.Mag)).bind fun x33779 =>
    (integer_Cmp n (Int_2.mk x33737.Num.Neg x33737.Num.Mag) x33779).bind fun x33785 =>
    cond (x33785 == 0)
    ((rational_whole n (Int_2.mk x33761.Neg x33761.Mag)).bind fun x33788 =>
    some ((Rational.mk (Int_2.mk x33788.Num.Neg x33788.Num.Mag) (Int_2.mk x33788.Den.Neg x33788.Den.Mag))))
    (((integer_Of n 1).bind fun x34032 =>
    (integer_Add n (Int_2.mk x33761.Neg x33761.Mag) x34032).bind fun x34038 =>
    (rational_whole n x34038).bind fun x34044 =>
    some ((x34044.Num.Neg, x34044.Num.Mag, x34044.Den.Neg, x34044.Den.Mag)) : Option (Bool × (List Int) × Bool × (List Int))).bind fun (x33946, x33947, x33950, x33951) =>
    (rational_Cmp n (Rational.mk (Int_2.mk x33946 x33947) (Int_2.mk x33950 x33951)) (Rational.mk (Int_2.mk x33742.Num.Neg x33742.Num.Mag) (Int_2.mk x33742.Den.Neg x33742.Den.Mag))).bind fun x34106 =>
    cond (decide (x34106 ≤ 0))
    (some ((Rational.mk (Int_2.mk x33946 x33947) (Int_2.mk x33950 x33951))))
    ((rational_whole n (Int_2.mk x33761.Neg x33761.Mag)).bind fun x34110 =>
    (rational_Sub n (Rational.mk (Int_2.mk x33742.Num.Neg x33742.Num.Mag) (Int_2.mk x33742.Den.Neg x33742.Den.Mag)) (Rational.mk (Int_2.mk x34110.Num.Neg x34110.Num.Mag) (Int_2.mk x34110.Den.Neg x34110.Den.Mag))).bind fun x34178 =>
    (rational_inverse n x34178).bind fun x34186 =>
    (rational_Sub n (Rational.mk (Int_2.mk x33737.Num.Neg x33737.Num.Mag) (Int_2.mk x33737.Den.Neg x33737.Den.Mag)) (Rational.mk (Int_2.mk x34110.Num.Neg x34110.Num.Mag) (Int_2.mk x34110.Den.Neg x34110.Den.Mag))).bind fun x34194 =>
    (rational_inverse n x34194).bind fun x34202 =>
    (self x34186 x34202).bind fun x34210 =>
    (rational_inverse n x34210).bind fun x34218 =>
    (rational_Add n (Rational.mk (Int_2.mk x34110.Num.Neg x34110.Num.Mag) (Int_2.mk x34110.Den.Neg x34110.Den.Mag)) x34218).bind fun x34226 =>
    some ((Rational.mk (Int_2.mk x34226.Num.Neg x34226.Num.Mag) (Int_2.mk x34226.Den.Neg x34226.Den.Mag)))))
def rational_simplest : Nat → Rational → Rational → Option Rational
  | 0 => fun _ _ => none
  | n + 1 => rational_simplest_F n (rational_simplest n)

def rational_Simplest (n : Nat) : Rational → Rational → Option (Rational × Int)
  | x34235, x34240 =>
    (rational_Norm n (Rational.mk (Int_2.mk x34235.Num.Neg x34235.Num.Mag) (Int_2.mk x34235.Den.Neg x34235.Den.Mag))).bind fun x34271 =>
    (rational_Norm n (Rational.mk (Int_2.mk x34240.Num.Neg x34240.Num.Mag) (Int_2.mk x34240.Den.Neg x34240.Den.Mag))).bind fun x34279 =>
    (rational_Cmp n (Rational.mk (Int_2.mk x34271.Num.Neg x34271.Num.Mag) (Int_2.mk x34271.Den.Neg x34271.Den.Mag)) (Rational.mk (Int_2.mk x34279.Num.Neg x34279.Num.Mag) (Int_2.mk x34279.Den.Neg x34279.Den.Mag))).bind fun x34289 =>
    cond (decide (x34289 > 0))
    (some (((Rational.mk (Int_2.mk false []) (Int_2.mk false [])), 2)))
    (((rational_Sign n (Rational.mk (Int_2.mk x34271.Num.Neg x34271.Num.Mag) (Int_2.mk x34271.Den.Neg x34271.Den.Mag))).bind fun x34303 =>
    cond (decide (x34303 ≤ 0))
    ((rational_Sign n (Rational.mk (Int_2.mk x34279.Num.Neg x34279.Num.Mag) (Int_2.mk x34279.Den.Neg x34279.Den.Mag))).bind fun x34306 =>
    some ((decide (x34306 ≥ 0))))
    (some (false)) : Option Bool).bind fun x34299 =>
    cond x34299
    ((rational_Of n 0 1).bind fun x34309 =>
    some (((Rational.mk (Int_2.mk x34309.Num.Neg x34309.Num.Mag) (Int_2.mk x34309.Den.Neg x34309.Den.Mag)), 0)))
    ((rational_Sign n (Rational.mk (Int_2.mk x34279.Num.Neg x34279.Num.Mag) (Int_2.mk x34279.Den.Neg x34279.Den.Mag))).bind fun x34318 =>
    cond (decide (x34318 < 0))
    ((rational_Neg n (Rational.mk (Int_2.mk x34279.Num.Neg x34279.Num.Mag) (Int_2.mk x34279.Den.Neg x34279.Den.Mag))).bind fun x34354 =>
    (rational_Neg n (Rational.mk (Int_2.mk x34271.Num.Neg x34271.Num.Mag) (Int_2.mk x34271.Den.Neg x34271.Den.Mag))).bind fun x34362 =>
    (rational_simplest n x34354 x34362).bind fun x34370 =>
    (rational_Neg n x34370).bind fun x34378 =>
    some (((Rational.mk (Int_2.mk x34378.Num.Neg x34378.Num.Mag) (Int_2.mk x34378.Den.Neg x34378.Den.Mag)), 0)))
    ((rational_simplest n (Rational.mk (Int_2.mk x34271.Num.Neg x34271.Num.Mag) (Int_2.mk x34271.Den.Neg x34271.Den.Mag)) (Rational.mk (Int_2.mk x34279.Num.Neg x34279.Num.Mag) (Int_2.mk x34279.Den.Neg x34279.Den.Mag))).bind fun x34387 =>
    some (((Rational.mk (Int_2.mk x34387.Num.Neg x34387.Num.Mag) (Int_2.mk x34387.Den.Neg x34387.Den.Mag)), 0)))))

def ref02_Of (n : Nat) : Int → Int → Option Rational
  | x34396, x34397 =>
    (ref01_Of n x34396).bind fun x34402 =>
    (ref01_Of n x34397).bind fun x34408 =>
    (ref02_New n x34402 x34408).bind fun x34414 =>
    some ((Rational.mk (Int_2.mk x34414.Num.Neg x34414.Num.Mag) (Int_2.mk x34414.Den.Neg x34414.Den.Mag)))

def ref02_simple_F (n : Nat) (self : Rational → Rational → Option Rational) : Rational → Rational → Option Rational
  | x36674, x36679 =>
    (ref02_Floor n (Rational.mk (Int_2.mk x36674.Num.Neg x36674.Num.Mag) (Int_2.mk x36674.Den.Neg x36674.Den.Mag))).bind fun x36698 =>
    (ref02_One n ).bind fun x36704 =>
    (ref02_New n x36698 x36704).bind fun x36710 =>
    (ref02_Cmp n (Rational.mk (Int_2.mk x36710.Num.Neg x36710.Num.Mag) (Int_2.mk x36710.Den.Neg x36710.Den.Mag)) (Rational.mk (Int_2.mk x36674.Num.Neg x36674.Num.Mag) (Int_2.mk x36674.Den.Neg x36674.Den.Mag))).bind fun x36721 =>
    cond (x36721 == 0)
    (some ((Rational.mk (Int_2.mk x36710.Num.Neg x36710.Num.Mag) (Int_2.mk x36710.Den.Neg x36710.Den.Mag))))
    (((ref02_Of n 1 1).bind fun x36885 =>
    (ref02_Add n (Rational.mk (Int_2.mk x36710.Num.Neg x36710.Num.Mag) (Int_2.mk x36710.Den.Neg x36710.Den.Mag)) x36885).bind fun x36893 =>
    some ((x36893.Num.Neg, x36893.Num.Mag, x36893.Den.Neg, x36893.Den.Mag)) : Option (Bool × (List Int) × Bool × (List Int))).bind fun (x36824, x36825, x36828, x36829) =>
    (ref02_Cmp n (Rational.mk (Int_2.mk x36824 x36825) (Int_2.mk x36828 x36829)) (Rational.mk (Int_2.mk x36679.Num.Neg x36679.Num.Mag) (Int_2.mk x36679.Den.Neg x36679.Den.Mag))).bind fun x36934 =>
    cond (decide (x36934 ≤ 0))
    (some ((Rational.mk (Int_2.mk x36824 x36825) (Int_2.mk x36828 x36829))))
    (((ref02_Of n 1 1).bind fun x37215 =>
    (ref02_Sub n (Rational.mk (Int_2.mk x36679.Num.Neg x36679.Num.Mag) (Int_2.mk x36679.Den.Neg x36679.Den.Mag)) (Rational.mk (Int_2.mk x36710.Num.Neg x36710.Num.Mag) (Int_2.mk x36710.Den.Neg x36710.Den.Mag))).bind fun x37223 =>
    (ref02_Div n x37215 x37223).bind fun (x37231, x37232) =>
    some ((x37231.Num.Neg, x37231.Num.Mag, x37231.Den.Neg, x37231.Den.Mag)) : Option (Bool × (List Int) × Bool × (List Int))).bind fun (x37115, x37116, x37119, x37120) =>
    ((ref02_Of n 1 1).bind fun x37580 =>
    (ref02_Sub n (Rational.mk (Int_2.mk x36674.Num.Neg x36674.Num.Mag) (Int_2.mk x36674.Den.Neg x36674.Den.Mag)) (Rational.mk (Int_2.mk x36710.Num.Neg x36710.Num.Mag) (Int_2.mk x36710.Den.Neg x36710.Den.Mag))).bind fun x37588 =>
    (ref02_Div n x37580 x37588).bind fun (x37596, x37597) =>
    some ((x37596.Num.Neg, x37596.Num.Mag, x37596.Den.Neg, x37596.Den.Mag)) : Option (Bool × (List Int) × Bool × (List Int))).bind fun (x37480, x37481, x37484, x37485) =>
    ((ref02_Of n 1 1).bind fun x37945 =>
    (self (Rational.mk (Int_2.mk x37115 x37116) (Int_2.mk x37119 x37120)) (Rational.mk (Int_2.mk x37480 x37481) (Int_2.mk x37484 x37485))).bind fun x37953 =>
    (ref02_Div n x37945 x37953).bind fun (x37961, x37962) =>
    some ((x37961.Num.Neg, x37961.Num.Mag, x37961.Den.Neg, x37961.Den.Mag)) : Option (Bool × (List Int) × Bool × (List Int))).bind fun (x37845, x37846, x37849, x37850) =>
    (ref02_Add n (Rational.mk (Int_2.mk x36710.Num.Neg x36710.Num.Mag) (Int_2.mk x36710.Den.Neg x36710.Den.Mag)) (Rational.mk (Int_2.mk x37845 x37846) (Int_2.mk x37849 x37850))).bind fun x38033 =>
    some ((Rational.mk (Int_2.mk x38033.Num.Neg x38033.Num.Mag) (Int_2.mk x38033.Den.Neg x38033.Den.Mag)))))
def ref02_simple : Nat → Rational → Rational → Option Rational
  | 0 => fun _ _ => none
  | n + 1 => ref02_simple_F n (ref02_simple n)

def ref02_Simplest (n : Nat) : Rational → Rational → Option (Rational × Int)
  | x38042, x38047 =>
    (ref02_Cmp n (Rational.mk (Int_2.mk x38042.Num.Neg x38042.Num.Mag) (Int_2.mk x38042.Den.Neg x38042.Den.Mag)) (Rational.mk (Int_2.mk x38047.Num.Neg x38047.Num.Mag) (Int_2.mk x38047.Den.Neg x38047.Den.Mag))).bind fun x38066 =>
    cond (decide (x38066 > 0))
    (some (((Rational.mk (Int_2.mk false []) (Int_2.mk false [])), 2)))
    (((ref02_Sign n (Rational.mk (Int_2.mk x38042.Num.Neg x38042.Num.Mag) (Int_2.mk x38042.Den.Neg x38042.Den.Mag))).bind fun x38080 =>
    cond (decide (x38080 ≤ 0))
    ((ref02_Sign n (Rational.mk (Int_2.mk x38047.Num.Neg x38047.Num.Mag) (Int_2.mk x38047.Den.Neg x38047.Den.Mag))).bind fun x38083 =>
    some ((decide (x38083 ≥ 0))))
    (some (false)) : Option Bool).bind fun x38076 =>
    cond x38076
    ((ref02_Of n 0 1).bind fun x38086 =>
    some (((Rational.mk (Int_2.mk x38086.Num.Neg x38086.Num.Mag) (Int_2.mk x38086.Den.Neg x38086.Den.Mag)), 0)))
    ((ref02_Sign n (Rational.mk (Int_2.mk x38047.Num.Neg x38047.Num.Mag) (Int_2.mk x38047.Den.Neg x38047.Den.Mag))).bind fun x38095 =>
    cond (decide (x38095 < 0))
    ((ref02_Neg n (Rational.mk (Int_2.mk x38047.Num.Neg x38047.Num.Mag) (Int_2.mk x38047.Den.Neg x38047.Den.Mag))).bind fun x38131 =>
    (ref02_Neg n (Rational.mk (Int_2.mk x38042.Num.Neg x38042.Num.Mag) (Int_2.mk x38042.Den.Neg x38042.Den.Mag))).bind fun x38139 =>
    (ref02_simple n x38131 x38139).bind fun x38147 =>
    (ref02_Neg n x38147).bind fun x38155 =>
    some (((Rational.mk (Int_2.mk x38155.Num.Neg x38155.Num.Mag) (Int_2.mk x38155.Den.Neg x38155.Den.Mag)), 0)))
    ((ref02_Norm n (Rational.mk (Int_2.mk x38042.Num.Neg x38042.Num.Mag) (Int_2.mk x38042.Den.Neg x38042.Den.Mag))).bind fun x38189 =>
    (ref02_Norm n (Rational.mk (Int_2.mk x38047.Num.Neg x38047.Num.Mag) (Int_2.mk x38047.Den.Neg x38047.Den.Mag))).bind fun x38197 =>
    (ref02_simple n x38189 x38197).bind fun x38205 =>
    some (((Rational.mk (Int_2.mk x38205.Num.Neg x38205.Num.Mag) (Int_2.mk x38205.Den.Neg x38205.Den.Mag)), 0)))))

def law02_RationalSimplest (n : Nat) : Rational → Rational → Int → Option Bool
  | x41617, x41622, x41627 =>
    ((law02_awake n ).bind fun x41681 =>
    cond (!x41681)
    (some ((x41617.Num.Mag, x41617.Den.Mag, x41622.Num.Mag, x41622.Den.Mag, true)))
    ((law02_few n [(Rational.mk (Int_2.mk x41617.Num.Neg x41617.Num.Mag) (Int_2.mk x41617.Den.Neg x41617.Den.Mag)), (Rational.mk (Int_2.mk x41622.Num.Neg x41622.Num.Mag) (Int_2.mk x41622.Den.Neg x41622.Den.Mag))]).bind fun x41704 =>
    some ((x41617.Num.Mag, x41617.Den.Mag, x41622.Num.Mag, x41622.Den.Mag, (!x41704)))) : Option ((List Int) × (List Int) × (List Int) × (List Int) × Bool)).bind fun (x41664, x41667, x41670, x41673, x41676) =>
    cond x41676
    ((law02_awake n ).bind fun x41707 =>
    some (x41707))
    ((rational_Simplest n (Rational.mk (Int_2.mk x41617.Num.Neg x41664) (Int_2.mk x41617.Den.Neg x41667)) (Rational.mk (Int_2.mk x41622.Num.Neg x41670) (Int_2.mk x41622.Den.Neg x41673))).bind fun (x41710, x41711) =>
    (ref02_Simplest n (Rational.mk (Int_2.mk x41617.Num.Neg x41664) (Int_2.mk x41617.Den.Neg x41667)) (Rational.mk (Int_2.mk x41622.Num.Neg x41670) (Int_2.mk x41622.Den.Neg x41673))).bind fun (x41722, x41723) =>
    (cond (x41711 != x41723)
    (some (true))
    ((base_Rational n (Rational.mk (Int_2.mk x41710.Num.Neg x41710.Num.Mag) (Int_2.mk x41710.Den.Neg x41710.Den.Mag)) (Rational.mk (Int_2.mk x41722.Num.Neg x41722.Num.Mag) (Int_2.mk x41722.Den.Neg x41722.Den.Mag))).bind fun x41741 =>
    some ((!x41741))) : Option Bool).bind fun x41737 =>
    cond x41737
    (some (false))
    (cond (x41711 != 0)
    (some (true))
    ((rational_New n (Int_2.mk x41710.Den.Neg x41710.Den.Mag) (Int_2.mk false [1])).bind fun x41752 =>
    (rational_Of n (IntKind.i64.wrap (1 + ((IntKind.i64.wrap x41627).tmod 40))) 1).bind fun x41760 =>
    (rational_Cmp n x41752 x41760).bind fun x41768 =>
    cond (decide (x41768 ≤ 0))
    (some (true))
    (((rational_Of n (IntKind.i64.wrap (1 + ((IntKind.i64.wrap x41627).tmod 40))) 1).bind fun x43602 =>
    (rational_Mul n (Rational.mk (Int_2.mk x41622.Num.Neg x41670) (Int_2.mk x41622.Den.Neg x41673)) x43602).bind fun x43610 =>
    (rational_Floor n x43610).bind fun x43618 =>
    (rational_New n x43618 (Int_2.mk false [1])).bind fun x43632 =>
    some ((x43632.Num.Neg, x43632.Num.Mag, x43632.Den.Neg, x43632.Den.Mag)) : Option (Bool × (List Int) × Bool × (List Int))).bind fun (x42984, x42985, x42988, x42989) =>
    ((rational_Of n (IntKind.i64.wrap (1 + ((IntKind.i64.wrap x41627).tmod 40))) 1).bind fun x44378 =>
    (rational_Div n (Rational.mk (Int_2.mk x42984 x42985) (Int_2.mk x42988 x42989)) x44378).bind fun (x44386, x44387) =>
    some ((x44386.Num.Neg, x44386.Num.Mag, x44386.Den.Neg, x44386.Den.Mag, x44387)) : Option (Bool × (List Int) × Bool × (List Int) × Int)).bind fun (x44313, x44314, x44317, x44318, x44321) =>
    (cond (x44321 == 0)
    ((rational_Cmp n (Rational.mk (Int_2.mk x44313 x44314) (Int_2.mk x44317 x44318)) (Rational.mk (Int_2.mk x41617.Num.Neg x41664) (Int_2.mk x41617.Den.Neg x41667))).bind fun x44437 =>
    some ((decide (x44437 < 0))))
    (some (false)) : Option Bool).bind fun x44433 =>
    some (x44433)))))

def stringslite_Index (n : Nat) : ByteArray → ByteArray → Option Int
  | x44442, x44443 =>
    (cond ((x44443.size : Int) == 0)
    (some (true))
    (some ((x44443.toList == x44442.toList))) : Option Bool).bind fun x44444 =>
    cond x44444
    (some (0))
    (cond ((x44443.size : Int) == 1)
    ((bidx x44443 0).bind fun x44447 =>
    (stringslite_IndexByte n x44442 x44447).bind fun x44449 =>
    some (x44449))
    (cond (decide ((x44443.size : Int) ≥ (x44442.size : Int)))
    (some ((-1)))
    (none)))

def stringslite_Cut (n : Nat) : ByteArray → ByteArray → Option (ByteArray × ByteArray × Bool)
  | x44452, x44453 =>
    (stringslite_Index n x44452 x44453).bind fun x44454 =>
    cond (decide (x44454 ≥ 0))
    ((scut x44452 0 x44454).bind fun x44457 =>
    (scut x44452 (IntKind.i64.wrap (x44454 + (x44453.size : Int))) (x44452.size : Int)).bind fun x44459 =>
    some ((x44457, x44459, true)))
    (some ((x44452, (ByteArray.mk #[]), false)))

def strings_Cut (n : Nat) : ByteArray → ByteArray → Option (ByteArray × ByteArray × Bool)
  | x44462, x44463 =>
    (stringslite_Cut n x44462 x44463).bind fun (x44464, x44465, x44466) =>
    some ((x44464, x44465, x44466))

def stringslite_CutPrefix (n : Nat) : ByteArray → ByteArray → Option (ByteArray × Bool)
  | x44469, x44470 =>
    (stringslite_HasPrefix n x44469 x44470).bind fun x44471 =>
    cond (!x44471)
    (some ((x44469, false)))
    ((scut x44469 (x44470.size : Int) (x44469.size : Int)).bind fun x44474 =>
    some ((x44474, true)))

def strings_CutPrefix (n : Nat) : ByteArray → ByteArray → Option (ByteArray × Bool)
  | x44476, x44477 =>
    (stringslite_CutPrefix n x44476 x44477).bind fun (x44478, x44479) =>
    some ((x44478, x44479))

def strings_makeASCIISet_L1 (x44482 : ByteArray) : ((List Bool) × Int) → Option (Out ((List Bool) × Int) (Out (List Bool) ((List Bool) × Bool)))
  | (x44552, x44555) =>
    cond (decide (x44555 < (x44482.size : Int)))
    ((bidx x44482 x44555).bind fun x44575 =>
    cond (decide (x44575 ≥ 128))
    (some (.done (.done (x44552, false))))
    ((idx x44552 x44575).bind fun x44581 =>
    some (.go ((upd x44552 x44575 true), (IntKind.i64.wrap (x44555 + 1))))))
    (some (.done (.go x44552)))

def strings_makeASCIISet (n : Nat) : ByteArray → Option ((List Bool) × Bool)
  | x44482 =>
    (loopN (strings_makeASCIISet_L1 x44482) n ((List.replicate 256 false), 0) : Option (Out (List Bool) ((List Bool) × Bool))).bind fun y44539 => (match y44539 with
    | .go x44535 =>
    some ((x44535, true))
    | .done r => some r)

def strings_asciiSet_contains (n : Nat) : (List Bool) → Int → Option (Bool × (List Bool))
  | x44591, x44595 =>
    (idx x44591 x44595).bind fun x44597 =>
    some ((x44597, x44591))

def strings_trimRightASCII_L1 (n : Nat) : (ByteArray × (List Bool)) → Option (Out (ByteArray × (List Bool)) (ByteArray × (List Bool)))
  | (x44673, x44674) =>
    cond (decide ((x44673.size : Int) > 0))
    ((bidx x44673 (IntKind.i64.wrap ((x44673.size : Int) - 1))).bind fun x44698 =>
    (strings_asciiSet_contains n x44674 x44698).bind fun (x44700, x44701) =>
    cond (!x44700)
    (some (.done (x44673, x44701)))
    ((scut x44673 0 (IntKind.i64.wrap ((x44673.size : Int) - 1))).bind fun x44708 =>
    some (.go (x44708, x44701))))
    (some (.done (x44673, x44674)))

def strings_trimRightASCII (n : Nat) : ByteArray → (List Bool) → Option (ByteArray × (List Bool))
  | x44599, x44600 =>
    (loopN (strings_trimRightASCII_L1 n) n (x44599, x44600) : Option (ByteArray × (List Bool))).bind fun (x44654, x44655) =>
    some ((x44654, x44655))

def strings_trimLeftASCII_L1 (n : Nat) : (ByteArray × (List Bool)) → Option (Out (ByteArray × (List Bool)) (ByteArray × (List Bool)))
  | (x44785, x44786) =>
    cond (decide ((x44785.size : Int) > 0))
    ((bidx x44785 0).bind fun x44810 =>
    (strings_asciiSet_contains n x44786 x44810).bind fun (x44812, x44813) =>
    cond (!x44812)
    (some (.done (x44785, x44813)))
    ((scut x44785 1 (x44785.size : Int)).bind fun x44820 =>
    some (.go (x44820, x44813))))
    (some (.done (x44785, x44786)))

def strings_trimLeftASCII (n : Nat) : ByteArray → (List Bool) → Option (ByteArray × (List Bool))
  | x44711, x44712 =>
    (loopN (strings_trimLeftASCII_L1 n) n (x44711, x44712) : Option (ByteArray × (List Bool))).bind fun (x44766, x44767) =>
    some ((x44766, x44767))

def strings_Trim (n : Nat) : ByteArray → ByteArray → Option ByteArray
  | x44823, x44824 =>
    (cond (x44823.toList == (ByteArray.mk #[]).toList)
    (some (true))
    (some ((x44824.toList == (ByteArray.mk #[]).toList))) : Option Bool).bind fun x44825 =>
    cond x44825
    (some (x44823))
    ((cond ((x44824.size : Int) == 1)
    ((bidx x44824 0).bind fun x44833 =>
    some ((decide (x44833 < 128))))
    (some (false)) : Option Bool).bind fun x44830 =>
    cond x44830
    (none)
    ((strings_makeASCIISet n x44824).bind fun (x44835, x44836) =>
    cond x44836
    ((strings_trimRightASCII n x44823 x44835).bind fun (x44848, x44849) =>
    (strings_trimLeftASCII n x44848 x44849).bind fun (x44855, x44856) =>
    some (x44855))
    (none)))

def integer_Parse_L1 (n : Nat) : (ByteArray × (List Int)) → Option (Out (ByteArray × (List Int)) (List Int))
  | (x45053, x45054) =>
    cond (decide ((x45053.size : Int) > 0))
    ((scut x45053 0 (IntKind.i64.wrap (((IntKind.i64.wrap ((x45053.size : Int) - 1)).tmod 9) + 1))).bind fun x45101 =>
    (strconv_ParseUint n x45101 10 32).bind fun (x45103, x45104) =>
    (integer_times n x45054 [1000000000]).bind fun x45111 =>
    (integer_plus n x45111 [(IntKind.u32.wrap x45103)]).bind fun x45121 =>
    (integer_trim n x45121).bind fun x45127 =>
    (scut x45053 (IntKind.i64.wrap (((IntKind.i64.wrap ((x45053.size : Int) - 1)).tmod 9) + 1)) (x45053.size : Int)).bind fun x45133 =>
    some (.go (x45133, x45127)))
    (some (.done x45054))

def integer_Parse (n : Nat) : ByteArray → Option (Int_2 × Int)
  | x44865 =>
    cond (decide ((x44865.size : Int) > 2000))
    (some (((Int_2.mk false []), 6)))
    ((strings_CutPrefix n x44865 (ByteArray.mk #[45])).bind fun (x44870, x44871) =>
    (cond (x44870.toList == (ByteArray.mk #[]).toList)
    (some (true))
    ((bidx x44870 0).bind fun x44886 =>
    cond (x44886 == 48)
    (cond (!(x44865.toList == (ByteArray.mk #[48]).toList))
    (some (true))
    ((strings_Trim n x44870 (ByteArray.mk #[48, 49, 50, 51, 52, 53, 54, 55, 56, 57])).bind fun x44888 =>
    some ((!(x44888.toList == (ByteArray.mk #[]).toList)))))
    ((strings_Trim n x44870 (ByteArray.mk #[48, 49, 50, 51, 52, 53, 54, 55, 56, 57])).bind fun x44891 =>
    some ((!(x44891.toList == (ByteArray.mk #[]).toList))))) : Option Bool).bind fun x44882 =>
    cond x44882
    (some (((Int_2.mk false []), 3)))
    ((loopN (integer_Parse_L1 n) n (x44870, []) : Option (List Int)).bind fun x45012 =>
    (integer_made n x44871 x45012).bind fun x45136 =>
    some (((Int_2.mk x45136.Neg x45136.Mag), 0))))

def rational_Parse (n : Nat) : ByteArray → Option (Rational × Int)
  | x45143 =>
    (strings_Cut n x45143 (ByteArray.mk #[47])).bind fun (x45148, x45149, x45150) =>
    (cond (decide ((x45143.size : Int) > 4000))
    (some (true))
    (cond (decide ((x45148.size : Int) > 2000))
    (some (true))
    (some ((decide ((x45149.size : Int) > 2000))))) : Option Bool).bind fun x45153 =>
    cond x45153
    (some (((Rational.mk (Int_2.mk false []) (Int_2.mk false [])), 6)))
    ((cond (!x45150)
    (some ((ByteArray.mk #[49])))
    (some (x45149)) : Option ByteArray).bind fun x45157 =>
    (integer_Parse n x45148).bind fun (x45160, x45161) =>
    (integer_Parse n x45157).bind fun (x45170, x45171) =>
    (cond (x45161 != 0)
    (some (true))
    (cond (x45171 != 0)
    (some (true))
    ((integer_Sign n (Int_2.mk x45170.Neg x45170.Mag)).bind fun x45187 =>
    some ((decide (x45187 ≤ 0))))) : Option Bool).bind fun x45183 =>
    cond x45183
    (some (((Rational.mk (Int_2.mk false []) (Int_2.mk false [])), 3)))
    ((rational_New n (Int_2.mk x45160.Neg x45160.Mag) (Int_2.mk x45170.Neg x45170.Mag)).bind fun x45191 =>
    (rational_Text n (Rational.mk (Int_2.mk x45191.Num.Neg x45191.Num.Mag) (Int_2.mk x45191.Den.Neg x45191.Den.Mag))).bind fun x45202 =>
    cond (!(x45202.toList == x45143.toList))
    (some (((Rational.mk (Int_2.mk false []) (Int_2.mk false [])), 3)))
    (some (((Rational.mk (Int_2.mk x45191.Num.Neg x45191.Num.Mag) (Int_2.mk x45191.Den.Neg x45191.Den.Mag)), 0)))))

def ref01_Text_L13 : ((List Int) × Int × Int) → Option (Out ((List Int) × Int × Int) ((List Int) × Int))
  | (x46274, x46278, x46279) =>
    cond (decide (x46279 ≥ 0))
    ((idx x46274 x46279).bind fun x46311 =>
    (idx x46274 x46279).bind fun x46319 =>
    some (.go ((upd x46274 x46279 (IntKind.u32.wrap (IntKind.u64.wrap ((IntKind.u64.wrap ((IntKind.u64.wrap (x46278 * 4294967296)) + (IntKind.u64.wrap x46311))).tdiv 10)))), ((IntKind.u64.wrap ((IntKind.u64.wrap (x46278 * 4294967296)) + (IntKind.u64.wrap x46311))).tmod 10), (IntKind.i64.wrap (x46279 - 1)))))
    (some (.done (x46274, x46278)))

def ref01_Text_L11 (n : Nat) : (ByteArray × (List Int)) → Option (Out (ByteArray × (List Int)) ByteArray)
  | (x45968, x45969) =>
    cond (decide ((x45969.length : Int) > 0))
    ((loopN (ref01_Text_L13) n (x45969, 0, (IntKind.i64.wrap ((x45969.length : Int) - 1))) : Option ((List Int) × Int)).bind fun (x46245, x46249) =>
    (need (decide ((strOfNums [(IntKind.u8.wrap (IntKind.u64.wrap (48 + x46249)))]).size + x45968.size ≤ 9223372036854775807))).bind fun _ =>
    (ref01_trim n x46245).bind fun x46339 =>
    some (.go (((strOfNums [(IntKind.u8.wrap (IntKind.u64.wrap (48 + x46249)))]) ++ x45968), x46339)))
    (some (.done x45968))

def ref01_Text (n : Nat) : Int_2 → Option ByteArray
  | x45207 =>
    (ref01_trim n x45207.Mag).bind fun x45215 =>
    (loopN (ref01_Text_L11 n) n ((ByteArray.mk #[]), x45215) : Option ByteArray).bind fun x45782 =>
    cond (x45782.toList == (ByteArray.mk #[]).toList)
    (some ((ByteArray.mk #[48])))
    (cond x45207.Neg
    ((need (decide ((ByteArray.mk #[45]).size + x45782.size ≤ 9223372036854775807))).bind fun _ =>
    some (((ByteArray.mk #[45]) ++ x45782)))
    (some (x45782)))

def ref01_Parse_L25 : ((List Int) × Int × Int) → Option (Out ((List Int) × Int × Int) ((List Int) × Int))
  | (x48697, x48701, x48702) =>
    cond (decide (x48702 < (x48697.length : Int)))
    ((idx x48697 x48702).bind fun x48734 =>
    (idx x48697 x48702).bind fun x48742 =>
    some (.go ((upd x48697 x48702 (IntKind.u32.wrap (IntKind.u64.wrap (x48701 + (IntKind.u64.wrap ((IntKind.u64.wrap x48734) * 10)))))), ((IntKind.u64.wrap (x48701 + (IntKind.u64.wrap ((IntKind.u64.wrap x48734) * 10)))).fdiv (2 ^ min (32 : Int).toNat (IntKind.u64).bits)), (IntKind.i64.wrap (x48702 + 1)))))
    (some (.done (x48697, x48701)))

def ref01_Parse_L21 (n : Nat) (x46348 : ByteArray) : ((List Int) × Int) → Option (Out ((List Int) × Int) (Out (List Int) (Int_2 × Int)))
  | (x47965, x47969) =>
    cond (decide (x47969 < (x46348.size : Int)))
    ((((bidx x46348 x47969).bind fun x48580 =>
    cond (decide (x48580 < 48))
    (some (true))
    ((bidx x46348 x47969).bind fun x48582 =>
    some ((decide (x48582 > 57)))) : Option Bool).bind fun x48577 =>
    cond x48577
    (some (.done (.done (.done ((Int_2.mk false []), 3)))))
    ((bidx x46348 x47969).bind fun x48586 =>
    (loopN (ref01_Parse_L25) n (x47965, (IntKind.u64.wrap (IntKind.u8.wrap (x48586 - 48))), 0) : Option ((List Int) × Int)).bind fun (x48668, x48672) =>
    cond (decide (x48672 > 0))
    ((app x48668 [(IntKind.u32.wrap x48672)]).bind fun x48760 =>
    some (.go x48760))
    (some (.go x48668))) : Option (Out (List Int) (Out ((List Int) × Int) (Out (List Int) (Int_2 × Int))))).bind fun y48571 => (match y48571 with
    | .go x48565 =>
    some (.go (x48565, (IntKind.i64.wrap (x47969 + 1))))
    | .done r => some r))
    (some (.done (.go x47965)))

def ref01_Parse (n : Nat) : ByteArray → Option (Int_2 × Int)
  | x46348 =>
    cond (decide ((x46348.size : Int) > 2000))
    (some (((Int_2.mk false []), 6)))
    (((cond (decide ((x46348.size : Int) > 0))
    ((bidx x46348 0).bind fun x46369 =>
    some ((x46369 == 45)))
    (some (false)) : Option Bool).bind fun x46366 =>
    cond x46366
    (some (1))
    (some (0)) : Option Int).bind fun x46361 =>
    (loopN (ref01_Parse_L21 n x46348) n ([], x46361) : Option (Out (List Int) (Int_2 × Int))).bind fun y47571 => (match y47571 with
    | .go x47565 =>
    ((ref01_Norm n (Int_2.mk (x46361 == 1) x47565)).bind fun x48772 =>
    (ref01_Text n (Int_2.mk x48772.Neg x48772.Mag)).bind fun x48781 =>
    cond (!(x48781.toList == x46348.toList))
    (some (((Int_2.mk false []), 3)))
    (some (((Int_2.mk x48772.Neg x48772.Mag), 0))))
    | .done r => some r))

def ref02_Text (n : Nat) : Rational → Option ByteArray
  | x48786 =>
    (ref02_Norm n (Rational.mk (Int_2.mk x48786.Num.Neg x48786.Num.Mag) (Int_2.mk x48786.Den.Neg x48786.Den.Mag))).bind fun x48796 =>
    (ref02_One n ).bind fun x48816 =>
    (ref01_Cmp n (Int_2.mk x48796.Den.Neg x48796.Den.Mag) x48816).bind fun x48822 =>
    cond (x48822 == 0)
    ((ref01_Text n (Int_2.mk x48796.Num.Neg x48796.Num.Mag)).bind fun x48825 =>
    some (x48825))
    ((ref01_Text n (Int_2.mk x48796.Num.Neg x48796.Num.Mag)).bind fun x48828 =>
    (need (decide (x48828.size + (ByteArray.mk #[47]).size ≤ 9223372036854775807))).bind fun _ =>
    (ref01_Text n (Int_2.mk x48796.Den.Neg x48796.Den.Mag)).bind fun x48831 =>
    (need (decide ((x48828 ++ (ByteArray.mk #[47])).size + x48831.size ≤ 9223372036854775807))).bind fun _ =>
    some (((x48828 ++ (ByteArray.mk #[47])) ++ x48831)))

def ref02_Parse_L1 (x48835 : ByteArray) : Int → Option (Out Int Int)
  | x48877 =>
    (cond (decide (x48877 < (x48835.size : Int)))
    ((bidx x48835 x48877).bind fun x48894 =>
    some ((x48894 != 47)))
    (some (false)) : Option Bool).bind fun x48891 =>
    cond x48891
    (some (.go (IntKind.i64.wrap (x48877 + 1))))
    (some (.done x48877))

def ref02_Parse (n : Nat) : ByteArray → Option (Rational × Int)
  | x48835 =>
    (loopN (ref02_Parse_L1 x48835) n 0 : Option Int).bind fun x48867 =>
    (cond (decide (x48867 < (x48835.size : Int)))
    ((scut x48835 (IntKind.i64.wrap (x48867 + 1)) (x48835.size : Int)).bind fun x48902 =>
    some (x48902))
    (some ((ByteArray.mk #[49]))) : Option ByteArray).bind fun x48899 =>
    (cond (decide ((x48835.size : Int) > 4000))
    (some (true))
    (cond (decide (x48867 > 2000))
    (some (true))
    (some ((decide ((x48899.size : Int) > 2000))))) : Option Bool).bind fun x48904 =>
    cond x48904
    (some (((Rational.mk (Int_2.mk false []) (Int_2.mk false [])), 6)))
    ((scut x48835 0 x48867).bind fun x48908 =>
    (ref01_Parse n x48908).bind fun (x48910, x48911) =>
    (ref01_Parse n x48899).bind fun (x48920, x48921) =>
    (ref02_New n (Int_2.mk x48910.Neg x48910.Mag) (Int_2.mk x48920.Neg x48920.Mag)).bind fun x48930 =>
    (cond (x48911 != 0)
    (some (true))
    (cond (x48921 != 0)
    (some (true))
    ((ref02_Text n (Rational.mk (Int_2.mk x48930.Num.Neg x48930.Num.Mag) (Int_2.mk x48930.Den.Neg x48930.Den.Mag))).bind fun x48948 =>
    some ((!(x48948.toList == x48835.toList))))) : Option Bool).bind fun x48944 =>
    cond x48944
    (some (((Rational.mk (Int_2.mk false []) (Int_2.mk false [])), 3)))
    (some (((Rational.mk (Int_2.mk x48930.Num.Neg x48930.Num.Mag) (Int_2.mk x48930.Den.Neg x48930.Den.Mag)), 0))))

def law02_RationalParses_L1 : ((List Int) × Int) → Option (Out ((List Int) × Int) (List Int))
  | (x49072, x49076) =>
    cond (decide (x49076 < (x49072.length : Int)))
    ((idx x49072 x49076).bind fun x49099 =>
    some (.go ((upd x49072 x49076 55), (IntKind.i64.wrap (x49076 + 1)))))
    (some (.done x49072))

def law02_RationalParses (n : Nat) : ByteArray → Int → Option Bool
  | x48953, x48954 =>
    ((law02_awake n ).bind fun x48962 =>
    cond (!x48962)
    (some (true))
    (some ((decide ((x48953.size : Int) > 200)))) : Option Bool).bind fun x48958 =>
    cond x48958
    ((law02_awake n ).bind fun x48965 =>
    some (x48965))
    ((rational_Parse n x48953).bind fun (x48968, x48969) =>
    (ref02_Parse n x48953).bind fun (x48980, x48981) =>
    (mk (IntKind.i64.wrap (1990 + ((IntKind.i64.wrap x48954).tmod 30))) 0).bind fun x48992 =>
    (loopN (law02_RationalParses_L1) n (x48992, 0) : Option (List Int)).bind fun x49052 =>
    (need (decide ((ByteArray.mk #[47]).size + (strOfNums x49052).size ≤ 9223372036854775807))).bind fun _ =>
    (rational_Parse n ((ByteArray.mk #[47]) ++ (strOfNums x49052))).bind fun (x49115, x49116) =>
    (need (decide ((strOfNums x49052).size + (ByteArray.mk #[47, 48]).size ≤ 9223372036854775807))).bind fun _ =>
    (rational_Parse n ((strOfNums x49052) ++ (ByteArray.mk #[47, 48]))).bind fun (x49128, x49129) =>
    (cond (decide ((x49052.length : Int) > 2000))
    (some (6))
    (some (3)) : Option Int).bind fun x49140 =>
    (cond (x48969 == x48981)
    ((base_Rational n (Rational.mk (Int_2.mk x48968.Num.Neg x48968.Num.Mag) (Int_2.mk x48968.Den.Neg x48968.Den.Mag)) (Rational.mk (Int_2.mk x48980.Num.Neg x48980.Num.Mag) (Int_2.mk x48980.Den.Neg x48980.Den.Mag))).bind fun x49150 =>
    cond x49150
    (cond (x49116 == x49140)
    (some ((x49129 == x49140)))
    (some (false)))
    (some (false)))
    (some (false)) : Option Bool).bind fun x49146 =>
    some (x49146))

def law02_RationalTexts (n : Nat) : Rational → Rational → Option Bool
  | x49153, x49158 =>
    ((law02_awake n ).bind fun x49216 =>
    cond (!x49216)
    (some ((x49153.Num.Mag, x49153.Den.Mag, x49158.Num.Mag, x49158.Den.Mag, true)))
    ((law02_few n [(Rational.mk (Int_2.mk x49153.Num.Neg x49153.Num.Mag) (Int_2.mk x49153.Den.Neg x49153.Den.Mag)), (Rational.mk (Int_2.mk x49158.Num.Neg x49158.Num.Mag) (Int_2.mk x49158.Den.Neg x49158.Den.Mag))]).bind fun x49239 =>
    some ((x49153.Num.Mag, x49153.Den.Mag, x49158.Num.Mag, x49158.Den.Mag, (!x49239)))) : Option ((List Int) × (List Int) × (List Int) × (List Int) × Bool)).bind fun (x49199, x49202, x49205, x49208, x49211) =>
    cond x49211
    ((law02_awake n ).bind fun x49242 =>
    some (x49242))
    ((rational_Text n (Rational.mk (Int_2.mk x49153.Num.Neg x49199) (Int_2.mk x49153.Den.Neg x49202))).bind fun x49245 =>
    (rational_Parse n x49245).bind fun (x49248, x49249) =>
    ((ref02_Text n (Rational.mk (Int_2.mk x49153.Num.Neg x49199) (Int_2.mk x49153.Den.Neg x49202))).bind fun x49325 =>
    cond (x49245.toList == x49325.toList)
    (cond (x49249 == 0)
    ((ref02_Norm n (Rational.mk (Int_2.mk x49153.Num.Neg x49199) (Int_2.mk x49153.Den.Neg x49202))).bind fun x49328 =>
    (base_Rational n (Rational.mk (Int_2.mk x49248.Num.Neg x49248.Num.Mag) (Int_2.mk x49248.Den.Neg x49248.Den.Mag)) x49328).bind fun x49336 =>
    cond x49336
    ((rational_Text n (Rational.mk (Int_2.mk x49158.Num.Neg x49205) (Int_2.mk x49158.Den.Neg x49208))).bind fun x49339 =>
    (rational_Cmp n (Rational.mk (Int_2.mk x49153.Num.Neg x49199) (Int_2.mk x49153.Den.Neg x49202)) (Rational.mk (Int_2.mk x49158.Num.Neg x49205) (Int_2.mk x49158.Den.Neg x49208))).bind fun x49342 =>
    some (((x49245.toList == x49339.toList) == (x49342 == 0))))
    (some (false)))
    (some (false)))
    (some (false)) : Option Bool).bind fun x49300 =>
    some (x49300))

end Go.Proofs.YtepadjfmcbjkmaaGreatDoor
