/-
  What the functions of the program compute, as plain Lean functions.
-/
import Derived.Test.YtepadjfmcbjkmaaDoorCoreA
namespace Go.Proofs.YtepadjfmcbjkmaaDoor
open Go Go.Proofs.YtepadjfmcbjkmaaDoor.Gw Go.RowKit
set_option linter.unusedVariables false
def pow10 : List Int := [1, 10, 100, 1000, 10000, 100000, 1000000, 10000000, 100000000, 1000000000, 10000000000, 100000000000, 1000000000000, 10000000000000, 100000000000000, 1000000000000000, 10000000000000000, 100000000000000000, 1000000000000000000, 10000000000000000000]
structure Int_2 where
  Neg : Bool
  Mag : (List Int)
structure Rational where
  Num : Int_2
  Den : Int_2
structure Interval where
  Lo : Rational
  Hi : Rational
def okInt_2 (x : Int_2) : Prop := True ∧ (x.Mag.length ≤ maxLen ∧ ∀ yxMag ∈ x.Mag, inK .u32 yxMag)
def okRational (x : Rational) : Prop := okInt_2 x.Num ∧ okInt_2 x.Den
def okInterval (x : Interval) : Prop := okRational x.Lo ∧ okRational x.Hi
def strconv_FormatUint (n : Nat) (x b : Int) : Option ByteArray := fmtU x b
def strings_Repeat (n : Nat) (s : ByteArray) (c : Int) : Option ByteArray := repS s c
def strings_Join (n : Nat) (xs : List ByteArray) (sep : ByteArray) : Option ByteArray := joinS xs sep
def integer_trim_L1 : (List Int) → Option (Out (List Int) (List Int))
  | x96 =>
    (cond (decide ((x96.length : Int) > 0))
    ((idx x96 (IntKind.i64.wrap ((x96.length : Int) - 1))).bind fun x133 =>
    some ((x133 == 0)))
    (some (false)) : Option Bool).bind fun x130 =>
    cond x130
    ((cut x96 0 (IntKind.i64.wrap ((x96.length : Int) - 1))).bind fun x139 =>
    some (.go x139))
    (some (.done x96))

def integer_trim (n : Nat) : (List Int) → Option (List Int)
  | x1 =>
    (loopN (integer_trim_L1) n x1 : Option (List Int)).bind fun x72 =>
    some (x72)

def integer_made (n : Nat) : Bool → (List Int) → Option Int_2
  | x144, x145 =>
    (integer_trim n x145).bind fun x151 =>
    cond ((x151.length : Int) == 0)
    (some ((Int_2.mk false [])))
    (some ((Int_2.mk x144 x151)))

def integer_Of (n : Nat) : Int → Option Int_2
  | x163 =>
    (cond (decide (x163 < 0))
    (some ((IntKind.u64.wrap (0 - (IntKind.u64.wrap x163)))))
    (some ((IntKind.u64.wrap x163))) : Option Int).bind fun x167 =>
    (integer_made n (decide (x163 < 0)) [(IntKind.u32.wrap x167), (IntKind.u32.wrap (x167.fdiv (2 ^ min (32 : Int).toNat (IntKind.u64).bits)))]).bind fun x174 =>
    some ((Int_2.mk x174.Neg x174.Mag))

def integer_Sign (n : Nat) : Int_2 → Option Int
  | x181 =>
    (integer_trim n x181.Mag).bind fun x189 =>
    cond ((x189.length : Int) == 0)
    (some (0))
    (cond x181.Neg
    (some ((-1)))
    (some (1)))

def slices_Cloneuint32_uint32_ (n : Nat) : (List Int) → Option (List Int)
  | x195 =>
    (app ([] : List Int) x195).bind fun x205 =>
    some (x205)

def integer_Neg (n : Nat) : Int_2 → Option Int_2
  | x212 =>
    (integer_trim n x212.Mag).bind fun x242 =>
    (slices_Cloneuint32_uint32_ n x242).bind fun x248 =>
    (integer_made n (!x212.Neg) x248).bind fun x254 =>
    some ((Int_2.mk x254.Neg x254.Mag))

def integer_Abs (n : Nat) : Int_2 → Option Int_2
  | x261 =>
    (integer_trim n x261.Mag).bind fun x272 =>
    (slices_Cloneuint32_uint32_ n x272).bind fun x278 =>
    (integer_made n false x278).bind fun x284 =>
    some ((Int_2.mk x284.Neg x284.Mag))

def integer_compare_L1 (x291 : (List Int)) (x294 : (List Int)) : Int → Option (Out Int (Out Unit Int))
  | x413 =>
    cond (decide (x413 ≥ 0))
    ((idx x291 x413).bind fun x445 =>
    (idx x294 x413).bind fun x451 =>
    cond (x445 != x451)
    ((idx x291 x413).bind fun x458 =>
    (idx x294 x413).bind fun x464 =>
    cond (decide (x458 < x464))
    (some (.done (.done (-1))))
    (some (.done (.done 1))))
    (some (.go (IntKind.i64.wrap (x413 - 1)))))
    (some (.done (.go ())))

def integer_compare (n : Nat) : (List Int) → (List Int) → Option Int
  | x291, x294 =>
    cond ((x291.length : Int) != (x294.length : Int))
    (cond (decide ((x291.length : Int) < (x294.length : Int)))
    (some ((-1)))
    (some (1)))
    ((loopN (integer_compare_L1 x291 x294) n (IntKind.i64.wrap ((x291.length : Int) - 1)) : Option (Out Unit Int)).bind fun y385 => (match y385 with
    | .go _ =>
    some (0)
    | .done r => some r))

def bits_Div32 (n : Nat) : Int → Int → Int → Option (Int × Int)
  | x474, x475, x476 =>
    ((cond (x476 != 0)
    (some ((decide (x476 ≤ x474))))
    (some (false)) : Option Bool).bind fun x482 =>
    cond x482
    (none)
    (some (())) : Option Unit).bind fun _ =>
    (need (decide ((IntKind.u64.wrap x476) ≠ 0))).bind fun _ =>
    (need (decide ((IntKind.u64.wrap x476) ≠ 0))).bind fun _ =>
    some (((IntKind.u32.wrap (IntKind.u64.wrap ((ib .or .u64 (IntKind.u64.wrap ((IntKind.u64.wrap x474) * 2 ^ min (32 : Int).toNat (IntKind.u64).bits)) (IntKind.u64.wrap x475)).tdiv (IntKind.u64.wrap x476)))), (IntKind.u32.wrap ((ib .or .u64 (IntKind.u64.wrap ((IntKind.u64.wrap x474) * 2 ^ min (32 : Int).toNat (IntKind.u64).bits)) (IntKind.u64.wrap x475)).tmod (IntKind.u64.wrap x476)))))

def integer_short_L1 (n : Nat) (x488 : (List Int)) (x491 : Int) : ((List Int) × Int × Int) → Option (Out ((List Int) × Int × Int) ((List Int) × Int))
  | (x616, x620, x621) =>
    cond (decide (x621 ≥ 0))
    ((idx x488 x621).bind fun x655 =>
    (bits_Div32 n x620 x655 x491).bind fun (x661, x662) =>
    (idx x616 x621).bind fun x665 =>
    some (.go ((upd x616 x621 x661), x662, (IntKind.i64.wrap (x621 - 1)))))
    (some (.done (x616, x620)))

def integer_short (n : Nat) : (List Int) → Int → Option ((List Int) × Int)
  | x488, x491 =>
    (mk (x488.length : Int) 0).bind fun x493 =>
    (loopN (integer_short_L1 n x488 x491) n (x493, 0, (IntKind.i64.wrap ((x488.length : Int) - 1))) : Option ((List Int) × Int)).bind fun (x585, x589) =>
    some ((x585, x589))

def bits_Len32 (n : Nat) : Int → Option Int
  | x680 =>
    (cond (decide (x680 ≥ 65536))
    (some (((x680.fdiv (2 ^ min (16 : Int).toNat (IntKind.u32).bits)), 16)))
    (some ((x680, 0))) : Option (Int × Int)).bind fun (x681, x682) =>
    (cond (decide (x681 ≥ 256))
    (some (((x681.fdiv (2 ^ min (8 : Int).toNat (IntKind.u32).bits)), (IntKind.i64.wrap (x682 + 8)))))
    (some ((x681, x682))) : Option (Int × Int)).bind fun (x685, x686) =>
    (bidx (ByteArray.mk #[0, 1, 2, 2, 3, 3, 3, 3, 4, 4, 4, 4, 4, 4, 4, 4, 5, 5, 5, 5, 5, 5, 5, 5, 5, 5, 5, 5, 5, 5, 5, 5, 6, 6, 6, 6, 6, 6, 6, 6, 6, 6, 6, 6, 6, 6, 6, 6, 6, 6, 6, 6, 6, 6, 6, 6, 6, 6, 6, 6, 6, 6, 6, 6, 7, 7, 7, 7, 7, 7, 7, 7, 7, 7, 7, 7, 7, 7, 7, 7, 7, 7, 7, 7, 7, 7, 7, 7, 7, 7, 7, 7, 7, 7, 7, 7, 7, 7, 7, 7, 7, 7, 7, 7, 7, 7, 7, 7, 7, 7, 7, 7, 7, 7, 7, 7, 7, 7, 7, 7, 7, 7, 7, 7, 7, 7, 7, 7, 8, 8, 8, 8, 8, 8, 8, 8, 8, 8, 8, 8, 8, 8, 8, 8, 8, 8, 8, 8, 8, 8, 8, 8, 8, 8, 8, 8, 8, 8, 8, 8, 8, 8, 8, 8, 8, 8, 8, 8, 8, 8, 8, 8, 8, 8, 8, 8, 8, 8, 8, 8, 8, 8, 8, 8, 8, 8, 8, 8, 8, 8, 8, 8, 8, 8, 8, 8, 8, 8, 8, 8, 8, 8, 8, 8, 8, 8, 8, 8, 8, 8, 8, 8, 8, 8, 8, 8, 8, 8, 8, 8, 8, 8, 8, 8, 8, 8, 8, 8, 8, 8, 8, 8, 8, 8, 8, 8, 8, 8, 8, 8, 8, 8, 8, 8, 8, 8, 8, 8, 8, 8, 8, 8, 8, 8, 8, 8]) (IntKind.u8.wrap x685)).bind fun x689 =>
    some ((IntKind.i64.wrap (x686 + (IntKind.i64.wrap x689))))

def bits_LeadingZeros32 (n : Nat) : Int → Option Int
  | x691 =>
    (bits_Len32 n x691).bind fun x692 =>
    some ((IntKind.i64.wrap (32 - x692)))

def integer_shifted_L1 (x695 : (List Int)) (x698 : Int) : ((List Int) × Int) → Option (Out ((List Int) × Int) (List Int))
  | (x893, x897) =>
    cond (decide (x897 < (x695.length : Int)))
    ((idx x695 x897).bind fun x948 =>
    (need (decide (0 ≤ x698))).bind fun _ =>
    (idx x893 x897).bind fun x955 =>
    (idx x893 x897).bind fun x963 =>
    (idx (upd x893 x897 (ib .or .u32 x955 (IntKind.u32.wrap (IntKind.u64.wrap ((IntKind.u64.wrap x948) * 2 ^ min x698.toNat (IntKind.u64).bits))))) (IntKind.i64.wrap (x897 + 1))).bind fun x976 =>
    some (.go ((upd (upd x893 x897 (ib .or .u32 x955 (IntKind.u32.wrap (IntKind.u64.wrap ((IntKind.u64.wrap x948) * 2 ^ min x698.toNat (IntKind.u64).bits))))) (IntKind.i64.wrap (x897 + 1)) (IntKind.u32.wrap ((IntKind.u64.wrap ((IntKind.u64.wrap x948) * 2 ^ min x698.toNat (IntKind.u64).bits)).fdiv (2 ^ min (32 : Int).toNat (IntKind.u64).bits)))), (IntKind.i64.wrap (x897 + 1)))))
    (some (.done x893))

def integer_shifted (n : Nat) : (List Int) → Int → Option (List Int)
  | x695, x698 =>
    (mk (IntKind.i64.wrap ((x695.length : Int) + 1)) 0).bind fun x701 =>
    (loopN (integer_shifted_L1 x695 x698) n (x701, 0) : Option (List Int)).bind fun x845 =>
    some (x845)

def bits_Sub32 (n : Nat) : Int → Int → Int → Option (Int × Int)
  | x990, x991, x992 =>
    some (((IntKind.u32.wrap ((IntKind.u32.wrap (x990 - x991)) - x992)), ((ib .or .u32 (ib .and .u32 (ib .xor .u32 (if (IntKind.u32).signed then -1 else (IntKind.u32).max) x990) x991) (ib .and .u32 (ib .xor .u32 (if (IntKind.u32).signed then -1 else (IntKind.u32).max) (ib .xor .u32 x990 x991)) (IntKind.u32.wrap ((IntKind.u32.wrap (x990 - x991)) - x992)))).fdiv (2 ^ min (31 : Int).toNat (IntKind.u32).bits))))

def bits_Add32 (n : Nat) : Int → Int → Int → Option (Int × Int)
  | x993, x994, x995 =>
    some (((IntKind.u32.wrap (IntKind.u64.wrap ((IntKind.u64.wrap ((IntKind.u64.wrap x993) + (IntKind.u64.wrap x994))) + (IntKind.u64.wrap x995)))), (IntKind.u32.wrap ((IntKind.u64.wrap ((IntKind.u64.wrap ((IntKind.u64.wrap x993) + (IntKind.u64.wrap x994))) + (IntKind.u64.wrap x995))).fdiv (2 ^ min (32 : Int).toNat (IntKind.u64).bits)))))

def integer_divide_L91 (x1073 : (List Int)) (x9841 : (List Int)) (x9849 : Int) : (Int × Int) → Option (Out (Int × Int) Int)
  | (x13354, x13355) =>
    (cond (decide (x13354 ≥ 4294967296))
    (some (true))
    ((idx x1073 (IntKind.i64.wrap ((x1073.length : Int) - 2))).bind fun x13425 =>
    (idx x9841 (IntKind.i64.wrap ((IntKind.i64.wrap (x9849 + (x1073.length : Int))) - 2))).bind fun x13431 =>
    some ((decide ((IntKind.u64.wrap (x13354 * (IntKind.u64.wrap x13425))) > (ib .or .u64 (IntKind.u64.wrap (x13355 * 2 ^ min (32 : Int).toNat (IntKind.u64).bits)) (IntKind.u64.wrap x13431)))))) : Option Bool).bind fun x13420 =>
    cond x13420
    ((idx x1073 (IntKind.i64.wrap ((x1073.length : Int) - 1))).bind fun x13440 =>
    cond (decide ((IntKind.u64.wrap (x13355 + (IntKind.u64.wrap x13440))) ≥ 4294967296))
    (some (.done (IntKind.u64.wrap (x13354 - 1))))
    (some (.go ((IntKind.u64.wrap (x13354 - 1)), (IntKind.u64.wrap (x13355 + (IntKind.u64.wrap x13440)))))))
    (some (.done x13354))

def integer_divide_L93 (n : Nat) (x1073 : (List Int)) (x9849 : Int) (x13308 : Int) : ((List Int) × Int × Int × Int) → Option (Out ((List Int) × Int × Int × Int) ((List Int) × Int × Int))
  | (x13600, x13604, x13605, x13606) =>
    cond (decide (x13606 < (x1073.length : Int)))
    ((idx x1073 x13606).bind fun x13649 =>
    (idx x13600 (IntKind.i64.wrap (x13606 + x9849))).bind fun x13655 =>
    (bits_Sub32 n x13655 (IntKind.u32.wrap (IntKind.u64.wrap ((IntKind.u64.wrap (x13308 * (IntKind.u64.wrap x13649))) + x13604))) x13605).bind fun (x13663, x13664) =>
    (idx x13600 (IntKind.i64.wrap (x13606 + x9849))).bind fun x13667 =>
    some (.go ((upd x13600 (IntKind.i64.wrap (x13606 + x9849)) x13663), ((IntKind.u64.wrap ((IntKind.u64.wrap (x13308 * (IntKind.u64.wrap x13649))) + x13604)).fdiv (2 ^ min (32 : Int).toNat (IntKind.u64).bits)), x13664, (IntKind.i64.wrap (x13606 + 1)))))
    (some (.done (x13600, x13604, x13605)))

def integer_divide_L97 (n : Nat) (x1073 : (List Int)) (x9849 : Int) : ((List Int) × Int × Int) → Option (Out ((List Int) × Int × Int) ((List Int) × Int))
  | (x14112, x14116, x14117) =>
    cond (decide (x14117 < (x1073.length : Int)))
    ((idx x1073 x14117).bind fun x14159 =>
    (idx x14112 (IntKind.i64.wrap (x14117 + x9849))).bind fun x14165 =>
    (bits_Add32 n x14165 x14159 x14116).bind fun (x14173, x14174) =>
    (idx x14112 (IntKind.i64.wrap (x14117 + x9849))).bind fun x14177 =>
    some (.go ((upd x14112 (IntKind.i64.wrap (x14117 + x9849)) x14173), x14174, (IntKind.i64.wrap (x14117 + 1)))))
    (some (.done (x14112, x14116)))

def integer_divide_L81 (n : Nat) (x1073 : (List Int)) : ((List Int) × (List Int) × Int) → Option (Out ((List Int) × (List Int) × Int) ((List Int) × (List Int)))
  | (x9841, x9845, x9849) =>
    cond (decide (x9849 ≥ 0))
    (((idx x9841 (IntKind.i64.wrap (x9849 + (x1073.length : Int)))).bind fun x13140 =>
    (idx x9841 (IntKind.i64.wrap ((IntKind.i64.wrap (x9849 + (x1073.length : Int))) - 1))).bind fun x13148 =>
    (idx x1073 (IntKind.i64.wrap ((x1073.length : Int) - 1))).bind fun x13157 =>
    (need (decide ((IntKind.u64.wrap x13157) ≠ 0))).bind fun _ =>
    (idx x1073 (IntKind.i64.wrap ((x1073.length : Int) - 1))).bind fun x13164 =>
    (need (decide ((IntKind.u64.wrap x13164) ≠ 0))).bind fun _ =>
    (loopN (integer_divide_L91 x1073 x9841 x9849) n ((IntKind.u64.wrap ((ib .or .u64 (IntKind.u64.wrap ((IntKind.u64.wrap x13140) * 2 ^ min (32 : Int).toNat (IntKind.u64).bits)) (IntKind.u64.wrap x13148)).tdiv (IntKind.u64.wrap x13157))), ((ib .or .u64 (IntKind.u64.wrap ((IntKind.u64.wrap x13140) * 2 ^ min (32 : Int).toNat (IntKind.u64).bits)) (IntKind.u64.wrap x13148)).tmod (IntKind.u64.wrap x13164))) : Option Int).bind fun x13308 =>
    (loopN (integer_divide_L93 n x1073 x9849 x13308) n (x9841, 0, 0, 0) : Option ((List Int) × Int × Int)).bind fun (x13560, x13564, x13565) =>
    (idx x13560 (IntKind.i64.wrap (x9849 + (x1073.length : Int)))).bind fun x13681 =>
    (bits_Sub32 n x13681 (IntKind.u32.wrap x13564) x13565).bind fun (x13689, x13690) =>
    (idx x13560 (IntKind.i64.wrap (x9849 + (x1073.length : Int)))).bind fun x13693 =>
    (cond (x13690 != 0)
    ((loopN (integer_divide_L97 n x1073 x9849) n ((upd x13560 (IntKind.i64.wrap (x9849 + (x1073.length : Int))) x13689), 0, 0) : Option ((List Int) × Int)).bind fun (x14073, x14077) =>
    (idx x14073 (IntKind.i64.wrap (x9849 + (x1073.length : Int)))).bind fun x14191 =>
    (idx x14073 (IntKind.i64.wrap (x9849 + (x1073.length : Int)))).bind fun x14199 =>
    some (((upd x14073 (IntKind.i64.wrap (x9849 + (x1073.length : Int))) (IntKind.u32.wrap (x14191 + x14077))), (IntKind.u64.wrap (x13308 - 1)))))
    (some (((upd x13560 (IntKind.i64.wrap (x9849 + (x1073.length : Int))) x13689), x13308))) : Option ((List Int) × Int)).bind fun (x13955, x13959) =>
    (idx x9845 x9849).bind fun x14212 =>
    some ((x13955, (upd x9845 x9849 (IntKind.u32.wrap x13959)))) : Option ((List Int) × (List Int))).bind fun (x13129, x13133) =>
    some (.go (x13129, x13133, (IntKind.i64.wrap (x9849 - 1)))))
    (some (.done (x9841, x9845)))

def integer_divide_L99 (x1036 : Int) (x7649 : (List Int)) (x14226 : (List Int)) : ((List Int) × Int) → Option (Out ((List Int) × Int) (List Int))
  | (x14378, x14382) =>
    cond (decide (x14382 < (x14226.length : Int)))
    ((idx x7649 (IntKind.i64.wrap (x14382 + 1))).bind fun x14424 =>
    (idx x7649 x14382).bind fun x14432 =>
    (need (decide (0 ≤ (IntKind.u64.wrap x1036)))).bind fun _ =>
    (idx x14378 x14382).bind fun x14441 =>
    some (.go ((upd x14378 x14382 (IntKind.u32.wrap ((ib .or .u64 (IntKind.u64.wrap ((IntKind.u64.wrap x14424) * 2 ^ min (32 : Int).toNat (IntKind.u64).bits)) (IntKind.u64.wrap x14432)).fdiv (2 ^ min (IntKind.u64.wrap x1036).toNat (IntKind.u64).bits)))), (IntKind.i64.wrap (x14382 + 1)))))
    (some (.done x14378))

def integer_divide (n : Nat) : (List Int) → (List Int) → Option ((List Int) × (List Int))
  | x996, x999 =>
    (integer_compare n x996 x999).bind fun x1004 =>
    cond (decide (x1004 < 0))
    ((slices_Cloneuint32_uint32_ n x996).bind fun x1007 =>
    some (([], x1007)))
    (cond ((x999.length : Int) == 1)
    ((idx x999 0).bind fun x1013 =>
    (integer_short n x996 x1013).bind fun (x1019, x1020) =>
    some ((x1019, [x1020])))
    ((idx x999 (IntKind.i64.wrap ((x999.length : Int) - 1))).bind fun x1030 =>
    (bits_LeadingZeros32 n x1030).bind fun x1036 =>
    (integer_shifted n x996 (IntKind.u64.wrap x1036)).bind fun x1058 =>
    (integer_shifted n x999 (IntKind.u64.wrap x1036)).bind fun x1065 =>
    (cut x1065 0 (x999.length : Int)).bind fun x1073 =>
    (mk (IntKind.i64.wrap ((x1058.length : Int) - (x1073.length : Int))) 0).bind fun x1077 =>
    (loopN (integer_divide_L81 n x1073) n (x1058, x1077, (IntKind.i64.wrap ((IntKind.i64.wrap ((x1058.length : Int) - (x1073.length : Int))) - 1))) : Option ((List Int) × (List Int))).bind fun (x7649, x7653) =>
    (mk (x1073.length : Int) 0).bind fun x14226 =>
    (loopN (integer_divide_L99 x1036 x7649 x14226) n (x14226, 0) : Option (List Int)).bind fun x14340 =>
    some ((x7653, x14340))))

def integer_plus_L1 (n : Nat) (x14464 : (List Int)) (x14467 : (List Int)) : ((List Int) × Int × Int) → Option (Out ((List Int) × Int × Int) ((List Int) × Int))
  | (x14646, x14650, x14651) =>
    cond (decide (x14651 < (x14464.length : Int)))
    ((idx x14464 x14651).bind fun x14699 =>
    (cond (decide (x14651 < (x14467.length : Int)))
    ((idx x14467 x14651).bind fun x14714 =>
    some (x14714))
    (some (0)) : Option Int).bind fun x14711 =>
    (bits_Add32 n x14699 x14711 x14650).bind fun (x14720, x14721) =>
    (app x14646 [x14720]).bind fun x14728 =>
    some (.go (x14728, x14721, (IntKind.i64.wrap (x14651 + 1)))))
    (some (.done (x14646, x14650)))

def integer_plus (n : Nat) : (List Int) → (List Int) → Option (List Int)
  | x14457, x14460 =>
    (cond (decide ((x14457.length : Int) < (x14460.length : Int)))
    (some ((x14460, x14457)))
    (some ((x14457, x14460))) : Option ((List Int) × (List Int))).bind fun (x14464, x14467) =>
    (mkc 0 (IntKind.i64.wrap ((x14464.length : Int) + 1)) 0).bind fun x14472 =>
    (loopN (integer_plus_L1 n x14464 x14467) n (x14472, 0, 0) : Option ((List Int) × Int)).bind fun (x14602, x14606) =>
    (app x14602 [x14606]).bind fun x14739 =>
    some (x14739)

def integer_minus_L1 (n : Nat) (x14746 : (List Int)) (x14749 : (List Int)) : ((List Int) × Int × Int) → Option (Out ((List Int) × Int × Int) (List Int))
  | (x14926, x14930, x14931) =>
    cond (decide (x14931 < (x14746.length : Int)))
    ((idx x14746 x14931).bind fun x14979 =>
    (cond (decide (x14931 < (x14749.length : Int)))
    ((idx x14749 x14931).bind fun x14994 =>
    some (x14994))
    (some (0)) : Option Int).bind fun x14991 =>
    (bits_Sub32 n x14979 x14991 x14930).bind fun (x15000, x15001) =>
    (app x14926 [x15000]).bind fun x15008 =>
    some (.go (x15008, x15001, (IntKind.i64.wrap (x14931 + 1)))))
    (some (.done x14926))

def integer_minus (n : Nat) : (List Int) → (List Int) → Option (List Int)
  | x14746, x14749 =>
    (mkc 0 (x14746.length : Int) 0).bind fun x14753 =>
    (loopN (integer_minus_L1 n x14746 x14749) n (x14753, 0, 0) : Option (List Int)).bind fun x14883 =>
    some (x14883)

def integer_Add (n : Nat) : Int_2 → Int_2 → Option Int_2
  | x15016, x15019 =>
    (integer_trim n x15016.Mag).bind fun x15047 =>
    (integer_trim n x15019.Mag).bind fun x15053 =>
    cond (x15016.Neg == x15019.Neg)
    ((integer_plus n x15047 x15053).bind fun x15072 =>
    (integer_made n x15016.Neg x15072).bind fun x15078 =>
    some ((Int_2.mk x15078.Neg x15078.Mag)))
    ((integer_compare n x15047 x15053).bind fun x15085 =>
    cond (decide (x15085 ≥ 0))
    ((integer_minus n x15047 x15053).bind fun x15101 =>
    (integer_made n x15016.Neg x15101).bind fun x15107 =>
    some ((Int_2.mk x15107.Neg x15107.Mag)))
    ((integer_minus n x15053 x15047).bind fun x15127 =>
    (integer_made n x15019.Neg x15127).bind fun x15133 =>
    some ((Int_2.mk x15133.Neg x15133.Mag))))

def integer_DivMod (n : Nat) : Int_2 → Int_2 → Option (Int_2 × Int_2 × Int)
  | x15353, x15356 =>
    (integer_trim n x15353.Mag).bind fun x15387 =>
    (integer_trim n x15356.Mag).bind fun x15393 =>
    cond ((x15393.length : Int) == 0)
    (some (((Int_2.mk false []), (Int_2.mk false []), 10)))
    ((integer_divide n x15387 x15393).bind fun (x15401, x15402) =>
    ((integer_made n (!(x15353.Neg == x15356.Neg)) x15401).bind fun x15892 =>
    (integer_made n x15353.Neg x15402).bind fun x15898 =>
    some ((x15892.Neg, x15892.Mag, x15898.Neg, x15898.Mag)) : Option (Bool × (List Int) × Bool × (List Int))).bind fun (x15723, x15724, x15728, x15729) =>
    (cond x15728
    ((integer_Add n (Int_2.mk x15728 x15729) (Int_2.mk false x15393)).bind fun x16090 =>
    (integer_Add n (Int_2.mk x15723 x15724) (Int_2.mk (!x15356.Neg) [1])).bind fun x16105 =>
    some ((x16105.Neg, x16105.Mag, x16090.Neg, x16090.Mag)))
    (some ((x15723, x15724, x15728, x15729))) : Option (Bool × (List Int) × Bool × (List Int))).bind fun (x16074, x16075, x16078, x16079) =>
    some (((Int_2.mk x16074 x16075), (Int_2.mk x16078 x16079), 0)))

def integer_Gcd_L1 (n : Nat) : (Bool × (List Int) × Bool × (List Int)) → Option (Out (Bool × (List Int) × Bool × (List Int)) (Bool × (List Int)))
  | (x17059, x17060, x17063, x17064) =>
    cond (decide ((x17064.length : Int) > 0))
    ((integer_DivMod n (Int_2.mk x17059 x17060) (Int_2.mk x17063 x17064)).bind fun (x17101, x17102, x17103) =>
    some (.go (x17063, x17064, x17102.Neg, x17102.Mag)))
    (some (.done (x17059, x17060)))

def integer_Gcd (n : Nat) : Int_2 → Int_2 → Option Int_2
  | x16291, x16294 =>
    ((integer_Abs n (Int_2.mk x16291.Neg x16291.Mag)).bind fun x16792 =>
    (integer_Abs n (Int_2.mk x16294.Neg x16294.Mag)).bind fun x16798 =>
    some ((x16792.Neg, x16792.Mag, x16798.Neg, x16798.Mag)) : Option (Bool × (List Int) × Bool × (List Int))).bind fun (x16623, x16624, x16628, x16629) =>
    (loopN (integer_Gcd_L1 n) n (x16623, x16624, x16628, x16629) : Option (Bool × (List Int))).bind fun (x17031, x17032) =>
    some ((Int_2.mk x17031 x17032))

def rational_New (n : Nat) : Int_2 → Int_2 → Option Rational
  | x17123, x17126 =>
    (integer_Sign n (Int_2.mk x17126.Neg x17126.Mag)).bind fun x17137 =>
    cond (x17137 == 0)
    ((integer_Of n 0).bind fun x17140 =>
    (integer_Of n 1).bind fun x17146 =>
    some ((Rational.mk (Int_2.mk x17140.Neg x17140.Mag) (Int_2.mk x17146.Neg x17146.Mag))))
    (((integer_Sign n (Int_2.mk x17126.Neg x17126.Mag)).bind fun x17204 =>
    cond (decide (x17204 < 0))
    ((integer_Neg n (Int_2.mk x17123.Neg x17123.Mag)).bind fun x17221 =>
    (integer_Neg n (Int_2.mk x17126.Neg x17126.Mag)).bind fun x17227 =>
    some ((x17221.Neg, x17221.Mag, x17227.Neg, x17227.Mag)))
    (some ((x17123.Neg, x17123.Mag, x17126.Neg, x17126.Mag))) : Option (Bool × (List Int) × Bool × (List Int))).bind fun (x17192, x17193, x17196, x17197) =>
    (integer_Gcd n (Int_2.mk x17192 x17193) (Int_2.mk x17196 x17197)).bind fun x17235 =>
    (integer_DivMod n (Int_2.mk x17192 x17193) (Int_2.mk x17235.Neg x17235.Mag)).bind fun (x17244, x17245, x17246) =>
    (integer_DivMod n (Int_2.mk x17196 x17197) (Int_2.mk x17235.Neg x17235.Mag)).bind fun (x17260, x17261, x17262) =>
    some ((Rational.mk (Int_2.mk x17244.Neg x17244.Mag) (Int_2.mk x17260.Neg x17260.Mag))))

def rational_Of (n : Nat) : Int → Int → Option Rational
  | x17285, x17286 =>
    (integer_Of n x17285).bind fun x17291 =>
    (integer_Of n x17286).bind fun x17297 =>
    (rational_New n x17291 x17297).bind fun x17303 =>
    some ((Rational.mk (Int_2.mk x17303.Num.Neg x17303.Num.Mag) (Int_2.mk x17303.Den.Neg x17303.Den.Mag)))

def rational_Norm (n : Nat) : Rational → Option Rational
  | x17312 =>
    (rational_New n (Int_2.mk x17312.Num.Neg x17312.Num.Mag) (Int_2.mk x17312.Den.Neg x17312.Den.Mag)).bind fun x17326 =>
    some ((Rational.mk (Int_2.mk x17326.Num.Neg x17326.Num.Mag) (Int_2.mk x17326.Den.Neg x17326.Den.Mag)))

def integer_Cmp (n : Nat) : Int_2 → Int_2 → Option Int
  | x17335, x17338 =>
    (integer_Sign n (Int_2.mk x17335.Neg x17335.Mag)).bind fun x17351 =>
    (integer_Sign n (Int_2.mk x17338.Neg x17338.Mag)).bind fun x17353 =>
    cond (decide (x17351 < x17353))
    (some ((-1)))
    (cond (decide (x17351 > x17353))
    (some (1))
    ((integer_trim n x17335.Mag).bind fun x17371 =>
    (integer_trim n x17338.Mag).bind fun x17377 =>
    (integer_compare n x17371 x17377).bind fun x17383 =>
    some ((IntKind.i64.wrap (x17351 * x17383)))))

def rational_one (n : Nat) : Int_2 → Option Bool
  | x17386 =>
    (integer_Of n 1).bind fun x17403 =>
    (integer_Cmp n (Int_2.mk x17386.Neg x17386.Mag) x17403).bind fun x17409 =>
    some ((x17409 == 0))

def bits_Len64 (n : Nat) : Int → Option Int
  | x17412 =>
    (cond (decide (x17412 ≥ 4294967296))
    (some (((x17412.fdiv (2 ^ min (32 : Int).toNat (IntKind.u64).bits)), 32)))
    (some ((x17412, 0))) : Option (Int × Int)).bind fun (x17413, x17414) =>
    (cond (decide (x17413 ≥ 65536))
    (some (((x17413.fdiv (2 ^ min (16 : Int).toNat (IntKind.u64).bits)), (IntKind.i64.wrap (x17414 + 16)))))
    (some ((x17413, x17414))) : Option (Int × Int)).bind fun (x17417, x17418) =>
    (cond (decide (x17417 ≥ 256))
    (some (((x17417.fdiv (2 ^ min (8 : Int).toNat (IntKind.u64).bits)), (IntKind.i64.wrap (x17418 + 8)))))
    (some ((x17417, x17418))) : Option (Int × Int)).bind fun (x17421, x17422) =>
    (bidx (ByteArray.mk #[0, 1, 2, 2, 3, 3, 3, 3, 4, 4, 4, 4, 4, 4, 4, 4, 5, 5, 5, 5, 5, 5, 5, 5, 5, 5, 5, 5, 5, 5, 5, 5, 6, 6, 6, 6, 6, 6, 6, 6, 6, 6, 6, 6, 6, 6, 6, 6, 6, 6, 6, 6, 6, 6, 6, 6, 6, 6, 6, 6, 6, 6, 6, 6, 7, 7, 7, 7, 7, 7, 7, 7, 7, 7, 7, 7, 7, 7, 7, 7, 7, 7, 7, 7, 7, 7, 7, 7, 7, 7, 7, 7, 7, 7, 7, 7, 7, 7, 7, 7, 7, 7, 7, 7, 7, 7, 7, 7, 7, 7, 7, 7, 7, 7, 7, 7, 7, 7, 7, 7, 7, 7, 7, 7, 7, 7, 7, 7, 8, 8, 8, 8, 8, 8, 8, 8, 8, 8, 8, 8, 8, 8, 8, 8, 8, 8, 8, 8, 8, 8, 8, 8, 8, 8, 8, 8, 8, 8, 8, 8, 8, 8, 8, 8, 8, 8, 8, 8, 8, 8, 8, 8, 8, 8, 8, 8, 8, 8, 8, 8, 8, 8, 8, 8, 8, 8, 8, 8, 8, 8, 8, 8, 8, 8, 8, 8, 8, 8, 8, 8, 8, 8, 8, 8, 8, 8, 8, 8, 8, 8, 8, 8, 8, 8, 8, 8, 8, 8, 8, 8, 8, 8, 8, 8, 8, 8, 8, 8, 8, 8, 8, 8, 8, 8, 8, 8, 8, 8, 8, 8, 8, 8, 8, 8, 8, 8, 8, 8, 8, 8, 8, 8, 8, 8, 8, 8]) (IntKind.u8.wrap x17421)).bind fun x17425 =>
    some ((IntKind.i64.wrap (x17422 + (IntKind.i64.wrap x17425))))

def bits_Mul32 (n : Nat) : Int → Int → Option (Int × Int)
  | x17429, x17430 =>
    some (((IntKind.u32.wrap ((IntKind.u64.wrap ((IntKind.u64.wrap x17429) * (IntKind.u64.wrap x17430))).fdiv (2 ^ min (32 : Int).toNat (IntKind.u64).bits))), (IntKind.u32.wrap (IntKind.u64.wrap ((IntKind.u64.wrap x17429) * (IntKind.u64.wrap x17430))))))

def bits_Mul64 (n : Nat) : Int → Int → Option (Int × Int)
  | x17431, x17432 =>
    some (((IntKind.u64.wrap ((IntKind.u64.wrap ((IntKind.u64.wrap ((x17431.fdiv (2 ^ min (32 : Int).toNat (IntKind.u64).bits)) * (x17432.fdiv (2 ^ min (32 : Int).toNat (IntKind.u64).bits)))) + ((IntKind.u64.wrap ((IntKind.u64.wrap ((x17431.fdiv (2 ^ min (32 : Int).toNat (IntKind.u64).bits)) * (ib .and .u64 x17432 4294967295))) + ((IntKind.u64.wrap ((ib .and .u64 x17431 4294967295) * (ib .and .u64 x17432 4294967295))).fdiv (2 ^ min (32 : Int).toNat (IntKind.u64).bits)))).fdiv (2 ^ min (32 : Int).toNat (IntKind.u64).bits)))) + ((IntKind.u64.wrap ((ib .and .u64 (IntKind.u64.wrap ((IntKind.u64.wrap ((x17431.fdiv (2 ^ min (32 : Int).toNat (IntKind.u64).bits)) * (ib .and .u64 x17432 4294967295))) + ((IntKind.u64.wrap ((ib .and .u64 x17431 4294967295) * (ib .and .u64 x17432 4294967295))).fdiv (2 ^ min (32 : Int).toNat (IntKind.u64).bits)))) 4294967295) + (IntKind.u64.wrap ((ib .and .u64 x17431 4294967295) * (x17432.fdiv (2 ^ min (32 : Int).toNat (IntKind.u64).bits)))))).fdiv (2 ^ min (32 : Int).toNat (IntKind.u64).bits)))), (IntKind.u64.wrap (x17431 * x17432))))

def bits_Mul (n : Nat) : Int → Int → Option (Int × Int)
  | x17433, x17434 =>
    (bits_Mul64 n x17433 x17434).bind fun (x17435, x17436) =>
    some ((x17435, x17436))

def slices_Reversestring_string__L0 : ((List ByteArray) × Int × Int) → Option (Out ((List ByteArray) × Int × Int) (List ByteArray))
  | (x17846, x17850, x17851) =>
    cond (decide (x17850 < x17851))
    (((idx x17846 x17851).bind fun x18416 =>
    (idx x17846 x17850).bind fun x18424 =>
    (idx x17846 x17850).bind fun x18432 =>
    (idx (upd x17846 x17850 x18416) x17851).bind fun x18445 =>
    some ((upd (upd x17846 x17850 x18416) x17851 x18424)) : Option (List ByteArray)).bind fun x18325 =>
    some (.go (x18325, (IntKind.i64.wrap (x17850 + 1)), (IntKind.i64.wrap (x17851 - 1)))))
    (some (.done x17846))

def slices_Reversestring_string_ (n : Nat) : (List ByteArray) → Option (List ByteArray)
  | x17530 =>
    loopN (slices_Reversestring_string__L0) n (x17530, 0, (IntKind.i64.wrap ((x17530.length : Int) - 1)))

def integer_Text_L1 (n : Nat) : ((List Int) × (List ByteArray)) → Option (Out ((List Int) × (List ByteArray)) (List ByteArray))
  | (x18693, x18696) =>
    cond (decide ((x18693.length : Int) > 0))
    ((integer_short n x18693 1000000000).bind fun (x18752, x18753) =>
    (integer_trim n x18752).bind fun x18759 =>
    (strconv_FormatUint n (IntKind.u64.wrap x18753) 10).bind fun x18765 =>
    (cond (decide ((x18759.length : Int) > 0))
    ((strings_Repeat n (ByteArray.mk #[48]) (IntKind.i64.wrap (9 - (x18765.size : Int)))).bind fun x18776 =>
    (need (decide (x18776.size + x18765.size ≤ 9223372036854775807))).bind fun _ =>
    some ((x18776 ++ x18765)))
    (some (x18765)) : Option ByteArray).bind fun x18772 =>
    (app x18696 [x18772]).bind fun x18784 =>
    some (.go (x18759, x18784)))
    (some (.done x18696))

def integer_Text (n : Nat) : Int_2 → Option ByteArray
  | x18489 =>
    (integer_trim n x18489.Mag).bind fun x18497 =>
    (slices_Cloneuint32_uint32_ n x18497).bind fun x18503 =>
    cond ((x18503.length : Int) == 0)
    (some ((ByteArray.mk #[48])))
    ((loopN (integer_Text_L1 n) n (x18503, []) : Option (List ByteArray)).bind fun x18646 =>
    (cond x18489.Neg
    ((app x18646 [(ByteArray.mk #[45])]).bind fun x18813 =>
    some (x18813))
    (some (x18646)) : Option (List ByteArray)).bind fun x18801 =>
    (slices_Reversestring_string_ n x18801).bind fun x18819 =>
    (strings_Join n x18819 (ByteArray.mk #[])).bind fun x18826 =>
    some (x18826))

def rational_Text (n : Nat) : Rational → Option ByteArray
  | x18829 =>
    (rational_Norm n (Rational.mk (Int_2.mk x18829.Num.Neg x18829.Num.Mag) (Int_2.mk x18829.Den.Neg x18829.Den.Mag))).bind fun x18836 =>
    (rational_one n (Int_2.mk x18836.Den.Neg x18836.Den.Mag)).bind fun x18845 =>
    cond x18845
    ((integer_Text n (Int_2.mk x18836.Num.Neg x18836.Num.Mag)).bind fun x18848 =>
    some (x18848))
    ((integer_Text n (Int_2.mk x18836.Num.Neg x18836.Num.Mag)).bind fun x18851 =>
    (need (decide (x18851.size + (ByteArray.mk #[47]).size ≤ 9223372036854775807))).bind fun _ =>
    (integer_Text n (Int_2.mk x18836.Den.Neg x18836.Den.Mag)).bind fun x18854 =>
    (need (decide ((x18851 ++ (ByteArray.mk #[47])).size + x18854.size ≤ 9223372036854775807))).bind fun _ =>
    some (((x18851 ++ (ByteArray.mk #[47])) ++ x18854)))

def integer_times_L25 (x18861 : (List Int)) (x20709 : Int) (x21402 : Int) : ((List Int) × Int × Int) → Option (Out ((List Int) × Int × Int) ((List Int) × Int))
  | (x21541, x21545, x21546) =>
    cond (decide (x21546 < (x18861.length : Int)))
    ((idx x18861 x21546).bind fun x21584 =>
    (idx x21541 (IntKind.i64.wrap (x20709 + x21546))).bind fun x21590 =>
    (idx x21541 (IntKind.i64.wrap (x20709 + x21546))).bind fun x21598 =>
    some (.go ((upd x21541 (IntKind.i64.wrap (x20709 + x21546)) (IntKind.u32.wrap (IntKind.u64.wrap ((IntKind.u64.wrap ((IntKind.u64.wrap ((IntKind.u64.wrap x21402) * (IntKind.u64.wrap x21584))) + (IntKind.u64.wrap x21590))) + x21545)))), ((IntKind.u64.wrap ((IntKind.u64.wrap ((IntKind.u64.wrap ((IntKind.u64.wrap x21402) * (IntKind.u64.wrap x21584))) + (IntKind.u64.wrap x21590))) + x21545)).fdiv (2 ^ min (32 : Int).toNat (IntKind.u64).bits)), (IntKind.i64.wrap (x21546 + 1)))))
    (some (.done (x21541, x21545)))

def integer_times_L21 (n : Nat) (x18858 : (List Int)) (x18861 : (List Int)) : ((List Int) × Int) → Option (Out ((List Int) × Int) (List Int))
  | (x20705, x20709) =>
    cond (decide (x20709 < (x18858.length : Int)))
    (((idx x18858 x20709).bind fun x21402 =>
    (loopN (integer_times_L25 x18861 x20709 x21402) n (x20705, 0, 0) : Option ((List Int) × Int)).bind fun (x21506, x21510) =>
    (idx x21506 (IntKind.i64.wrap (x20709 + (x18861.length : Int)))).bind fun x21612 =>
    some ((upd x21506 (IntKind.i64.wrap (x20709 + (x18861.length : Int))) (IntKind.u32.wrap x21510))) : Option (List Int)).bind fun x21395 =>
    some (.go (x21395, (IntKind.i64.wrap (x20709 + 1)))))
    (some (.done x20705))

def integer_times (n : Nat) : (List Int) → (List Int) → Option (List Int)
  | x18858, x18861 =>
    (mk (IntKind.i64.wrap ((x18858.length : Int) + (x18861.length : Int))) 0).bind fun x18865 =>
    (loopN (integer_times_L21 n x18858 x18861) n (x18865, 0) : Option (List Int)).bind fun x20245 =>
    some (x20245)

def integer_Mul (n : Nat) : Int_2 → Int_2 → Option Int_2
  | x21627, x21630 =>
    (integer_trim n x21627.Mag).bind fun x21671 =>
    (integer_trim n x21630.Mag).bind fun x21677 =>
    (integer_times n x21671 x21677).bind fun x21683 =>
    (integer_made n (!(x21627.Neg == x21630.Neg)) x21683).bind fun x21689 =>
    some ((Int_2.mk x21689.Neg x21689.Mag))

def rational_Add (n : Nat) : Rational → Rational → Option Rational
  | x21696, x21701 =>
    (rational_Norm n (Rational.mk (Int_2.mk x21696.Num.Neg x21696.Num.Mag) (Int_2.mk x21696.Den.Neg x21696.Den.Mag))).bind fun x21732 =>
    (rational_Norm n (Rational.mk (Int_2.mk x21701.Num.Neg x21701.Num.Mag) (Int_2.mk x21701.Den.Neg x21701.Den.Mag))).bind fun x21740 =>
    (integer_Mul n (Int_2.mk x21732.Num.Neg x21732.Num.Mag) (Int_2.mk x21740.Den.Neg x21740.Den.Mag)).bind fun x21783 =>
    (integer_Mul n (Int_2.mk x21740.Num.Neg x21740.Num.Mag) (Int_2.mk x21732.Den.Neg x21732.Den.Mag)).bind fun x21789 =>
    (integer_Add n x21783 x21789).bind fun x21795 =>
    (integer_Mul n (Int_2.mk x21732.Den.Neg x21732.Den.Mag) (Int_2.mk x21740.Den.Neg x21740.Den.Mag)).bind fun x21801 =>
    (rational_New n x21795 x21801).bind fun x21807 =>
    some ((Rational.mk (Int_2.mk x21807.Num.Neg x21807.Num.Mag) (Int_2.mk x21807.Den.Neg x21807.Den.Mag)))

def law02_awake (n : Nat) : Option Bool :=
    ((rational_Of n 6 (-4)).bind fun x21859 =>
    (rational_Text n x21859).bind fun x21867 =>
    cond (x21867.toList == (ByteArray.mk #[45, 51, 47, 50]).toList)
    ((rational_Of n 1 2).bind fun x21870 =>
    (rational_Of n 1 3).bind fun x21878 =>
    (rational_Add n x21870 x21878).bind fun x21886 =>
    (rational_Text n x21886).bind fun x21894 =>
    some ((x21894.toList == (ByteArray.mk #[53, 47, 54]).toList)))
    (some (false)) : Option Bool).bind fun x21854 =>
    some (x21854)

def ref02_Few_L1 (x21897 : (List Rational)) : (Int × Int) → Option (Out (Int × Int) Int)
  | (x22009, x22010) =>
    (cond (decide (x22010 < (x21897.length : Int)))
    (some ((decide (x22010 < 50))))
    (some (false)) : Option Bool).bind fun x22041 =>
    cond x22041
    ((idx x21897 x22010).bind fun x22044 =>
    (idx x21897 x22010).bind fun x22054 =>
    some (.go ((IntKind.i64.wrap (x22009 + (IntKind.i64.wrap ((if 100 < (x22044.Num.Mag.length : Int) then 100 else (x22044.Num.Mag.length : Int)) + (if 100 < (x22054.Den.Mag.length : Int) then 100 else (x22054.Den.Mag.length : Int)))))), (IntKind.i64.wrap (x22010 + 1)))))
    (some (.done x22009))

def ref02_Few (n : Nat) : (List Rational) → Option Bool
  | x21897 =>
    (loopN (ref02_Few_L1 x21897) n (0, 0) : Option Int).bind fun x21981 =>
    (cond (decide ((x21897.length : Int) ≤ 12))
    (some ((decide (x21981 ≤ 60))))
    (some (false)) : Option Bool).bind fun x22066 =>
    some (x22066)

def law02_few (n : Nat) : (List Rational) → Option Bool
  | x22069 =>
    (ref02_Few n x22069).bind fun x22072 =>
    some (x22072)

def law02_clone (n : Nat) : Rational → Option Rational
  | x22172 =>
    ((app ([] : List Int) x22172.Num.Mag).bind fun x22452 =>
    (app ([] : List Int) x22172.Den.Mag).bind fun x22466 =>
    some ((x22172.Num.Neg, x22452, x22172.Den.Neg, x22466)) : Option (Bool × (List Int) × Bool × (List Int))).bind fun (x22352, x22353, x22357, x22358) =>
    some ((Rational.mk (Int_2.mk x22352 x22353) (Int_2.mk x22357 x22358)))

def ref01_trim_L1 : (List Int) → Option (Out (List Int) (List Int))
  | x22629 =>
    (cond (decide ((x22629.length : Int) > 0))
    ((idx x22629 (IntKind.i64.wrap ((x22629.length : Int) - 1))).bind fun x22666 =>
    some ((x22666 == 0)))
    (some (false)) : Option Bool).bind fun x22663 =>
    cond x22663
    ((cut x22629 0 (IntKind.i64.wrap ((x22629.length : Int) - 1))).bind fun x22672 =>
    some (.go x22672))
    (some (.done x22629))

def ref01_trim (n : Nat) : (List Int) → Option (List Int)
  | x22533 =>
    (loopN (ref01_trim_L1) n x22533 : Option (List Int)).bind fun x22605 =>
    (app ([] : List Int) x22605).bind fun x22681 =>
    some (x22681)

def ref01_Norm (n : Nat) : Int_2 → Option Int_2
  | x22687 =>
    (ref01_trim n x22687.Mag).bind fun x22698 =>
    (cond x22687.Neg
    (some (((decide ((x22698.length : Int) > 0)), x22698)))
    (some ((false, x22698))) : Option (Bool × (List Int))).bind fun (x22715, x22716) =>
    some ((Int_2.mk x22715 x22716))

def ref01_Of (n : Nat) : Int → Option Int_2
  | x22734 =>
    (cond (decide (x22734 < 0))
    (some ((IntKind.u64.wrap (0 - (IntKind.u64.wrap x22734)))))
    (some ((IntKind.u64.wrap x22734))) : Option Int).bind fun x22738 =>
    (ref01_Norm n (Int_2.mk (decide (x22734 < 0)) [(IntKind.u32.wrap x22738), (IntKind.u32.wrap (x22738.fdiv (2 ^ min (32 : Int).toNat (IntKind.u64).bits)))])).bind fun x22749 =>
    some ((Int_2.mk x22749.Neg x22749.Mag))

def ref01_Sign (n : Nat) : Int_2 → Option Int
  | x22756 =>
    (ref01_trim n x22756.Mag).bind fun x22764 =>
    cond ((x22764.length : Int) == 0)
    (some (0))
    (cond x22756.Neg
    (some ((-1)))
    (some (1)))

def ref02_One (n : Nat) : Option Int_2 :=
    (ref01_Of n 1).bind fun x22774 =>
    some ((Int_2.mk x22774.Neg x22774.Mag))

def ref01_Neg (n : Nat) : Int_2 → Option Int_2
  | x22781 =>
    (ref01_Norm n (Int_2.mk (!x22781.Neg) x22781.Mag)).bind fun x22796 =>
    some ((Int_2.mk x22796.Neg x22796.Mag))

def ref01_Abs (n : Nat) : Int_2 → Option Int_2
  | x22803 =>
    (ref01_Norm n (Int_2.mk false x22803.Mag)).bind fun x22818 =>
    some ((Int_2.mk x22818.Neg x22818.Mag))

def ref01_half_L1 (x22825 : (List Int)) : ((List Int) × Int) → Option (Out ((List Int) × Int) (List Int))
  | (x23281, x23285) =>
    cond (decide (x23285 < (x23281.length : Int)))
    (((idx x23281 x23285).bind fun x23456 =>
    (idx x23281 x23285).bind fun x23464 =>
    cond (decide ((IntKind.i64.wrap (x23285 + 1)) < (x22825.length : Int)))
    ((idx (upd x23281 x23285 (x23456.fdiv (2 ^ min (1 : Int).toNat (IntKind.u32).bits))) x23285).bind fun x23478 =>
    (idx x22825 (IntKind.i64.wrap (x23285 + 1))).bind fun x23486 =>
    (idx (upd x23281 x23285 (x23456.fdiv (2 ^ min (1 : Int).toNat (IntKind.u32).bits))) x23285).bind fun x23492 =>
    some ((upd (upd x23281 x23285 (x23456.fdiv (2 ^ min (1 : Int).toNat (IntKind.u32).bits))) x23285 (IntKind.u32.wrap (x23478 + (IntKind.u32.wrap ((x23486.tmod 2) * 2 ^ min (31 : Int).toNat (IntKind.u32).bits)))))))
    (some ((upd x23281 x23285 (x23456.fdiv (2 ^ min (1 : Int).toNat (IntKind.u32).bits))))) : Option (List Int)).bind fun x23449 =>
    some (.go (x23449, (IntKind.i64.wrap (x23285 + 1)))))
    (some (.done x23281))

def ref01_half (n : Nat) : (List Int) → Option (List Int)
  | x22825 =>
    (app ([] : List Int) x22825).bind fun x22833 =>
    (loopN (ref01_half_L1 x22825) n (x22833, 0) : Option (List Int)).bind fun x23169 =>
    (ref01_trim n x23169).bind fun x23507 =>
    some (x23507)

def ref01_cmp_L1 (x23515 : (List Int)) (x23518 : (List Int)) : Int → Option (Out Int (Out Unit Int))
  | x23637 =>
    cond (decide (x23637 ≥ 0))
    ((idx x23515 x23637).bind fun x23669 =>
    (idx x23518 x23637).bind fun x23675 =>
    cond (decide (x23669 < x23675))
    (some (.done (.done (-1))))
    ((idx x23515 x23637).bind fun x23683 =>
    (idx x23518 x23637).bind fun x23689 =>
    cond (decide (x23683 > x23689))
    (some (.done (.done 1)))
    (some (.go (IntKind.i64.wrap (x23637 - 1))))))
    (some (.done (.go ())))

def ref01_cmp (n : Nat) : (List Int) → (List Int) → Option Int
  | x23515, x23518 =>
    cond ((x23515.length : Int) != (x23518.length : Int))
    (cond (decide ((x23515.length : Int) < (x23518.length : Int)))
    (some ((-1)))
    (some (1)))
    ((loopN (ref01_cmp_L1 x23515 x23518) n (IntKind.i64.wrap ((x23515.length : Int) - 1)) : Option (Out Unit Int)).bind fun y23609 => (match y23609 with
    | .go _ =>
    some (0)
    | .done r => some r))

def ref01_sub_L1 (x23698 : (List Int)) (x23701 : (List Int)) : ((List Int) × Int × Int) → Option (Out ((List Int) × Int × Int) (List Int))
  | (x23875, x23879, x23880) =>
    cond (decide (x23880 < (x23698.length : Int)))
    ((idx x23698 x23880).bind fun x23929 =>
    (cond (decide (x23880 < (x23701.length : Int)))
    ((idx x23701 x23880).bind fun x23944 =>
    some ((IntKind.i64.wrap ((IntKind.i64.wrap ((IntKind.i64.wrap x23929) - x23879)) - (IntKind.i64.wrap x23944)))))
    (some ((IntKind.i64.wrap ((IntKind.i64.wrap x23929) - x23879)))) : Option Int).bind fun x23941 =>
    (cond (decide (x23941 < 0))
    (some ((1, (IntKind.i64.wrap (x23941 + 4294967296)))))
    (some ((0, x23941))) : Option (Int × Int)).bind fun (x23950, x23951) =>
    (app x23875 [(IntKind.u32.wrap x23951)]).bind fun x23958 =>
    some (.go (x23958, x23950, (IntKind.i64.wrap (x23880 + 1)))))
    (some (.done x23875))

def ref01_sub (n : Nat) : (List Int) → (List Int) → Option (List Int)
  | x23698, x23701 =>
    (loopN (ref01_sub_L1 x23698 x23701) n ([], 0, 0) : Option (List Int)).bind fun x23831 =>
    (ref01_trim n x23831).bind fun x23966 =>
    some (x23966)

def ref01_add_L1 (x23974 : (List Int)) (x23977 : (List Int)) : ((List Int) × Int × Int) → Option (Out ((List Int) × Int × Int) (List Int))
  | (x24183, x24187, x24188) =>
    (cond (decide (x24188 < (x23974.length : Int)))
    (some (true))
    (cond (decide (x24188 < (x23977.length : Int)))
    (some (true))
    (some ((decide (x24187 > 0))))) : Option Bool).bind fun x24245 =>
    cond x24245
    ((cond (decide (x24188 < (x23974.length : Int)))
    ((idx x23974 x24188).bind fun x24257 =>
    some ((IntKind.u64.wrap (x24187 + (IntKind.u64.wrap x24257)))))
    (some (x24187)) : Option Int).bind fun x24254 =>
    (cond (decide (x24188 < (x23977.length : Int)))
    ((idx x23977 x24188).bind fun x24272 =>
    some ((IntKind.u64.wrap (x24254 + (IntKind.u64.wrap x24272)))))
    (some (x24254)) : Option Int).bind fun x24269 =>
    (app x24183 [(IntKind.u32.wrap x24269)]).bind fun x24282 =>
    some (.go (x24282, (x24269.fdiv (2 ^ min (32 : Int).toNat (IntKind.u64).bits)), (IntKind.i64.wrap (x24188 + 1)))))
    (some (.done x24183))

def ref01_add (n : Nat) : (List Int) → (List Int) → Option (List Int)
  | x23974, x23977 =>
    (loopN (ref01_add_L1 x23974 x23977) n ([], 0, 0) : Option (List Int)).bind fun x24131 =>
    (ref01_trim n x24131).bind fun x24290 =>
    some (x24290)

def ref01_Gcd_L1 (n : Nat) : ((List Int) × (List Int) × Int) → Option (Out ((List Int) × (List Int) × Int) ((List Int) × (List Int) × Int))
  | (x24555, x24558, x24561) =>
    ((idx x24555 0).bind fun x24631 =>
    cond ((x24631.tmod 2) == 0)
    ((idx x24558 0).bind fun x24637 =>
    some (((x24637.tmod 2) == 0)))
    (some (false)) : Option Bool).bind fun x24628 =>
    cond x24628
    ((ref01_half n x24555).bind fun x24643 =>
    (ref01_half n x24558).bind fun x24649 =>
    some (.go (x24643, x24649, (IntKind.i64.wrap (x24561 + 1)))))
    (some (.done (x24555, x24558, x24561)))

def ref01_Gcd_L3 (n : Nat) : ((List Int) × (List Int)) → Option (Out ((List Int) × (List Int)) (List Int))
  | (x24850, x24853) =>
    (ref01_cmp n x24850 x24853).bind fun x24910 =>
    cond (x24910 != 0)
    ((idx x24850 0).bind fun x24913 =>
    cond ((x24913.tmod 2) == 0)
    ((ref01_half n x24850).bind fun x24919 =>
    some (.go (x24919, x24853)))
    ((idx x24853 0).bind fun x24925 =>
    cond ((x24925.tmod 2) == 0)
    ((ref01_half n x24853).bind fun x24931 =>
    some (.go (x24850, x24931)))
    ((ref01_cmp n x24850 x24853).bind fun x24937 =>
    cond (decide (x24937 > 0))
    ((ref01_sub n x24850 x24853).bind fun x24940 =>
    some (.go (x24940, x24853)))
    ((ref01_sub n x24853 x24850).bind fun x24946 =>
    some (.go (x24850, x24946))))))
    (some (.done x24850))

def ref01_Gcd_L5 (n : Nat) (x24501 : Int) : ((List Int) × Int) → Option (Out ((List Int) × Int) (List Int))
  | (x24999, x25002) =>
    cond (decide (x25002 < x24501))
    ((ref01_add n x24999 x24999).bind fun x25019 =>
    some (.go (x25019, (IntKind.i64.wrap (x25002 + 1)))))
    (some (.done x24999))

def ref01_Gcd (n : Nat) : Int_2 → Int_2 → Option Int_2
  | x24298, x24301 =>
    (ref01_trim n x24298.Mag).bind fun x24317 =>
    (ref01_trim n x24301.Mag).bind fun x24324 =>
    cond ((x24317.length : Int) == 0)
    ((ref01_Abs n (Int_2.mk x24301.Neg x24301.Mag)).bind fun x24331 =>
    some ((Int_2.mk x24331.Neg x24331.Mag)))
    (cond ((x24324.length : Int) == 0)
    ((ref01_Abs n (Int_2.mk x24298.Neg x24298.Mag)).bind fun x24338 =>
    some ((Int_2.mk x24338.Neg x24338.Mag)))
    ((loopN (ref01_Gcd_L1 n) n (x24317, x24324, 0) : Option ((List Int) × (List Int) × Int)).bind fun (x24495, x24498, x24501) =>
    (loopN (ref01_Gcd_L3 n) n (x24495, x24498) : Option (List Int)).bind fun x24801 =>
    (loopN (ref01_Gcd_L5 n x24501) n (x24801, 0) : Option (List Int)).bind fun x24986 =>
    some ((Int_2.mk false x24986))))

def ref01_bit (n : Nat) : (List Int) → Int → Option Int
  | x25031, x25034 =>
    cond (decide ((IntKind.i64.wrap (x25034.tdiv 32)) ≥ (x25031.length : Int)))
    (some (0))
    ((idx x25031 (IntKind.i64.wrap (x25034.tdiv 32))).bind fun x25035 =>
    (need (decide (0 ≤ (IntKind.u64.wrap (x25034.tmod 32))))).bind fun _ =>
    some (((x25035.fdiv (2 ^ min (IntKind.u64.wrap (x25034.tmod 32)).toNat (IntKind.u32).bits)).tmod 2)))

def ref01_divide_L1 (n : Nat) (x25042 : (List Int)) (x25045 : (List Int)) : ((List Int) × (List Int) × Int) → Option (Out ((List Int) × (List Int) × Int) ((List Int) × (List Int)))
  | (x25694, x25698, x25701) =>
    cond (decide (x25701 ≥ 0))
    (((ref01_add n x25698 x25698).bind fun x25948 =>
    ((ref01_bit n x25042 x25701).bind fun x25974 =>
    cond (x25974 == 1)
    ((ref01_add n x25948 [1]).bind fun x25981 =>
    some (x25981))
    (some (x25948)) : Option (List Int)).bind fun x25967 =>
    (ref01_cmp n x25967 x25045).bind fun x25987 =>
    cond (decide (x25987 ≥ 0))
    ((ref01_sub n x25967 x25045).bind fun x25990 =>
    (idx x25694 (IntKind.i64.wrap (x25701.tdiv 32))).bind fun x25996 =>
    (need (decide (0 ≤ (IntKind.u64.wrap (x25701.tmod 32))))).bind fun _ =>
    (idx x25694 (IntKind.i64.wrap (x25701.tdiv 32))).bind fun x26005 =>
    some (((upd x25694 (IntKind.i64.wrap (x25701.tdiv 32)) (IntKind.u32.wrap (x25996 + (IntKind.u32.wrap ((1 : Int) * 2 ^ min (IntKind.u64.wrap (x25701.tmod 32)).toNat (IntKind.u32).bits))))), x25990)))
    (some ((x25694, x25967))) : Option ((List Int) × (List Int))).bind fun (x25937, x25941) =>
    some (.go (x25937, x25941, (IntKind.i64.wrap (x25701 - 1)))))
    (some (.done (x25694, x25698)))

def ref01_divide (n : Nat) : (List Int) → (List Int) → Option ((List Int) × (List Int))
  | x25042, x25045 =>
    (mk (x25042.length : Int) 0).bind fun x25050 =>
    (loopN (ref01_divide_L1 n x25042 x25045) n (x25050, [], (IntKind.i64.wrap ((IntKind.i64.wrap (32 * (x25042.length : Int))) - 1))) : Option ((List Int) × (List Int))).bind fun (x25532, x25536) =>
    (ref01_trim n x25532).bind fun x26020 =>
    some ((x26020, x25536))

def ref01_Add (n : Nat) : Int_2 → Int_2 → Option Int_2
  | x26028, x26031 =>
    (ref01_Norm n (Int_2.mk x26028.Neg x26028.Mag)).bind fun x26041 =>
    (ref01_Norm n (Int_2.mk x26031.Neg x26031.Mag)).bind fun x26048 =>
    cond (x26041.Neg == x26048.Neg)
    ((ref01_add n x26041.Mag x26048.Mag).bind fun x26072 =>
    (ref01_Norm n (Int_2.mk x26041.Neg x26072)).bind fun x26082 =>
    some ((Int_2.mk x26082.Neg x26082.Mag)))
    ((ref01_cmp n x26041.Mag x26048.Mag).bind fun x26089 =>
    cond (decide (x26089 < 0))
    ((ref01_sub n x26048.Mag x26041.Mag).bind fun x26109 =>
    (ref01_Norm n (Int_2.mk x26048.Neg x26109)).bind fun x26119 =>
    some ((Int_2.mk x26119.Neg x26119.Mag)))
    ((ref01_sub n x26041.Mag x26048.Mag).bind fun x26143 =>
    (ref01_Norm n (Int_2.mk x26041.Neg x26143)).bind fun x26153 =>
    some ((Int_2.mk x26153.Neg x26153.Mag))))

def ref01_Sub (n : Nat) : Int_2 → Int_2 → Option Int_2
  | x26160, x26163 =>
    (ref01_Neg n (Int_2.mk x26163.Neg x26163.Mag)).bind fun x26192 =>
    (ref01_Add n (Int_2.mk x26160.Neg x26160.Mag) x26192).bind fun x26198 =>
    some ((Int_2.mk x26198.Neg x26198.Mag))

def ref01_DivMod (n : Nat) : Int_2 → Int_2 → Option (Int_2 × Int_2 × Int)
  | x26205, x26208 =>
    (ref01_Sign n (Int_2.mk x26208.Neg x26208.Mag)).bind fun x26227 =>
    cond (x26227 == 0)
    (some (((Int_2.mk false []), (Int_2.mk false []), 10)))
    ((ref01_trim n x26205.Mag).bind fun x26257 =>
    (ref01_trim n x26208.Mag).bind fun x26264 =>
    (ref01_divide n x26257 x26264).bind fun (x26273, x26274) =>
    (ref01_Norm n (Int_2.mk (!(x26205.Neg == x26208.Neg)) x26273)).bind fun x26286 =>
    (ref01_Norm n (Int_2.mk x26205.Neg x26274)).bind fun x26299 =>
    (cond x26299.Neg
    ((ref01_Abs n (Int_2.mk x26208.Neg x26208.Mag)).bind fun x26411 =>
    (ref01_Add n (Int_2.mk x26299.Neg x26299.Mag) x26411).bind fun x26417 =>
    cond x26208.Neg
    ((ref01_Of n 1).bind fun x26437 =>
    (ref01_Add n (Int_2.mk x26286.Neg x26286.Mag) x26437).bind fun x26443 =>
    some ((x26443.Neg, x26443.Mag, x26417.Neg, x26417.Mag)))
    ((ref01_Of n 1).bind fun x26463 =>
    (ref01_Sub n (Int_2.mk x26286.Neg x26286.Mag) x26463).bind fun x26469 =>
    some ((x26469.Neg, x26469.Mag, x26417.Neg, x26417.Mag))))
    (some ((x26286.Neg, x26286.Mag, x26299.Neg, x26299.Mag))) : Option (Bool × (List Int) × Bool × (List Int))).bind fun (x26386, x26387, x26390, x26391) =>
    some (((Int_2.mk x26386 x26387), (Int_2.mk x26390 x26391), 0)))

def ref02_part (n : Nat) : Int_2 → Int_2 → Option Int_2
  | x26480, x26483 =>
    (ref01_DivMod n (Int_2.mk x26480.Neg x26480.Mag) (Int_2.mk x26483.Neg x26483.Mag)).bind fun (x26499, x26500, x26501) =>
    some ((Int_2.mk x26499.Neg x26499.Mag))

def ref02_New (n : Nat) : Int_2 → Int_2 → Option Rational
  | x26516, x26519 =>
    ((ref01_Sign n (Int_2.mk x26516.Neg x26516.Mag)).bind fun x26540 =>
    cond (x26540 == 0)
    (some (true))
    ((ref01_Sign n (Int_2.mk x26519.Neg x26519.Mag)).bind fun x26543 =>
    some ((x26543 == 0))) : Option Bool).bind fun x26536 =>
    cond x26536
    ((ref01_Of n 0).bind fun x26546 =>
    (ref02_One n ).bind fun x26552 =>
    some ((Rational.mk (Int_2.mk x26546.Neg x26546.Mag) (Int_2.mk x26552.Neg x26552.Mag))))
    (((ref01_Sign n (Int_2.mk x26519.Neg x26519.Mag)).bind fun x26596 =>
    cond (decide (x26596 < 0))
    ((ref01_Neg n (Int_2.mk x26516.Neg x26516.Mag)).bind fun x26599 =>
    (ref01_Neg n (Int_2.mk x26519.Neg x26519.Mag)).bind fun x26606 =>
    some ((x26599.Neg, x26599.Mag, x26606.Neg, x26606.Mag)))
    (some ((x26516.Neg, x26516.Mag, x26519.Neg, x26519.Mag))) : Option (Bool × (List Int) × Bool × (List Int))).bind fun (x26584, x26585, x26588, x26589) =>
    (ref01_Gcd n (Int_2.mk x26584 x26585) (Int_2.mk x26588 x26589)).bind fun x26613 =>
    (ref02_part n (Int_2.mk x26584 x26585) (Int_2.mk x26613.Neg x26613.Mag)).bind fun x26643 =>
    (ref02_part n (Int_2.mk x26588 x26589) (Int_2.mk x26613.Neg x26613.Mag)).bind fun x26649 =>
    some ((Rational.mk (Int_2.mk x26643.Neg x26643.Mag) (Int_2.mk x26649.Neg x26649.Mag))))

def ref02_Of (n : Nat) : Int → Int → Option Rational
  | x26664, x26665 =>
    (ref01_Of n x26664).bind fun x26670 =>
    (ref01_Of n x26665).bind fun x26676 =>
    (ref02_New n x26670 x26676).bind fun x26682 =>
    some ((Rational.mk (Int_2.mk x26682.Num.Neg x26682.Num.Mag) (Int_2.mk x26682.Den.Neg x26682.Den.Mag)))

def base_Int_L1 (x26691 : Int_2) (x26694 : Int_2) : Int → Option (Out Int (Out Unit Bool))
  | x26773 =>
    cond (decide (x26773 < (x26691.Mag.length : Int)))
    ((idx x26691.Mag x26773).bind fun x26792 =>
    (idx x26694.Mag x26773).bind fun x26798 =>
    cond (x26792 != x26798)
    (some (.done (.done false)))
    (some (.go (IntKind.i64.wrap (x26773 + 1)))))
    (some (.done (.go ())))

def base_Int (n : Nat) : Int_2 → Int_2 → Option Bool
  | x26691, x26694 =>
    (cond (!(x26691.Neg == x26694.Neg))
    (some (true))
    (some (((x26691.Mag.length : Int) != (x26694.Mag.length : Int)))) : Option Bool).bind fun x26707 =>
    cond x26707
    (some (false))
    ((loopN (base_Int_L1 x26691 x26694) n 0 : Option (Out Unit Bool)).bind fun y26758 => (match y26758 with
    | .go _ =>
    some (true)
    | .done r => some r))

def base_Rational (n : Nat) : Rational → Rational → Option Bool
  | x26807, x26812 =>
    ((base_Int n (Int_2.mk x26807.Num.Neg x26807.Num.Mag) (Int_2.mk x26812.Num.Neg x26812.Num.Mag)).bind fun x26837 =>
    cond x26837
    ((base_Int n (Int_2.mk x26807.Den.Neg x26807.Den.Mag) (Int_2.mk x26812.Den.Neg x26812.Den.Mag)).bind fun x26840 =>
    some (x26840))
    (some (false)) : Option Bool).bind fun x26833 =>
    some (x26833)

def ref02_Norm (n : Nat) : Rational → Option Rational
  | x26843 =>
    (ref02_New n (Int_2.mk x26843.Num.Neg x26843.Num.Mag) (Int_2.mk x26843.Den.Neg x26843.Den.Mag)).bind fun x26857 =>
    some ((Rational.mk (Int_2.mk x26857.Num.Neg x26857.Num.Mag) (Int_2.mk x26857.Den.Neg x26857.Den.Mag)))

def rational_Sign (n : Nat) : Rational → Option Int
  | x26866 =>
    (integer_Sign n (Int_2.mk x26866.Num.Neg x26866.Num.Mag)).bind fun x26876 =>
    (integer_Sign n (Int_2.mk x26866.Den.Neg x26866.Den.Mag)).bind fun x26878 =>
    some ((IntKind.i64.wrap (x26876 * x26878)))

def ref02_Sign (n : Nat) : Rational → Option Int
  | x26881 =>
    (ref02_Norm n (Rational.mk (Int_2.mk x26881.Num.Neg x26881.Num.Mag) (Int_2.mk x26881.Den.Neg x26881.Den.Mag))).bind fun x26891 =>
    (ref01_Sign n (Int_2.mk x26891.Num.Neg x26891.Num.Mag)).bind fun x26899 =>
    some (x26899)

def law02_RationalNorms (n : Nat) : Rational → Int → Int → Option Bool
  | x26902, x26907, x26908 =>
    ((law02_awake n ).bind fun x26943 =>
    cond (!x26943)
    (some ((x26902.Num.Mag, x26902.Den.Mag, true)))
    ((law02_few n [(Rational.mk (Int_2.mk x26902.Num.Neg x26902.Num.Mag) (Int_2.mk x26902.Den.Neg x26902.Den.Mag))]).bind fun x26958 =>
    some ((x26902.Num.Mag, x26902.Den.Mag, (!x26958)))) : Option ((List Int) × (List Int) × Bool)).bind fun (x26932, x26935, x26938) =>
    cond x26938
    ((law02_awake n ).bind fun x26961 =>
    some (x26961))
    ((law02_clone n (Rational.mk (Int_2.mk x26902.Num.Neg x26932) (Int_2.mk x26902.Den.Neg x26935))).bind fun x26964 =>
    ((rational_Of n x26907 x26908).bind fun x27178 =>
    (ref02_Of n x26907 x26908).bind fun x27186 =>
    (base_Rational n x27178 x27186).bind fun x27194 =>
    cond x27194
    ((rational_New n (Int_2.mk x26964.Num.Neg x26964.Num.Mag) (Int_2.mk x26964.Den.Neg x26964.Den.Mag)).bind fun x27197 =>
    (ref02_Norm n (Rational.mk (Int_2.mk x26902.Num.Neg x26932) (Int_2.mk x26902.Den.Neg x26935))).bind fun x27205 =>
    (base_Rational n x27197 x27205).bind fun x27213 =>
    cond x27213
    ((rational_Norm n (Rational.mk (Int_2.mk x26964.Num.Neg x26964.Num.Mag) (Int_2.mk x26964.Den.Neg x26964.Den.Mag))).bind fun x27216 =>
    (ref02_Norm n (Rational.mk (Int_2.mk x26902.Num.Neg x26932) (Int_2.mk x26902.Den.Neg x26935))).bind fun x27224 =>
    (base_Rational n x27216 x27224).bind fun x27232 =>
    cond x27232
    ((rational_Sign n (Rational.mk (Int_2.mk x26964.Num.Neg x26964.Num.Mag) (Int_2.mk x26964.Den.Neg x26964.Den.Mag))).bind fun x27235 =>
    (ref02_Sign n (Rational.mk (Int_2.mk x26902.Num.Neg x26932) (Int_2.mk x26902.Den.Neg x26935))).bind fun x27238 =>
    cond (x27235 == x27238)
    ((base_Rational n (Rational.mk (Int_2.mk x26902.Num.Neg x26932) (Int_2.mk x26902.Den.Neg x26935)) (Rational.mk (Int_2.mk x26964.Num.Neg x26964.Num.Mag) (Int_2.mk x26964.Den.Neg x26964.Den.Mag))).bind fun x27241 =>
    some (x27241))
    (some (false)))
    (some (false)))
    (some (false)))
    (some (false)) : Option Bool).bind fun x27107 =>
    some (x27107))

def ref01_Mul_L13 (x27244 : Int_2) (x27247 : Int_2) (x28755 : Int) : ((List Int) × Int × Int) → Option (Out ((List Int) × Int × Int) (List Int))
  | (x29370, x29374, x29375) =>
    (cond (decide (x29375 < (x27247.Mag.length : Int)))
    (some (true))
    (some ((decide (x29374 > 0)))) : Option Bool).bind fun x29440 =>
    cond x29440
    ((idx x29370 (IntKind.i64.wrap (x28755 + x29375))).bind fun x29443 =>
    (cond (decide (x29375 < (x27247.Mag.length : Int)))
    ((idx x27244.Mag x28755).bind fun x29468 =>
    (idx x27247.Mag x29375).bind fun x29474 =>
    some ((IntKind.u64.wrap ((IntKind.u64.wrap ((IntKind.u64.wrap x29443) + x29374)) + (IntKind.u64.wrap ((IntKind.u64.wrap x29468) * (IntKind.u64.wrap x29474)))))))
    (some ((IntKind.u64.wrap ((IntKind.u64.wrap x29443) + x29374)))) : Option Int).bind fun x29464 =>
    (idx x29370 (IntKind.i64.wrap (x28755 + x29375))).bind fun x29481 =>
    some (.go ((upd x29370 (IntKind.i64.wrap (x28755 + x29375)) (IntKind.u32.wrap x29464)), (x29464.fdiv (2 ^ min (32 : Int).toNat (IntKind.u64).bits)), (IntKind.i64.wrap (x29375 + 1)))))
    (some (.done x29370))

def ref01_Mul_L11 (n : Nat) (x27244 : Int_2) (x27247 : Int_2) : ((List Int) × Int) → Option (Out ((List Int) × Int) (List Int))
  | (x28751, x28755) =>
    cond (decide (x28755 < (x27244.Mag.length : Int)))
    ((loopN (ref01_Mul_L13 x27244 x27247 x28755) n (x28751, 0, 0) : Option (List Int)).bind fun x29309 =>
    some (.go (x29309, (IntKind.i64.wrap (x28755 + 1)))))
    (some (.done x28751))

def ref01_Mul (n : Nat) : Int_2 → Int_2 → Option Int_2
  | x27244, x27247 =>
    (mk (IntKind.i64.wrap ((IntKind.i64.wrap ((x27244.Mag.length : Int) + (x27247.Mag.length : Int))) + 1)) 0).bind fun x27263 =>
    (loopN (ref01_Mul_L11 n x27244 x27247) n (x27263, 0) : Option (List Int)).bind fun x28379 =>
    (ref01_Norm n (Int_2.mk (!(x27244.Neg == x27247.Neg)) x28379)).bind fun x29501 =>
    some ((Int_2.mk x29501.Neg x29501.Mag))

def ref02_Add (n : Nat) : Rational → Rational → Option Rational
  | x29508, x29513 =>
    (ref02_Norm n (Rational.mk (Int_2.mk x29508.Num.Neg x29508.Num.Mag) (Int_2.mk x29508.Den.Neg x29508.Den.Mag))).bind fun x29532 =>
    (ref02_Norm n (Rational.mk (Int_2.mk x29513.Num.Neg x29513.Num.Mag) (Int_2.mk x29513.Den.Neg x29513.Den.Mag))).bind fun x29543 =>
    (ref01_Mul n (Int_2.mk x29532.Num.Neg x29532.Num.Mag) (Int_2.mk x29543.Den.Neg x29543.Den.Mag)).bind fun x29587 =>
    (ref01_Mul n (Int_2.mk x29543.Num.Neg x29543.Num.Mag) (Int_2.mk x29532.Den.Neg x29532.Den.Mag)).bind fun x29593 =>
    (ref01_Add n x29587 x29593).bind fun x29599 =>
    (ref01_Mul n (Int_2.mk x29532.Den.Neg x29532.Den.Mag) (Int_2.mk x29543.Den.Neg x29543.Den.Mag)).bind fun x29605 =>
    (ref02_New n x29599 x29605).bind fun x29611 =>
    some ((Rational.mk (Int_2.mk x29611.Num.Neg x29611.Num.Mag) (Int_2.mk x29611.Den.Neg x29611.Den.Mag)))

def rational_Neg (n : Nat) : Rational → Option Rational
  | x29620 =>
    (integer_Neg n (Int_2.mk x29620.Num.Neg x29620.Num.Mag)).bind fun x29649 =>
    (rational_New n x29649 (Int_2.mk x29620.Den.Neg x29620.Den.Mag)).bind fun x29655 =>
    some ((Rational.mk (Int_2.mk x29655.Num.Neg x29655.Num.Mag) (Int_2.mk x29655.Den.Neg x29655.Den.Mag)))

def rational_Sub (n : Nat) : Rational → Rational → Option Rational
  | x29664, x29669 =>
    (rational_Neg n (Rational.mk (Int_2.mk x29669.Num.Neg x29669.Num.Mag) (Int_2.mk x29669.Den.Neg x29669.Den.Mag))).bind fun x29705 =>
    (rational_Add n (Rational.mk (Int_2.mk x29664.Num.Neg x29664.Num.Mag) (Int_2.mk x29664.Den.Neg x29664.Den.Mag)) x29705).bind fun x29713 =>
    some ((Rational.mk (Int_2.mk x29713.Num.Neg x29713.Num.Mag) (Int_2.mk x29713.Den.Neg x29713.Den.Mag)))

def ref02_Neg (n : Nat) : Rational → Option Rational
  | x29722 =>
    (ref02_Norm n (Rational.mk (Int_2.mk x29722.Num.Neg x29722.Num.Mag) (Int_2.mk x29722.Den.Neg x29722.Den.Mag))).bind fun x29736 =>
    (ref01_Neg n (Int_2.mk x29736.Num.Neg x29736.Num.Mag)).bind fun x29762 =>
    (ref02_New n x29762 (Int_2.mk x29736.Den.Neg x29736.Den.Mag)).bind fun x29768 =>
    some ((Rational.mk (Int_2.mk x29768.Num.Neg x29768.Num.Mag) (Int_2.mk x29768.Den.Neg x29768.Den.Mag)))

def ref02_Sub (n : Nat) : Rational → Rational → Option Rational
  | x29777, x29782 =>
    (ref02_Neg n (Rational.mk (Int_2.mk x29782.Num.Neg x29782.Num.Mag) (Int_2.mk x29782.Den.Neg x29782.Den.Mag))).bind fun x29818 =>
    (ref02_Add n (Rational.mk (Int_2.mk x29777.Num.Neg x29777.Num.Mag) (Int_2.mk x29777.Den.Neg x29777.Den.Mag)) x29818).bind fun x29826 =>
    some ((Rational.mk (Int_2.mk x29826.Num.Neg x29826.Num.Mag) (Int_2.mk x29826.Den.Neg x29826.Den.Mag)))

def rational_Mul (n : Nat) : Rational → Rational → Option Rational
  | x29835, x29840 =>
    (integer_Mul n (Int_2.mk x29835.Num.Neg x29835.Num.Mag) (Int_2.mk x29840.Num.Neg x29840.Num.Mag)).bind fun x29880 =>
    (integer_Mul n (Int_2.mk x29835.Den.Neg x29835.Den.Mag) (Int_2.mk x29840.Den.Neg x29840.Den.Mag)).bind fun x29886 =>
    (rational_New n x29880 x29886).bind fun x29892 =>
    some ((Rational.mk (Int_2.mk x29892.Num.Neg x29892.Num.Mag) (Int_2.mk x29892.Den.Neg x29892.Den.Mag)))

def ref02_Mul (n : Nat) : Rational → Rational → Option Rational
  | x29901, x29906 =>
    (ref02_Norm n (Rational.mk (Int_2.mk x29901.Num.Neg x29901.Num.Mag) (Int_2.mk x29901.Den.Neg x29901.Den.Mag))).bind fun x29925 =>
    (ref02_Norm n (Rational.mk (Int_2.mk x29906.Num.Neg x29906.Num.Mag) (Int_2.mk x29906.Den.Neg x29906.Den.Mag))).bind fun x29936 =>
    (ref01_Mul n (Int_2.mk x29925.Num.Neg x29925.Num.Mag) (Int_2.mk x29936.Num.Neg x29936.Num.Mag)).bind fun x29968 =>
    (ref01_Mul n (Int_2.mk x29925.Den.Neg x29925.Den.Mag) (Int_2.mk x29936.Den.Neg x29936.Den.Mag)).bind fun x29974 =>
    (ref02_New n x29968 x29974).bind fun x29980 =>
    some ((Rational.mk (Int_2.mk x29980.Num.Neg x29980.Num.Mag) (Int_2.mk x29980.Den.Neg x29980.Den.Mag)))

def law02_RationalSums (n : Nat) : Rational → Rational → Option Bool
  | x29989, x29994 =>
    ((law02_awake n ).bind fun x30052 =>
    cond (!x30052)
    (some ((x29989.Num.Mag, x29989.Den.Mag, x29994.Num.Mag, x29994.Den.Mag, true)))
    ((law02_few n [(Rational.mk (Int_2.mk x29989.Num.Neg x29989.Num.Mag) (Int_2.mk x29989.Den.Neg x29989.Den.Mag)), (Rational.mk (Int_2.mk x29994.Num.Neg x29994.Num.Mag) (Int_2.mk x29994.Den.Neg x29994.Den.Mag))]).bind fun x30075 =>
    some ((x29989.Num.Mag, x29989.Den.Mag, x29994.Num.Mag, x29994.Den.Mag, (!x30075)))) : Option ((List Int) × (List Int) × (List Int) × (List Int) × Bool)).bind fun (x30035, x30038, x30041, x30044, x30047) =>
    cond x30047
    ((law02_awake n ).bind fun x30078 =>
    some (x30078))
    (((rational_Add n (Rational.mk (Int_2.mk x29989.Num.Neg x30035) (Int_2.mk x29989.Den.Neg x30038)) (Rational.mk (Int_2.mk x29994.Num.Neg x30041) (Int_2.mk x29994.Den.Neg x30044))).bind fun x30314 =>
    (ref02_Add n (Rational.mk (Int_2.mk x29989.Num.Neg x30035) (Int_2.mk x29989.Den.Neg x30038)) (Rational.mk (Int_2.mk x29994.Num.Neg x30041) (Int_2.mk x29994.Den.Neg x30044))).bind fun x30322 =>
    (base_Rational n x30314 x30322).bind fun x30330 =>
    cond x30330
    ((rational_Sub n (Rational.mk (Int_2.mk x29989.Num.Neg x30035) (Int_2.mk x29989.Den.Neg x30038)) (Rational.mk (Int_2.mk x29994.Num.Neg x30041) (Int_2.mk x29994.Den.Neg x30044))).bind fun x30333 =>
    (ref02_Sub n (Rational.mk (Int_2.mk x29989.Num.Neg x30035) (Int_2.mk x29989.Den.Neg x30038)) (Rational.mk (Int_2.mk x29994.Num.Neg x30041) (Int_2.mk x29994.Den.Neg x30044))).bind fun x30341 =>
    (base_Rational n x30333 x30341).bind fun x30349 =>
    cond x30349
    ((rational_Mul n (Rational.mk (Int_2.mk x29989.Num.Neg x30035) (Int_2.mk x29989.Den.Neg x30038)) (Rational.mk (Int_2.mk x29994.Num.Neg x30041) (Int_2.mk x29994.Den.Neg x30044))).bind fun x30352 =>
    (ref02_Mul n (Rational.mk (Int_2.mk x29989.Num.Neg x30035) (Int_2.mk x29989.Den.Neg x30038)) (Rational.mk (Int_2.mk x29994.Num.Neg x30041) (Int_2.mk x29994.Den.Neg x30044))).bind fun x30360 =>
    (base_Rational n x30352 x30360).bind fun x30368 =>
    cond x30368
    ((rational_Neg n (Rational.mk (Int_2.mk x29989.Num.Neg x30035) (Int_2.mk x29989.Den.Neg x30038))).bind fun x30371 =>
    (ref02_Neg n (Rational.mk (Int_2.mk x29989.Num.Neg x30035) (Int_2.mk x29989.Den.Neg x30038))).bind fun x30379 =>
    (base_Rational n x30371 x30379).bind fun x30387 =>
    some (x30387))
    (some (false)))
    (some (false)))
    (some (false)) : Option Bool).bind fun x30233 =>
    some (x30233))

def rational_Div (n : Nat) : Rational → Rational → Option (Rational × Int)
  | x30390, x30395 =>
    (rational_Norm n (Rational.mk (Int_2.mk x30395.Num.Neg x30395.Num.Mag) (Int_2.mk x30395.Den.Neg x30395.Den.Mag))).bind fun x30411 =>
    (integer_Sign n (Int_2.mk x30411.Num.Neg x30411.Num.Mag)).bind fun x30420 =>
    cond (x30420 == 0)
    (some (((Rational.mk (Int_2.mk false []) (Int_2.mk false [])), 10)))
    ((rational_Mul n (Rational.mk (Int_2.mk x30390.Num.Neg x30390.Num.Mag) (Int_2.mk x30390.Den.Neg x30390.Den.Mag)) (Rational.mk (Int_2.mk x30411.Den.Neg x30411.Den.Mag) (Int_2.mk x30411.Num.Neg x30411.Num.Mag))).bind fun x30432 =>
    some (((Rational.mk (Int_2.mk x30432.Num.Neg x30432.Num.Mag) (Int_2.mk x30432.Den.Neg x30432.Den.Mag)), 0)))

def law02_RationalField (n : Nat) : Rational → Rational → Rational → Option Bool
  | x30753, x30758, x30763 =>
    ((law02_awake n ).bind fun x30840 =>
    cond (!x30840)
    (some ((x30753.Num.Mag, x30753.Den.Mag, x30758.Num.Mag, x30758.Den.Mag, x30763.Num.Mag, x30763.Den.Mag, true)))
    ((law02_few n [(Rational.mk (Int_2.mk x30753.Num.Neg x30753.Num.Mag) (Int_2.mk x30753.Den.Neg x30753.Den.Mag)), (Rational.mk (Int_2.mk x30758.Num.Neg x30758.Num.Mag) (Int_2.mk x30758.Den.Neg x30758.Den.Mag)), (Rational.mk (Int_2.mk x30763.Num.Neg x30763.Num.Mag) (Int_2.mk x30763.Den.Neg x30763.Den.Mag))]).bind fun x30871 =>
    some ((x30753.Num.Mag, x30753.Den.Mag, x30758.Num.Mag, x30758.Den.Mag, x30763.Num.Mag, x30763.Den.Mag, (!x30871)))) : Option ((List Int) × (List Int) × (List Int) × (List Int) × (List Int) × (List Int) × Bool)).bind fun (x30817, x30820, x30823, x30826, x30829, x30832, x30835) =>
    cond x30835
    ((law02_awake n ).bind fun x30874 =>
    some (x30874))
    (((rational_Add n (Rational.mk (Int_2.mk x30753.Num.Neg x30817) (Int_2.mk x30753.Den.Neg x30820)) (Rational.mk (Int_2.mk x30758.Num.Neg x30823) (Int_2.mk x30758.Den.Neg x30826))).bind fun x31463 =>
    (rational_Mul n (Rational.mk (Int_2.mk x30753.Num.Neg x30817) (Int_2.mk x30753.Den.Neg x30820)) (Rational.mk (Int_2.mk x30758.Num.Neg x30823) (Int_2.mk x30758.Den.Neg x30826))).bind fun x31471 =>
    some ((x31463.Num.Neg, x31463.Num.Mag, x31463.Den.Neg, x31463.Den.Mag, x31471.Num.Neg, x31471.Num.Mag, x31471.Den.Neg, x31471.Den.Mag)) : Option (Bool × (List Int) × Bool × (List Int) × Bool × (List Int) × Bool × (List Int))).bind fun (x31254, x31255, x31258, x31259, x31263, x31264, x31267, x31268) =>
    ((rational_Add n (Rational.mk (Int_2.mk x30758.Num.Neg x30823) (Int_2.mk x30758.Den.Neg x30826)) (Rational.mk (Int_2.mk x30753.Num.Neg x30817) (Int_2.mk x30753.Den.Neg x30820))).bind fun x31722 =>
    (base_Rational n (Rational.mk (Int_2.mk x31254 x31255) (Int_2.mk x31258 x31259)) x31722).bind fun x31730 =>
    cond (!x31730)
    (some (true))
    ((rational_Mul n (Rational.mk (Int_2.mk x30758.Num.Neg x30823) (Int_2.mk x30758.Den.Neg x30826)) (Rational.mk (Int_2.mk x30753.Num.Neg x30817) (Int_2.mk x30753.Den.Neg x30820))).bind fun x31733 =>
    (base_Rational n (Rational.mk (Int_2.mk x31263 x31264) (Int_2.mk x31267 x31268)) x31733).bind fun x31741 =>
    some ((!x31741))) : Option Bool).bind fun x31695 =>
    cond x31695
    (some (false))
    (((rational_Add n (Rational.mk (Int_2.mk x31254 x31255) (Int_2.mk x31258 x31259)) (Rational.mk (Int_2.mk x30763.Num.Neg x30829) (Int_2.mk x30763.Den.Neg x30832))).bind fun x31911 =>
    (rational_Add n (Rational.mk (Int_2.mk x30758.Num.Neg x30823) (Int_2.mk x30758.Den.Neg x30826)) (Rational.mk (Int_2.mk x30763.Num.Neg x30829) (Int_2.mk x30763.Den.Neg x30832))).bind fun x31919 =>
    (rational_Add n (Rational.mk (Int_2.mk x30753.Num.Neg x30817) (Int_2.mk x30753.Den.Neg x30820)) x31919).bind fun x31927 =>
    (base_Rational n x31911 x31927).bind fun x31935 =>
    cond (!x31935)
    (some (true))
    ((rational_Mul n (Rational.mk (Int_2.mk x31263 x31264) (Int_2.mk x31267 x31268)) (Rational.mk (Int_2.mk x30763.Num.Neg x30829) (Int_2.mk x30763.Den.Neg x30832))).bind fun x31938 =>
    (rational_Mul n (Rational.mk (Int_2.mk x30758.Num.Neg x30823) (Int_2.mk x30758.Den.Neg x30826)) (Rational.mk (Int_2.mk x30763.Num.Neg x30829) (Int_2.mk x30763.Den.Neg x30832))).bind fun x31946 =>
    (rational_Mul n (Rational.mk (Int_2.mk x30753.Num.Neg x30817) (Int_2.mk x30753.Den.Neg x30820)) x31946).bind fun x31954 =>
    (base_Rational n x31938 x31954).bind fun x31962 =>
    some ((!x31962))) : Option Bool).bind fun x31852 =>
    cond x31852
    (some (false))
    (((rational_Mul n (Rational.mk (Int_2.mk x31254 x31255) (Int_2.mk x31258 x31259)) (Rational.mk (Int_2.mk x30763.Num.Neg x30829) (Int_2.mk x30763.Den.Neg x30832))).bind fun x32132 =>
    (rational_Mul n (Rational.mk (Int_2.mk x30753.Num.Neg x30817) (Int_2.mk x30753.Den.Neg x30820)) (Rational.mk (Int_2.mk x30763.Num.Neg x30829) (Int_2.mk x30763.Den.Neg x30832))).bind fun x32140 =>
    (rational_Mul n (Rational.mk (Int_2.mk x30758.Num.Neg x30823) (Int_2.mk x30758.Den.Neg x30826)) (Rational.mk (Int_2.mk x30763.Num.Neg x30829) (Int_2.mk x30763.Den.Neg x30832))).bind fun x32148 =>
    (rational_Add n x32140 x32148).bind fun x32156 =>
    (base_Rational n x32132 x32156).bind fun x32164 =>
    cond (!x32164)
    (some (true))
    ((rational_Sub n (Rational.mk (Int_2.mk x31254 x31255) (Int_2.mk x31258 x31259)) (Rational.mk (Int_2.mk x30758.Num.Neg x30823) (Int_2.mk x30758.Den.Neg x30826))).bind fun x32167 =>
    (rational_Norm n (Rational.mk (Int_2.mk x30753.Num.Neg x30817) (Int_2.mk x30753.Den.Neg x30820))).bind fun x32175 =>
    (base_Rational n x32167 x32175).bind fun x32183 =>
    some ((!x32183))) : Option Bool).bind fun x32073 =>
    cond x32073
    (some (false))
    ((rational_Div n (Rational.mk (Int_2.mk x31263 x31264) (Int_2.mk x31267 x31268)) (Rational.mk (Int_2.mk x30758.Num.Neg x30823) (Int_2.mk x30758.Den.Neg x30826))).bind fun (x32186, x32187) =>
    (rational_Sign n (Rational.mk (Int_2.mk x30758.Num.Neg x30823) (Int_2.mk x30758.Den.Neg x30826))).bind fun x32198 =>
    cond (x32198 == 0)
    (some ((x32187 == 10)))
    ((cond (x32187 == 0)
    ((rational_Norm n (Rational.mk (Int_2.mk x30753.Num.Neg x30817) (Int_2.mk x30753.Den.Neg x30820))).bind fun x32239 =>
    (base_Rational n (Rational.mk (Int_2.mk x32186.Num.Neg x32186.Num.Mag) (Int_2.mk x32186.Den.Neg x32186.Den.Mag)) x32239).bind fun x32247 =>
    some (x32247))
    (some (false)) : Option Bool).bind fun x32223 =>
    some (x32223))))))

def rational_Cmp (n : Nat) : Rational → Rational → Option Int
  | x32250, x32255 =>
    (rational_Norm n (Rational.mk (Int_2.mk x32250.Num.Neg x32250.Num.Mag) (Int_2.mk x32250.Den.Neg x32250.Den.Mag))).bind fun x32282 =>
    (rational_Norm n (Rational.mk (Int_2.mk x32255.Num.Neg x32255.Num.Mag) (Int_2.mk x32255.Den.Neg x32255.Den.Mag))).bind fun x32290 =>
    (integer_Mul n (Int_2.mk x32282.Num.Neg x32282.Num.Mag) (Int_2.mk x32290.Den.Neg x32290.Den.Mag)).bind fun x32315 =>
    (integer_Mul n (Int_2.mk x32290.Num.Neg x32290.Num.Mag) (Int_2.mk x32282.Den.Neg x32282.Den.Mag)).bind fun x32321 =>
    (integer_Cmp n x32315 x32321).bind fun x32327 =>
    some (x32327)

def rational_Floor (n : Nat) : Rational → Option Int_2
  | x32330 =>
    (rational_Norm n (Rational.mk (Int_2.mk x32330.Num.Neg x32330.Num.Mag) (Int_2.mk x32330.Den.Neg x32330.Den.Mag))).bind fun x32340 =>
    (integer_DivMod n (Int_2.mk x32340.Num.Neg x32340.Num.Mag) (Int_2.mk x32340.Den.Neg x32340.Den.Mag)).bind fun (x32349, x32350, x32351) =>
    some ((Int_2.mk x32349.Neg x32349.Mag))

def rational_Whole (n : Nat) : Rational → Option (Int_2 × Bool)
  | x32366 =>
    (rational_Norm n (Rational.mk (Int_2.mk x32366.Num.Neg x32366.Num.Mag) (Int_2.mk x32366.Den.Neg x32366.Den.Mag))).bind fun x32376 =>
    (rational_one n (Int_2.mk x32376.Den.Neg x32376.Den.Mag)).bind fun x32385 =>
    cond (!x32385)
    (some (((Int_2.mk false []), false)))
    (some (((Int_2.mk x32376.Num.Neg x32376.Num.Mag), true)))

def law02_RationalOrder (n : Nat) : Rational → Rational → Rational → Option Bool
  | x32390, x32395, x32400 =>
    ((law02_awake n ).bind fun x32477 =>
    cond (!x32477)
    (some ((x32390.Num.Mag, x32390.Den.Mag, x32395.Num.Mag, x32395.Den.Mag, x32400.Num.Mag, x32400.Den.Mag, true)))
    ((law02_few n [(Rational.mk (Int_2.mk x32390.Num.Neg x32390.Num.Mag) (Int_2.mk x32390.Den.Neg x32390.Den.Mag)), (Rational.mk (Int_2.mk x32395.Num.Neg x32395.Num.Mag) (Int_2.mk x32395.Den.Neg x32395.Den.Mag)), (Rational.mk (Int_2.mk x32400.Num.Neg x32400.Num.Mag) (Int_2.mk x32400.Den.Neg x32400.Den.Mag))]).bind fun x32508 =>
    some ((x32390.Num.Mag, x32390.Den.Mag, x32395.Num.Mag, x32395.Den.Mag, x32400.Num.Mag, x32400.Den.Mag, (!x32508)))) : Option ((List Int) × (List Int) × (List Int) × (List Int) × (List Int) × (List Int) × Bool)).bind fun (x32454, x32457, x32460, x32463, x32466, x32469, x32472) =>
    cond x32472
    ((law02_awake n ).bind fun x32511 =>
    some (x32511))
    ((rational_Cmp n (Rational.mk (Int_2.mk x32390.Num.Neg x32454) (Int_2.mk x32390.Den.Neg x32457)) (Rational.mk (Int_2.mk x32395.Num.Neg x32460) (Int_2.mk x32395.Den.Neg x32463))).bind fun x32514 =>
    (cond (decide (x32514 < (-1)))
    (some (true))
    (cond (decide (x32514 > 1))
    (some (true))
    ((rational_Cmp n (Rational.mk (Int_2.mk x32395.Num.Neg x32460) (Int_2.mk x32395.Den.Neg x32463)) (Rational.mk (Int_2.mk x32390.Num.Neg x32454) (Int_2.mk x32390.Den.Neg x32457))).bind fun x32654 =>
    cond (x32654 != (IntKind.i64.wrap (0 - x32514)))
    (some (true))
    ((rational_Add n (Rational.mk (Int_2.mk x32390.Num.Neg x32454) (Int_2.mk x32390.Den.Neg x32457)) (Rational.mk (Int_2.mk x32400.Num.Neg x32466) (Int_2.mk x32400.Den.Neg x32469))).bind fun x32657 =>
    (rational_Add n (Rational.mk (Int_2.mk x32395.Num.Neg x32460) (Int_2.mk x32395.Den.Neg x32463)) (Rational.mk (Int_2.mk x32400.Num.Neg x32466) (Int_2.mk x32400.Den.Neg x32469))).bind fun x32665 =>
    (rational_Cmp n x32657 x32665).bind fun x32673 =>
    cond (x32673 != x32514)
    (some (true))
    ((rational_Mul n (Rational.mk (Int_2.mk x32390.Num.Neg x32454) (Int_2.mk x32390.Den.Neg x32457)) (Rational.mk (Int_2.mk x32400.Num.Neg x32466) (Int_2.mk x32400.Den.Neg x32469))).bind fun x32676 =>
    (rational_Mul n (Rational.mk (Int_2.mk x32395.Num.Neg x32460) (Int_2.mk x32395.Den.Neg x32463)) (Rational.mk (Int_2.mk x32400.Num.Neg x32466) (Int_2.mk x32400.Den.Neg x32469))).bind fun x32684 =>
    (rational_Cmp n x32676 x32684).bind fun x32692 =>
    (rational_Sign n (Rational.mk (Int_2.mk x32400.Num.Neg x32466) (Int_2.mk x32400.Den.Neg x32469))).bind fun x32695 =>
    some ((x32692 != (IntKind.i64.wrap (x32514 * x32695)))))))) : Option Bool).bind fun x32605 =>
    cond x32605
    (some (false))
    ((rational_Floor n (Rational.mk (Int_2.mk x32390.Num.Neg x32454) (Int_2.mk x32390.Den.Neg x32457))).bind fun x32698 =>
    cond (decide ((x32698.Mag.length : Int) > 200))
    (some (false))
    ((rational_Whole n (Rational.mk (Int_2.mk x32390.Num.Neg x32454) (Int_2.mk x32390.Den.Neg x32457))).bind fun (x32719, x32720) =>
    ((rational_Cmp n (Rational.mk (Int_2.mk x32698.Neg x32698.Mag) (Int_2.mk false [1])) (Rational.mk (Int_2.mk x32390.Num.Neg x32454) (Int_2.mk x32390.Den.Neg x32457))).bind fun x32809 =>
    cond (decide (x32809 ≤ 0))
    ((rational_Of n 1 1).bind fun x32812 =>
    (rational_Add n (Rational.mk (Int_2.mk x32698.Neg x32698.Mag) (Int_2.mk false [1])) x32812).bind fun x32820 =>
    (rational_Cmp n (Rational.mk (Int_2.mk x32390.Num.Neg x32454) (Int_2.mk x32390.Den.Neg x32457)) x32820).bind fun x32828 =>
    cond (decide (x32828 < 0))
    ((rational_Cmp n (Rational.mk (Int_2.mk x32698.Neg x32698.Mag) (Int_2.mk false [1])) (Rational.mk (Int_2.mk x32390.Num.Neg x32454) (Int_2.mk x32390.Den.Neg x32457))).bind fun x32831 =>
    some ((x32720 == (x32831 == 0))))
    (some (false)))
    (some (false)) : Option Bool).bind fun x32779 =>
    some (x32779))))

def rational_Has (n : Nat) : Interval → Rational → Option Bool
  | x32834, x32843 =>
    ((rational_Cmp n (Rational.mk (Int_2.mk x32834.Lo.Num.Neg x32834.Lo.Num.Mag) (Int_2.mk x32834.Lo.Den.Neg x32834.Lo.Den.Mag)) (Rational.mk (Int_2.mk x32843.Num.Neg x32843.Num.Mag) (Int_2.mk x32843.Den.Neg x32843.Den.Mag))).bind fun x32868 =>
    cond (decide (x32868 ≤ 0))
    ((rational_Cmp n (Rational.mk (Int_2.mk x32843.Num.Neg x32843.Num.Mag) (Int_2.mk x32843.Den.Neg x32843.Den.Mag)) (Rational.mk (Int_2.mk x32834.Hi.Num.Neg x32834.Hi.Num.Mag) (Int_2.mk x32834.Hi.Den.Neg x32834.Hi.Den.Mag))).bind fun x32871 =>
    some ((decide (x32871 ≤ 0))))
    (some (false)) : Option Bool).bind fun x32864 =>
    some (x32864)

def rational_empty (n : Nat) : Interval → Option Bool
  | x32874 =>
    (rational_Cmp n (Rational.mk (Int_2.mk x32874.Lo.Num.Neg x32874.Lo.Num.Mag) (Int_2.mk x32874.Lo.Den.Neg x32874.Lo.Den.Mag)) (Rational.mk (Int_2.mk x32874.Hi.Num.Neg x32874.Hi.Num.Mag) (Int_2.mk x32874.Hi.Den.Neg x32874.Hi.Den.Mag))).bind fun x32888 =>
    some ((decide (x32888 > 0)))

def rational_Meet (n : Nat) : Interval → Interval → Option (Interval × Bool)
  | x33022, x33031 =>
    ((rational_Norm n (Rational.mk (Int_2.mk x33022.Lo.Num.Neg x33022.Lo.Num.Mag) (Int_2.mk x33022.Lo.Den.Neg x33022.Lo.Den.Mag))).bind fun x33368 =>
    (rational_Norm n (Rational.mk (Int_2.mk x33022.Hi.Num.Neg x33022.Hi.Num.Mag) (Int_2.mk x33022.Hi.Den.Neg x33022.Hi.Den.Mag))).bind fun x33376 =>
    some ((x33368.Num.Neg, x33368.Num.Mag, x33368.Den.Neg, x33368.Den.Mag, x33376.Num.Neg, x33376.Num.Mag, x33376.Den.Neg, x33376.Den.Mag)) : Option (Bool × (List Int) × Bool × (List Int) × Bool × (List Int) × Bool × (List Int))).bind fun (x33251, x33252, x33255, x33256, x33259, x33260, x33263, x33264) =>
    ((rational_Cmp n (Rational.mk (Int_2.mk x33031.Lo.Num.Neg x33031.Lo.Num.Mag) (Int_2.mk x33031.Lo.Den.Neg x33031.Lo.Den.Mag)) (Rational.mk (Int_2.mk x33251 x33252) (Int_2.mk x33255 x33256))).bind fun x33489 =>
    cond (decide (x33489 > 0))
    ((rational_Norm n (Rational.mk (Int_2.mk x33031.Lo.Num.Neg x33031.Lo.Num.Mag) (Int_2.mk x33031.Lo.Den.Neg x33031.Lo.Den.Mag))).bind fun x33492 =>
    some ((x33492.Num.Neg, x33492.Num.Mag, x33492.Den.Neg, x33492.Den.Mag)))
    (some ((x33251, x33252, x33255, x33256))) : Option (Bool × (List Int) × Bool × (List Int))).bind fun (x33477, x33478, x33481, x33482) =>
    ((rational_Cmp n (Rational.mk (Int_2.mk x33031.Hi.Num.Neg x33031.Hi.Num.Mag) (Int_2.mk x33031.Hi.Den.Neg x33031.Hi.Den.Mag)) (Rational.mk (Int_2.mk x33259 x33260) (Int_2.mk x33263 x33264))).bind fun x33525 =>
    cond (decide (x33525 < 0))
    ((rational_Norm n (Rational.mk (Int_2.mk x33031.Hi.Num.Neg x33031.Hi.Num.Mag) (Int_2.mk x33031.Hi.Den.Neg x33031.Hi.Den.Mag))).bind fun x33528 =>
    some ((x33528.Num.Neg, x33528.Num.Mag, x33528.Den.Neg, x33528.Den.Mag)))
    (some ((x33259, x33260, x33263, x33264))) : Option (Bool × (List Int) × Bool × (List Int))).bind fun (x33513, x33514, x33517, x33518) =>
    (rational_empty n (Interval.mk (Rational.mk (Int_2.mk x33477 x33478) (Int_2.mk x33481 x33482)) (Rational.mk (Int_2.mk x33513 x33514) (Int_2.mk x33517 x33518)))).bind fun x33537 =>
    cond x33537
    (some (((Interval.mk (Rational.mk (Int_2.mk false []) (Int_2.mk false [])) (Rational.mk (Int_2.mk false []) (Int_2.mk false []))), false)))
    (some (((Interval.mk (Rational.mk (Int_2.mk x33477 x33478) (Int_2.mk x33481 x33482)) (Rational.mk (Int_2.mk x33513 x33514) (Int_2.mk x33517 x33518))), true)))

def rational_Plus (n : Nat) : Interval → Interval → Option (Interval × Int)
  | x33542, x33551 =>
    ((rational_empty n (Interval.mk (Rational.mk (Int_2.mk x33542.Lo.Num.Neg x33542.Lo.Num.Mag) (Int_2.mk x33542.Lo.Den.Neg x33542.Lo.Den.Mag)) (Rational.mk (Int_2.mk x33542.Hi.Num.Neg x33542.Hi.Num.Mag) (Int_2.mk x33542.Hi.Den.Neg x33542.Hi.Den.Mag)))).bind fun x33586 =>
    cond x33586
    (some (true))
    ((rational_empty n (Interval.mk (Rational.mk (Int_2.mk x33551.Lo.Num.Neg x33551.Lo.Num.Mag) (Int_2.mk x33551.Lo.Den.Neg x33551.Lo.Den.Mag)) (Rational.mk (Int_2.mk x33551.Hi.Num.Neg x33551.Hi.Num.Mag) (Int_2.mk x33551.Hi.Den.Neg x33551.Hi.Den.Mag)))).bind fun x33589 =>
    some (x33589)) : Option Bool).bind fun x33582 =>
    cond x33582
    (some (((Interval.mk (Rational.mk (Int_2.mk false []) (Int_2.mk false [])) (Rational.mk (Int_2.mk false []) (Int_2.mk false []))), 2)))
    ((rational_Add n (Rational.mk (Int_2.mk x33542.Lo.Num.Neg x33542.Lo.Num.Mag) (Int_2.mk x33542.Lo.Den.Neg x33542.Lo.Den.Mag)) (Rational.mk (Int_2.mk x33551.Lo.Num.Neg x33551.Lo.Num.Mag) (Int_2.mk x33551.Lo.Den.Neg x33551.Lo.Den.Mag))).bind fun x33626 =>
    (rational_Add n (Rational.mk (Int_2.mk x33542.Hi.Num.Neg x33542.Hi.Num.Mag) (Int_2.mk x33542.Hi.Den.Neg x33542.Hi.Den.Mag)) (Rational.mk (Int_2.mk x33551.Hi.Num.Neg x33551.Hi.Num.Mag) (Int_2.mk x33551.Hi.Den.Neg x33551.Hi.Den.Mag))).bind fun x33634 =>
    some (((Interval.mk (Rational.mk (Int_2.mk x33626.Num.Neg x33626.Num.Mag) (Int_2.mk x33626.Den.Neg x33626.Den.Mag)) (Rational.mk (Int_2.mk x33634.Num.Neg x33634.Num.Mag) (Int_2.mk x33634.Den.Neg x33634.Den.Mag))), 0)))

def rational_Times_L1 (n : Nat) (x34220 : Rational) (x34228 : Rational) (x34236 : Rational) : (Bool × (List Int) × Bool × (List Int) × Bool × (List Int) × Bool × (List Int) × Int) → Option (Out (Bool × (List Int) × Bool × (List Int) × Bool × (List Int) × Bool × (List Int) × Int) (Bool × (List Int) × Bool × (List Int) × Bool × (List Int) × Bool × (List Int)))
  | (x34363, x34364, x34367, x34368, x34371, x34372, x34375, x34376, x34379) =>
    cond (decide (x34379 < ([x34220, x34228, x34236].length : Int)))
    (((idx [x34220, x34228, x34236] x34379).bind fun x34547 =>
    ((rational_Cmp n (Rational.mk (Int_2.mk x34547.Num.Neg x34547.Num.Mag) (Int_2.mk x34547.Den.Neg x34547.Den.Mag)) (Rational.mk (Int_2.mk x34363 x34364) (Int_2.mk x34367 x34368))).bind fun x34575 =>
    cond (decide (x34575 < 0))
    (some ((x34547.Num.Neg, x34547.Num.Mag, x34547.Den.Neg, x34547.Den.Mag)))
    (some ((x34363, x34364, x34367, x34368))) : Option (Bool × (List Int) × Bool × (List Int))).bind fun (x34564, x34565, x34568, x34569) =>
    (rational_Cmp n (Rational.mk (Int_2.mk x34547.Num.Neg x34547.Num.Mag) (Int_2.mk x34547.Den.Neg x34547.Den.Mag)) (Rational.mk (Int_2.mk x34371 x34372) (Int_2.mk x34375 x34376))).bind fun x34579 =>
    cond (decide (x34579 > 0))
    (some ((x34564, x34565, x34568, x34569, x34547.Num.Neg, x34547.Num.Mag, x34547.Den.Neg, x34547.Den.Mag)))
    (some ((x34564, x34565, x34568, x34569, x34371, x34372, x34375, x34376))) : Option (Bool × (List Int) × Bool × (List Int) × Bool × (List Int) × Bool × (List Int))).bind fun (x34528, x34529, x34532, x34533, x34536, x34537, x34540, x34541) =>
    some (.go (x34528, x34529, x34532, x34533, x34536, x34537, x34540, x34541, (IntKind.i64.wrap (x34379 + 1)))))
    (some (.done (x34363, x34364, x34367, x34368, x34371, x34372, x34375, x34376)))

def rational_Times (n : Nat) : Interval → Interval → Option (Interval × Int)
  | x33659, x33668 =>
    ((rational_empty n (Interval.mk (Rational.mk (Int_2.mk x33659.Lo.Num.Neg x33659.Lo.Num.Mag) (Int_2.mk x33659.Lo.Den.Neg x33659.Lo.Den.Mag)) (Rational.mk (Int_2.mk x33659.Hi.Num.Neg x33659.Hi.Num.Mag) (Int_2.mk x33659.Hi.Den.Neg x33659.Hi.Den.Mag)))).bind fun x33703 =>
    cond x33703
    (some (true))
    ((rational_empty n (Interval.mk (Rational.mk (Int_2.mk x33668.Lo.Num.Neg x33668.Lo.Num.Mag) (Int_2.mk x33668.Lo.Den.Neg x33668.Lo.Den.Mag)) (Rational.mk (Int_2.mk x33668.Hi.Num.Neg x33668.Hi.Num.Mag) (Int_2.mk x33668.Hi.Den.Neg x33668.Hi.Den.Mag)))).bind fun x33706 =>
    some (x33706)) : Option Bool).bind fun x33699 =>
    cond x33699
    (some (((Interval.mk (Rational.mk (Int_2.mk false []) (Int_2.mk false [])) (Rational.mk (Int_2.mk false []) (Int_2.mk false []))), 2)))
    ((rational_Mul n (Rational.mk (Int_2.mk x33659.Lo.Num.Neg x33659.Lo.Num.Mag) (Int_2.mk x33659.Lo.Den.Neg x33659.Lo.Den.Mag)) (Rational.mk (Int_2.mk x33668.Lo.Num.Neg x33668.Lo.Num.Mag) (Int_2.mk x33668.Lo.Den.Neg x33668.Lo.Den.Mag))).bind fun x33710 =>
    ((rational_Mul n (Rational.mk (Int_2.mk x33659.Lo.Num.Neg x33659.Lo.Num.Mag) (Int_2.mk x33659.Lo.Den.Neg x33659.Lo.Den.Mag)) (Rational.mk (Int_2.mk x33668.Hi.Num.Neg x33668.Hi.Num.Mag) (Int_2.mk x33668.Hi.Den.Neg x33668.Hi.Den.Mag))).bind fun x34220 =>
    (rational_Mul n (Rational.mk (Int_2.mk x33659.Hi.Num.Neg x33659.Hi.Num.Mag) (Int_2.mk x33659.Hi.Den.Neg x33659.Hi.Den.Mag)) (Rational.mk (Int_2.mk x33668.Lo.Num.Neg x33668.Lo.Num.Mag) (Int_2.mk x33668.Lo.Den.Neg x33668.Lo.Den.Mag))).bind fun x34228 =>
    (rational_Mul n (Rational.mk (Int_2.mk x33659.Hi.Num.Neg x33659.Hi.Num.Mag) (Int_2.mk x33659.Hi.Den.Neg x33659.Hi.Den.Mag)) (Rational.mk (Int_2.mk x33668.Hi.Num.Neg x33668.Hi.Num.Mag) (Int_2.mk x33668.Hi.Den.Neg x33668.Hi.Den.Mag))).bind fun x34236 =>
    loopN (rational_Times_L1 n x34220 x34228 x34236) n (x33710.Num.Neg, x33710.Num.Mag, x33710.Den.Neg, x33710.Den.Mag, x33710.Num.Neg, x33710.Num.Mag, x33710.Den.Neg, x33710.Den.Mag, 0) : Option (Bool × (List Int) × Bool × (List Int) × Bool × (List Int) × Bool × (List Int))).bind fun (x34148, x34149, x34152, x34153, x34156, x34157, x34160, x34161) =>
    (rational_Norm n (Rational.mk (Int_2.mk x34148 x34149) (Int_2.mk x34152 x34153))).bind fun x34602 =>
    (rational_Norm n (Rational.mk (Int_2.mk x34156 x34157) (Int_2.mk x34160 x34161))).bind fun x34610 =>
    some (((Interval.mk (Rational.mk (Int_2.mk x34602.Num.Neg x34602.Num.Mag) (Int_2.mk x34602.Den.Neg x34602.Den.Mag)) (Rational.mk (Int_2.mk x34610.Num.Neg x34610.Num.Mag) (Int_2.mk x34610.Den.Neg x34610.Den.Mag))), 0)))

def law02_RationalEncloses (n : Nat) : Interval → Interval → (List Rational) → Option Bool
  | x34686, x34695, x34704 =>
    (idx x34704 0).bind fun x34719 =>
    (idx x34704 1).bind fun x34721 =>
    (some ((x34719.Num.Neg, x34719.Num.Mag, x34719.Den.Neg, x34719.Den.Mag, x34721.Num.Neg, x34721.Num.Mag, x34721.Den.Neg, x34721.Den.Mag)) : Option (Bool × (List Int) × Bool × (List Int) × Bool × (List Int) × Bool × (List Int))).bind fun (x34764, x34765, x34768, x34769, x34773, x34774, x34777, x34778) =>
    ((law02_awake n ).bind fun x34907 =>
    cond (!x34907)
    (some ((x34686.Lo.Num.Mag, x34686.Lo.Den.Mag, x34686.Hi.Num.Mag, x34686.Hi.Den.Mag, x34695.Lo.Num.Mag, x34695.Lo.Den.Mag, x34695.Hi.Num.Mag, x34695.Hi.Den.Mag, x34765, x34769, x34774, x34778, true)))
    ((law02_few n [(Rational.mk (Int_2.mk x34686.Lo.Num.Neg x34686.Lo.Num.Mag) (Int_2.mk x34686.Lo.Den.Neg x34686.Lo.Den.Mag)), (Rational.mk (Int_2.mk x34686.Hi.Num.Neg x34686.Hi.Num.Mag) (Int_2.mk x34686.Hi.Den.Neg x34686.Hi.Den.Mag)), (Rational.mk (Int_2.mk x34695.Lo.Num.Neg x34695.Lo.Num.Mag) (Int_2.mk x34695.Lo.Den.Neg x34695.Lo.Den.Mag)), (Rational.mk (Int_2.mk x34695.Hi.Num.Neg x34695.Hi.Num.Mag) (Int_2.mk x34695.Hi.Den.Neg x34695.Hi.Den.Mag)), (Rational.mk (Int_2.mk x34764 x34765) (Int_2.mk x34768 x34769)), (Rational.mk (Int_2.mk x34773 x34774) (Int_2.mk x34777 x34778))]).bind fun x34962 =>
    some ((x34686.Lo.Num.Mag, x34686.Lo.Den.Mag, x34686.Hi.Num.Mag, x34686.Hi.Den.Mag, x34695.Lo.Num.Mag, x34695.Lo.Den.Mag, x34695.Hi.Num.Mag, x34695.Hi.Den.Mag, x34765, x34769, x34774, x34778, (!x34962)))) : Option ((List Int) × (List Int) × (List Int) × (List Int) × (List Int) × (List Int) × (List Int) × (List Int) × (List Int) × (List Int) × (List Int) × (List Int) × Bool)).bind fun (x34866, x34869, x34872, x34875, x34878, x34881, x34884, x34887, x34890, x34893, x34896, x34899, x34902) =>
    cond x34902
    ((law02_awake n ).bind fun x34965 =>
    some (x34965))
    ((rational_Has n (Interval.mk (Rational.mk (Int_2.mk x34686.Lo.Num.Neg x34866) (Int_2.mk x34686.Lo.Den.Neg x34869)) (Rational.mk (Int_2.mk x34686.Hi.Num.Neg x34872) (Int_2.mk x34686.Hi.Den.Neg x34875))) (Rational.mk (Int_2.mk x34764 x34890) (Int_2.mk x34768 x34893))).bind fun x34968 =>
    (rational_Has n (Interval.mk (Rational.mk (Int_2.mk x34695.Lo.Num.Neg x34878) (Int_2.mk x34695.Lo.Den.Neg x34881)) (Rational.mk (Int_2.mk x34695.Hi.Num.Neg x34884) (Int_2.mk x34695.Hi.Den.Neg x34887))) (Rational.mk (Int_2.mk x34773 x34896) (Int_2.mk x34777 x34899))).bind fun x34970 =>
    ((rational_Cmp n (Rational.mk (Int_2.mk x34686.Lo.Num.Neg x34866) (Int_2.mk x34686.Lo.Den.Neg x34869)) (Rational.mk (Int_2.mk x34764 x34890) (Int_2.mk x34768 x34893))).bind fun x34983 =>
    cond (decide (x34983 ≤ 0))
    ((rational_Cmp n (Rational.mk (Int_2.mk x34764 x34890) (Int_2.mk x34768 x34893)) (Rational.mk (Int_2.mk x34686.Hi.Num.Neg x34872) (Int_2.mk x34686.Hi.Den.Neg x34875))).bind fun x34986 =>
    some ((!(x34968 == (decide (x34986 ≤ 0))))))
    (some ((!(x34968 == false)))) : Option Bool).bind fun x34979 =>
    cond x34979
    (some (false))
    ((rational_Meet n (Interval.mk (Rational.mk (Int_2.mk x34686.Lo.Num.Neg x34866) (Int_2.mk x34686.Lo.Den.Neg x34869)) (Rational.mk (Int_2.mk x34686.Hi.Num.Neg x34872) (Int_2.mk x34686.Hi.Den.Neg x34875))) (Interval.mk (Rational.mk (Int_2.mk x34695.Lo.Num.Neg x34878) (Int_2.mk x34695.Lo.Den.Neg x34881)) (Rational.mk (Int_2.mk x34695.Hi.Num.Neg x34884) (Int_2.mk x34695.Hi.Den.Neg x34887)))).bind fun (x34989, x34990) =>
    (cond x34990
    ((rational_Has n (Interval.mk (Rational.mk (Int_2.mk x34989.Lo.Num.Neg x34989.Lo.Num.Mag) (Int_2.mk x34989.Lo.Den.Neg x34989.Lo.Den.Mag)) (Rational.mk (Int_2.mk x34989.Hi.Num.Neg x34989.Hi.Num.Mag) (Int_2.mk x34989.Hi.Den.Neg x34989.Hi.Den.Mag))) (Rational.mk (Int_2.mk x34764 x34890) (Int_2.mk x34768 x34893))).bind fun x35018 =>
    cond x34968
    ((rational_Has n (Interval.mk (Rational.mk (Int_2.mk x34695.Lo.Num.Neg x34878) (Int_2.mk x34695.Lo.Den.Neg x34881)) (Rational.mk (Int_2.mk x34695.Hi.Num.Neg x34884) (Int_2.mk x34695.Hi.Den.Neg x34887))) (Rational.mk (Int_2.mk x34764 x34890) (Int_2.mk x34768 x34893))).bind fun x35021 =>
    some ((!(x35018 == x35021))))
    (some ((!(x35018 == false)))))
    (cond x34968
    ((rational_Has n (Interval.mk (Rational.mk (Int_2.mk x34695.Lo.Num.Neg x34878) (Int_2.mk x34695.Lo.Den.Neg x34881)) (Rational.mk (Int_2.mk x34695.Hi.Num.Neg x34884) (Int_2.mk x34695.Hi.Den.Neg x34887))) (Rational.mk (Int_2.mk x34764 x34890) (Int_2.mk x34768 x34893))).bind fun x35024 =>
    some ((!(false == x35024))))
    (some ((!(false == false))))) : Option Bool).bind fun x35014 =>
    cond x35014
    (some (false))
    ((cond (!x34968)
    (some (true))
    (some ((!x34970))) : Option Bool).bind fun x35027 =>
    cond x35027
    (some (true))
    ((rational_Plus n (Interval.mk (Rational.mk (Int_2.mk x34686.Lo.Num.Neg x34866) (Int_2.mk x34686.Lo.Den.Neg x34869)) (Rational.mk (Int_2.mk x34686.Hi.Num.Neg x34872) (Int_2.mk x34686.Hi.Den.Neg x34875))) (Interval.mk (Rational.mk (Int_2.mk x34695.Lo.Num.Neg x34878) (Int_2.mk x34695.Lo.Den.Neg x34881)) (Rational.mk (Int_2.mk x34695.Hi.Num.Neg x34884) (Int_2.mk x34695.Hi.Den.Neg x34887)))).bind fun (x35030, x35031) =>
    (rational_Times n (Interval.mk (Rational.mk (Int_2.mk x34686.Lo.Num.Neg x34866) (Int_2.mk x34686.Lo.Den.Neg x34869)) (Rational.mk (Int_2.mk x34686.Hi.Num.Neg x34872) (Int_2.mk x34686.Hi.Den.Neg x34875))) (Interval.mk (Rational.mk (Int_2.mk x34695.Lo.Num.Neg x34878) (Int_2.mk x34695.Lo.Den.Neg x34881)) (Rational.mk (Int_2.mk x34695.Hi.Num.Neg x34884) (Int_2.mk x34695.Hi.Den.Neg x34887)))).bind fun (x35046, x35047) =>
    (cond (x35031 == 0)
    (cond (x35047 == 0)
    ((rational_Add n (Rational.mk (Int_2.mk x34764 x34890) (Int_2.mk x34768 x34893)) (Rational.mk (Int_2.mk x34773 x34896) (Int_2.mk x34777 x34899))).bind fun x35133 =>
    (rational_Has n (Interval.mk (Rational.mk (Int_2.mk x35030.Lo.Num.Neg x35030.Lo.Num.Mag) (Int_2.mk x35030.Lo.Den.Neg x35030.Lo.Den.Mag)) (Rational.mk (Int_2.mk x35030.Hi.Num.Neg x35030.Hi.Num.Mag) (Int_2.mk x35030.Hi.Den.Neg x35030.Hi.Den.Mag))) x35133).bind fun x35141 =>
    cond x35141
    ((rational_Mul n (Rational.mk (Int_2.mk x34764 x34890) (Int_2.mk x34768 x34893)) (Rational.mk (Int_2.mk x34773 x34896) (Int_2.mk x34777 x34899))).bind fun x35144 =>
    (rational_Has n (Interval.mk (Rational.mk (Int_2.mk x35046.Lo.Num.Neg x35046.Lo.Num.Mag) (Int_2.mk x35046.Lo.Den.Neg x35046.Lo.Den.Mag)) (Rational.mk (Int_2.mk x35046.Hi.Num.Neg x35046.Hi.Num.Mag) (Int_2.mk x35046.Hi.Den.Neg x35046.Hi.Den.Mag))) x35144).bind fun x35152 =>
    some (x35152))
    (some (false)))
    (some (false)))
    (some (false)) : Option Bool).bind fun x35106 =>
    some (x35106)))))

end Go.Proofs.YtepadjfmcbjkmaaDoor
