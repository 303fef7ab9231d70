/-
  What the functions of the program compute, as plain Lean functions.
-/
import Derived.Test.YtcdboppghnchpaaDoorCoreB
namespace Go.Proofs.YtcdboppghnchpaaDoor
open Go Go.Proofs.YtcdboppghnchpaaDoor.Gw Go.RowKit
set_option linter.unusedVariables false
def pow10 : List Int := [1, 10, 100, 1000, 10000, 100000, 1000000, 10000000, 100000000, 1000000000, 10000000000, 100000000000, 1000000000000, 10000000000000, 100000000000000, 1000000000000000, 10000000000000000, 100000000000000000, 1000000000000000000, 10000000000000000000]
structure Vector where
  X : Int
  Y : Int
  D : Int
structure Int_2 where
  Neg : Bool
  Mag : (List Int)
structure Gauss where
  re : Int_2
  im : Int_2
structure Rot where
  P : Int_2
  Q : Int_2
structure Rational where
  Num : Int_2
  Den : Int_2
structure Transform where
  R : Rot
  X : Rational
  Y : Rational
structure Pose where
  X : Int
  Y : Int
  H : Int
def okPose (x : Pose) : Prop := inK .i64 x.X ∧ inK .i64 x.Y ∧ inK .i64 x.H
def strconv_FormatUint (n : Nat) (x b : Int) : Option ByteArray := fmtU x b
def strings_Repeat (n : Nat) (s : ByteArray) (c : Int) : Option ByteArray := repS s c
def strings_Join (n : Nat) (xs : List ByteArray) (sep : ByteArray) : Option ByteArray := joinS xs sep
def heading_mark (n : Nat) : Int → Option Int
  | x1 =>
    some ((ib .and .i64 x1 255))

def heading_lowest_L13 : (Int × Int) → Option (Out (Int × Int) Int)
  | (x245, x246) =>
    cond (x246 != 0)
    ((need (decide (x246 ≠ 0))).bind fun _ =>
    some (.go (x246, (x245.tmod x246))))
    (some (.done x245))

def heading_lowest_L11 (n : Nat) (x2 : Int) (x3 : Int) : (Int × Int) → Option (Out (Int × Int) Int)
  | (x174, x175) =>
    cond (decide (x175 < 2))
    (((idx [x2, x3] x175).bind fun x241 =>
    loopN (heading_lowest_L13) n (x174, (if (IntKind.i64.wrap (0 - x241)) > x241 then (IntKind.i64.wrap (0 - x241)) else x241)) : Option Int).bind fun x237 =>
    some (.go (x237, (IntKind.i64.wrap (x175 + 1)))))
    (some (.done x174))

def heading_lowest (n : Nat) : Int → Int → Int → Option Vector
  | x2, x3, x4 =>
    (loopN (heading_lowest_L11 n x2 x3) n (x4, 0) : Option Int).bind fun x131 =>
    (need (decide (x131 ≠ 0))).bind fun _ =>
    (need (decide (x131 ≠ 0))).bind fun _ =>
    (need (decide (x131 ≠ 0))).bind fun _ =>
    some ((Vector.mk (IntKind.i64.wrap (x2.tdiv x131)) (IntKind.i64.wrap (x3.tdiv x131)) (IntKind.i64.wrap (x4.tdiv x131))))

def heading_Dir_L1 (x267 : Int) : (Int × Int × Int) → Option (Out (Int × Int × Int) (Int × Int))
  | (x300, x301, x302) =>
    cond (decide (x302 < (IntKind.i64.wrap (x267.tdiv 64))))
    (some (.go ((IntKind.i64.wrap (0 - x301)), x300, (IntKind.i64.wrap (x302 + 1)))))
    (some (.done (x300, x301)))

def heading_Dir (n : Nat) : Int → Option Vector
  | x264 =>
    (heading_mark n x264).bind fun x267 =>
    (heading_lowest n (IntKind.i64.wrap (4096 - (IntKind.i64.wrap ((x267.tmod 64) * (x267.tmod 64))))) (IntKind.i64.wrap (128 * (x267.tmod 64))) (IntKind.i64.wrap (4096 + (IntKind.i64.wrap ((x267.tmod 64) * (x267.tmod 64)))))).bind fun x270 =>
    (loopN (heading_Dir_L1 x267) n (x270.X, x270.Y, 0) : Option (Int × Int)).bind fun (x293, x294) =>
    some ((Vector.mk x293 x294 x270.D))

def heading_Valid (n : Nat) : Vector → Option Bool
  | x316 =>
    (cond (decide (x316.D < 1))
    (some (true))
    (cond (decide (x316.D > 67108864))
    (some (true))
    (cond (decide (x316.X < (IntKind.i64.wrap (0 - x316.D))))
    (some (true))
    (cond (decide (x316.X > x316.D))
    (some (true))
    (cond (decide (x316.Y < (IntKind.i64.wrap (0 - x316.D))))
    (some (true))
    (some ((decide (x316.Y > x316.D)))))))) : Option Bool).bind fun x322 =>
    cond x322
    (some (false))
    (some (((IntKind.i64.wrap ((IntKind.i64.wrap (x316.X * x316.X)) + (IntKind.i64.wrap (x316.Y * x316.Y)))) == (IntKind.i64.wrap (x316.D * x316.D)))))

def heading_Turn (n : Nat) : Vector → Vector → Option (Vector × Int)
  | x325, x326 =>
    ((heading_Valid n (Vector.mk x325.X x325.Y x325.D)).bind fun x349 =>
    cond (!x349)
    (some (true))
    ((heading_Valid n (Vector.mk x326.X x326.Y x326.D)).bind fun x352 =>
    some ((!x352))) : Option Bool).bind fun x345 =>
    cond x345
    (some (((Vector.mk 0 0 0), 1)))
    ((heading_lowest n (IntKind.i64.wrap ((IntKind.i64.wrap (x325.X * x326.X)) - (IntKind.i64.wrap (x325.Y * x326.Y)))) (IntKind.i64.wrap ((IntKind.i64.wrap (x325.X * x326.Y)) + (IntKind.i64.wrap (x325.Y * x326.X)))) (IntKind.i64.wrap (x325.D * x326.D))).bind fun x356 =>
    cond (decide (x356.D > 67108864))
    (some (((Vector.mk 0 0 0), 2)))
    (some (((Vector.mk x356.X x356.Y x356.D), 0))))

def heading_Beam (n : Nat) : Int → Int → Option Vector
  | x364, x365 =>
    (heading_Dir n x364).bind fun x368 =>
    (heading_Dir n x365).bind fun x371 =>
    (heading_Turn n x368 x371).bind fun (x374, x375) =>
    some ((Vector.mk x374.X x374.Y x374.D))

def integer_trim_L1 : (List Int) → Option (Out (List Int) (List Int))
  | x477 =>
    (cond (decide ((x477.length : Int) > 0))
    ((idx x477 (IntKind.i64.wrap ((x477.length : Int) - 1))).bind fun x514 =>
    some ((x514 == 0)))
    (some (false)) : Option Bool).bind fun x511 =>
    cond x511
    ((cut x477 0 (IntKind.i64.wrap ((x477.length : Int) - 1))).bind fun x520 =>
    some (.go x520))
    (some (.done x477))

def integer_trim (n : Nat) : (List Int) → Option (List Int)
  | x382 =>
    (loopN (integer_trim_L1) n x382 : Option (List Int)).bind fun x453 =>
    some (x453)

def integer_made (n : Nat) : Bool → (List Int) → Option Int_2
  | x525, x526 =>
    (integer_trim n x526).bind fun x532 =>
    cond ((x532.length : Int) == 0)
    (some ((Int_2.mk false [])))
    (some ((Int_2.mk x525 x532)))

def integer_Of (n : Nat) : Int → Option Int_2
  | x544 =>
    (cond (decide (x544 < 0))
    (some ((IntKind.u64.wrap (0 - (IntKind.u64.wrap x544)))))
    (some ((IntKind.u64.wrap x544))) : Option Int).bind fun x548 =>
    (integer_made n (decide (x544 < 0)) [(IntKind.u32.wrap x548), (IntKind.u32.wrap (x548.fdiv (2 ^ min (32 : Int).toNat (IntKind.u64).bits)))]).bind fun x555 =>
    some ((Int_2.mk x555.Neg x555.Mag))

def integer_Sign (n : Nat) : Int_2 → Option Int
  | x562 =>
    (integer_trim n x562.Mag).bind fun x570 =>
    cond ((x570.length : Int) == 0)
    (some (0))
    (cond x562.Neg
    (some ((-1)))
    (some (1)))

def rotation_of (n : Nat) : Rot → Option Gauss
  | x576 =>
    ((integer_Sign n (Int_2.mk x576.P.Neg x576.P.Mag)).bind fun x600 =>
    cond (x600 == 0)
    ((integer_Sign n (Int_2.mk x576.Q.Neg x576.Q.Mag)).bind fun x603 =>
    some ((x603 == 0)))
    (some (false)) : Option Bool).bind fun x596 =>
    cond x596
    ((integer_Of n 1).bind fun x606 =>
    some ((Gauss.mk (Int_2.mk x606.Neg x606.Mag) (Int_2.mk false []))))
    (some ((Gauss.mk (Int_2.mk x576.Q.Neg x576.Q.Mag) (Int_2.mk x576.P.Neg x576.P.Mag))))

def slices_Cloneuint32_uint32_ (n : Nat) : (List Int) → Option (List Int)
  | x626 =>
    (app ([] : List Int) x626).bind fun x636 =>
    some (x636)

def integer_Abs (n : Nat) : Int_2 → Option Int_2
  | x643 =>
    (integer_trim n x643.Mag).bind fun x654 =>
    (slices_Cloneuint32_uint32_ n x654).bind fun x660 =>
    (integer_made n false x660).bind fun x666 =>
    some ((Int_2.mk x666.Neg x666.Mag))

def integer_compare_L1 (x673 : (List Int)) (x676 : (List Int)) : Int → Option (Out Int (Out Unit Int))
  | x795 =>
    cond (decide (x795 ≥ 0))
    ((idx x673 x795).bind fun x827 =>
    (idx x676 x795).bind fun x833 =>
    cond (x827 != x833)
    ((idx x673 x795).bind fun x840 =>
    (idx x676 x795).bind fun x846 =>
    cond (decide (x840 < x846))
    (some (.done (.done (-1))))
    (some (.done (.done 1))))
    (some (.go (IntKind.i64.wrap (x795 - 1)))))
    (some (.done (.go ())))

def integer_compare (n : Nat) : (List Int) → (List Int) → Option Int
  | x673, x676 =>
    cond ((x673.length : Int) != (x676.length : Int))
    (cond (decide ((x673.length : Int) < (x676.length : Int)))
    (some ((-1)))
    (some (1)))
    ((loopN (integer_compare_L1 x673 x676) n (IntKind.i64.wrap ((x673.length : Int) - 1)) : Option (Out Unit Int)).bind fun y767 => (match y767 with
    | .go _ =>
    some (0)
    | .done r => some r))

def bits_Div32 (n : Nat) : Int → Int → Int → Option (Int × Int)
  | x856, x857, x858 =>
    ((cond (x858 != 0)
    (some ((decide (x858 ≤ x856))))
    (some (false)) : Option Bool).bind fun x864 =>
    cond x864
    (none)
    (some (())) : Option Unit).bind fun _ =>
    (need (decide ((IntKind.u64.wrap x858) ≠ 0))).bind fun _ =>
    (need (decide ((IntKind.u64.wrap x858) ≠ 0))).bind fun _ =>
    some (((IntKind.u32.wrap (IntKind.u64.wrap ((ib .or .u64 (IntKind.u64.wrap ((IntKind.u64.wrap x856) * 2 ^ min (32 : Int).toNat (IntKind.u64).bits)) (IntKind.u64.wrap x857)).tdiv (IntKind.u64.wrap x858)))), (IntKind.u32.wrap ((ib .or .u64 (IntKind.u64.wrap ((IntKind.u64.wrap x856) * 2 ^ min (32 : Int).toNat (IntKind.u64).bits)) (IntKind.u64.wrap x857)).tmod (IntKind.u64.wrap x858)))))

def integer_short_L1 (n : Nat) (x870 : (List Int)) (x873 : Int) : ((List Int) × Int × Int) → Option (Out ((List Int) × Int × Int) ((List Int) × Int))
  | (x998, x_0, x_1) =>
    cond (decide (x_1 ≥ 0))
    ((idx x870 x_1).bind fun x_2 =>
    (bits_Div32 n x_0 x_2 x873).bind fun (x_3, x_4) =>
    (idx x998 x_1).bind fun x_5 =>
    some (.go ((upd x998 x_1 x_3), x_4, (IntKind.i64.wrap (x_1 - 1)))))
    (some (.done (x998, x_0)))

def integer_short (n : Nat) : (List Int) → Int → Option ((List Int) × Int)
  | x870, x873 =>
    (mk (x870.length : Int) 0).bind fun x875 =>
    (loopN (integer_short_L1 n x870 x873) n (x875, 0, (IntKind.i64.wrap ((x870.length : Int) - 1))) : Option ((List Int) × Int)).bind fun (x967, x971) =>
    some ((x967, x971))

def bits_Len32 (n : Nat) : Int → Option Int
  | x_0 =>
    (cond (decide (x_0 ≥ 65536))
    (some (((x_0.fdiv (2 ^ min (16 : Int).toNat (IntKind.u32).bits)), 16)))
    (some ((x_0, 0))) : Option (Int × Int)).bind fun (x_1, x_2) =>
    (cond (decide (x_1 ≥ 256))
    (some (((x_1.fdiv (2 ^ min (8 : Int).toNat (IntKind.u32).bits)), (IntKind.i64.wrap (x_2 + 8)))))
    (some ((x_1, x_2))) : Option (Int × Int)).bind fun (x_3, x_4) =>
    (bidx (ByteArray.mk #[0, 1, 2, 2, 3, 3, 3, 3, 4, 4, 4, 4, 4, 4, 4, 4, 5, 5, 5, 5, 5, 5, 5, 5, 5, 5, 5, 5, 5, 5, 5, 5, 6, 6, 6, 6, 6, 6, 6, 6, 6, 6, 6, 6, 6, 6, 6, 6, 6, 6, 6, 6, 6, 6, 6, 6, 6, 6, 6, 6, 6, 6, 6, 6, 7, 7, 7, 7, 7, 7, 7, 7, 7, 7, 7, 7, 7, 7, 7, 7, 7, 7, 7, 7, 7, 7, 7, 7, 7, 7, 7, 7, 7, 7, 7, 7, 7, 7, 7, 7, 7, 7, 7, 7, 7, 7, 7, 7, 7, 7, 7, 7, 7, 7, 7, 7, 7, 7, 7, 7, 7, 7, 7, 7, 7, 7, 7, 7, 8, 8, 8, 8, 8, 8, 8, 8, 8, 8, 8, 8, 8, 8, 8, 8, 8, 8, 8, 8, 8, 8, 8, 8, 8, 8, 8, 8, 8, 8, 8, 8, 8, 8, 8, 8, 8, 8, 8, 8, 8, 8, 8, 8, 8, 8, 8, 8, 8, 8, 8, 8, 8, 8, 8, 8, 8, 8, 8, 8, 8, 8, 8, 8, 8, 8, 8, 8, 8, 8, 8, 8, 8, 8, 8, 8, 8, 8, 8, 8, 8, 8, 8, 8, 8, 8, 8, 8, 8, 8, 8, 8, 8, 8, 8, 8, 8, 8, 8, 8, 8, 8, 8, 8, 8, 8, 8, 8, 8, 8, 8, 8, 8, 8, 8, 8, 8, 8, 8, 8, 8, 8, 8, 8, 8, 8, 8, 8]) (IntKind.u8.wrap x_3)).bind fun x_5 =>
    some ((IntKind.i64.wrap (x_4 + (IntKind.i64.wrap x_5))))

def bits_LeadingZeros32 (n : Nat) : Int → Option Int
  | x_0 =>
    (bits_Len32 n x_0).bind fun x_1 =>
    some ((IntKind.i64.wrap (32 - x_1)))

def integer_shifted_L1 (x_0 : (List Int)) (x_1 : Int) : ((List Int) × Int) → Option (Out ((List Int) × Int) (List Int))
  | (x_2, x_3) =>
    cond (decide (x_3 < (x_0.length : Int)))
    ((idx x_0 x_3).bind fun x_4 =>
    (need (decide (0 ≤ x_1))).bind fun _ =>
    (idx x_2 x_3).bind fun x_5 =>
    (idx x_2 x_3).bind fun x_6 =>
    (idx (upd x_2 x_3 (ib .or .u32 x_5 (IntKind.u32.wrap (IntKind.u64.wrap ((IntKind.u64.wrap x_4) * 2 ^ min x_1.toNat (IntKind.u64).bits))))) (IntKind.i64.wrap (x_3 + 1))).bind fun x_7 =>
    some (.go ((upd (upd x_2 x_3 (ib .or .u32 x_5 (IntKind.u32.wrap (IntKind.u64.wrap ((IntKind.u64.wrap x_4) * 2 ^ min x_1.toNat (IntKind.u64).bits))))) (IntKind.i64.wrap (x_3 + 1)) (IntKind.u32.wrap ((IntKind.u64.wrap ((IntKind.u64.wrap x_4) * 2 ^ min x_1.toNat (IntKind.u64).bits)).fdiv (2 ^ min (32 : Int).toNat (IntKind.u64).bits)))), (IntKind.i64.wrap (x_3 + 1)))))
    (some (.done x_2))

def integer_shifted (n : Nat) : (List Int) → Int → Option (List Int)
  | x_0, x_1 =>
    (mk (IntKind.i64.wrap ((x_0.length : Int) + 1)) 0).bind fun x_2 =>
    (loopN (integer_shifted_L1 x_0 x_1) n (x_2, 0) : Option (List Int)).bind fun x_3 =>
    some (x_3)

def bits_Sub32 (n : Nat) : Int → Int → Int → Option (Int × Int)
  | x_0, x_1, x_2 =>
    some (((IntKind.u32.wrap ((IntKind.u32.wrap (x_0 - x_1)) - x_2)), ((ib .or .u32 (ib .and .u32 (ib .xor .u32 (if (IntKind.u32).signed then -1 else (IntKind.u32).max) x_0) x_1) (ib .and .u32 (ib .xor .u32 (if (IntKind.u32).signed then -1 else (IntKind.u32).max) (ib .xor .u32 x_0 x_1)) (IntKind.u32.wrap ((IntKind.u32.wrap (x_0 - x_1)) - x_2)))).fdiv (2 ^ min (31 : Int).toNat (IntKind.u32).bits))))

def bits_Add32 (n : Nat) : Int → Int → Int → Option (Int × Int)
  | x_0, x_1, x_2 =>
    some (((IntKind.u32.wrap (IntKind.u64.wrap ((IntKind.u64.wrap ((IntKind.u64.wrap x_0) + (IntKind.u64.wrap x_1))) + (IntKind.u64.wrap x_2)))), (IntKind.u32.wrap ((IntKind.u64.wrap ((IntKind.u64.wrap ((IntKind.u64.wrap x_0) + (IntKind.u64.wrap x_1))) + (IntKind.u64.wrap x_2))).fdiv (2 ^ min (32 : Int).toNat (IntKind.u64).bits)))))

def integer_divide_L91 (x_0 : (List Int)) (x_1 : (List Int)) (x_2 : Int) : (Int × Int) → Option (Out (Int × Int) Int)
  | (x_3, x_4) =>
    (cond (decide (x_3 ≥ 4294967296))
    (some (true))
    ((idx x_0 (IntKind.i64.wrap ((x_0.length : Int) - 2))).bind fun x_5 =>
    (idx x_1 (IntKind.i64.wrap ((IntKind.i64.wrap (x_2 + (x_0.length : Int))) - 2))).bind fun x_6 =>
    some ((decide ((IntKind.u64.wrap (x_3 * (IntKind.u64.wrap x_5))) > (ib .or .u64 (IntKind.u64.wrap (x_4 * 2 ^ min (32 : Int).toNat (IntKind.u64).bits)) (IntKind.u64.wrap x_6)))))) : Option Bool).bind fun x_7 =>
    cond x_7
    ((idx x_0 (IntKind.i64.wrap ((x_0.length : Int) - 1))).bind fun x_8 =>
    cond (decide ((IntKind.u64.wrap (x_4 + (IntKind.u64.wrap x_8))) ≥ 4294967296))
    (some (.done (IntKind.u64.wrap (x_3 - 1))))
    (some (.go ((IntKind.u64.wrap (x_3 - 1)), (IntKind.u64.wrap (x_4 + (IntKind.u64.wrap x_8)))))))
    (some (.done x_3))

def integer_divide_L93 (n : Nat) (x_0 : (List Int)) (x_1 : Int) (x_2 : Int) : ((List Int) × Int × Int × Int) → Option (Out ((List Int) × Int × Int × Int) ((List Int) × Int × Int))
  | (x_3, x_4, x_5, x_6) =>
    cond (decide (x_6 < (x_0.length : Int)))
    ((idx x_0 x_6).bind fun x_7 =>
    (idx x_3 (IntKind.i64.wrap (x_6 + x_1))).bind fun x_8 =>
    (bits_Sub32 n x_8 (IntKind.u32.wrap (IntKind.u64.wrap ((IntKind.u64.wrap (x_2 * (IntKind.u64.wrap x_7))) + x_4))) x_5).bind fun (x_9, x_a) =>
    (idx x_3 (IntKind.i64.wrap (x_6 + x_1))).bind fun x_b =>
    some (.go ((upd x_3 (IntKind.i64.wrap (x_6 + x_1)) x_9), ((IntKind.u64.wrap ((IntKind.u64.wrap (x_2 * (IntKind.u64.wrap x_7))) + x_4)).fdiv (2 ^ min (32 : Int).toNat (IntKind.u64).bits)), x_a, (IntKind.i64.wrap (x_6 + 1)))))
    (some (.done (x_3, x_4, x_5)))

def integer_divide_L97 (n : Nat) (x_0 : (List Int)) (x_1 : Int) : ((List Int) × Int × Int) → Option (Out ((List Int) × Int × Int) ((List Int) × Int))
  | (x_2, x_3, x_4) =>
    cond (decide (x_4 < (x_0.length : Int)))
    ((idx x_0 x_4).bind fun x_5 =>
    (idx x_2 (IntKind.i64.wrap (x_4 + x_1))).bind fun x_6 =>
    (bits_Add32 n x_6 x_5 x_3).bind fun (x_7, x_8) =>
    (idx x_2 (IntKind.i64.wrap (x_4 + x_1))).bind fun x_9 =>
    some (.go ((upd x_2 (IntKind.i64.wrap (x_4 + x_1)) x_7), x_8, (IntKind.i64.wrap (x_4 + 1)))))
    (some (.done (x_2, x_3)))

def integer_divide_L81 (n : Nat) (x_0 : (List Int)) : ((List Int) × (List Int) × Int) → Option (Out ((List Int) × (List Int) × Int) ((List Int) × (List Int)))
  | (x_1, x_2, x_3) =>
    cond (decide (x_3 ≥ 0))
    (((idx x_1 (IntKind.i64.wrap (x_3 + (x_0.length : Int)))).bind fun x_4 =>
    (idx x_1 (IntKind.i64.wrap ((IntKind.i64.wrap (x_3 + (x_0.length : Int))) - 1))).bind fun x_5 =>
    (idx x_0 (IntKind.i64.wrap ((x_0.length : Int) - 1))).bind fun x_6 =>
    (need (decide ((IntKind.u64.wrap x_6) ≠ 0))).bind fun _ =>
    (idx x_0 (IntKind.i64.wrap ((x_0.length : Int) - 1))).bind fun x_7 =>
    (need (decide ((IntKind.u64.wrap x_7) ≠ 0))).bind fun _ =>
    (loopN (integer_divide_L91 x_0 x_1 x_3) n ((IntKind.u64.wrap ((ib .or .u64 (IntKind.u64.wrap ((IntKind.u64.wrap x_4) * 2 ^ min (32 : Int).toNat (IntKind.u64).bits)) (IntKind.u64.wrap x_5)).tdiv (IntKind.u64.wrap x_6))), ((ib .or .u64 (IntKind.u64.wrap ((IntKind.u64.wrap x_4) * 2 ^ min (32 : Int).toNat (IntKind.u64).bits)) (IntKind.u64.wrap x_5)).tmod (IntKind.u64.wrap x_7))) : Option Int).bind fun x_8 =>
    (loopN (integer_divide_L93 n x_0 x_3 x_8) n (x_1, 0, 0, 0) : Option ((List Int) × Int × Int)).bind fun (x_9, x_a, x_b) =>
    (idx x_9 (IntKind.i64.wrap (x_3 + (x_0.length : Int)))).bind fun x_c =>
    (bits_Sub32 n x_c (IntKind.u32.wrap x_a) x_b).bind fun (x_d, x_e) =>
    (idx x_9 (IntKind.i64.wrap (x_3 + (x_0.length : Int)))).bind fun x_f =>
    (cond (x_e != 0)
    ((loopN (integer_divide_L97 n x_0 x_3) n ((upd x_9 (IntKind.i64.wrap (x_3 + (x_0.length : Int))) x_d), 0, 0) : Option ((List Int) × Int)).bind fun (x_g, x_h) =>
    (idx x_g (IntKind.i64.wrap (x_3 + (x_0.length : Int)))).bind fun x_i =>
    (idx x_g (IntKind.i64.wrap (x_3 + (x_0.length : Int)))).bind fun x_j =>
    some (((upd x_g (IntKind.i64.wrap (x_3 + (x_0.length : Int))) (IntKind.u32.wrap (x_i + x_h))), (IntKind.u64.wrap (x_8 - 1)))))
    (some (((upd x_9 (IntKind.i64.wrap (x_3 + (x_0.length : Int))) x_d), x_8))) : Option ((List Int) × Int)).bind fun (x_k, x_l) =>
    (idx x_2 x_3).bind fun x_m =>
    some ((x_k, (upd x_2 x_3 (IntKind.u32.wrap x_l)))) : Option ((List Int) × (List Int))).bind fun (x_n, x_o) =>
    some (.go (x_n, x_o, (IntKind.i64.wrap (x_3 - 1)))))
    (some (.done (x_1, x_2)))

def integer_divide_L99 (x_0 : Int) (x_1 : (List Int)) (x_2 : (List Int)) : ((List Int) × Int) → Option (Out ((List Int) × Int) (List Int))
  | (x_3, x_4) =>
    cond (decide (x_4 < (x_2.length : Int)))
    ((idx x_1 (IntKind.i64.wrap (x_4 + 1))).bind fun x_5 =>
    (idx x_1 x_4).bind fun x_6 =>
    (need (decide (0 ≤ (IntKind.u64.wrap x_0)))).bind fun _ =>
    (idx x_3 x_4).bind fun x_7 =>
    some (.go ((upd x_3 x_4 (IntKind.u32.wrap ((ib .or .u64 (IntKind.u64.wrap ((IntKind.u64.wrap x_5) * 2 ^ min (32 : Int).toNat (IntKind.u64).bits)) (IntKind.u64.wrap x_6)).fdiv (2 ^ min (IntKind.u64.wrap x_0).toNat (IntKind.u64).bits)))), (IntKind.i64.wrap (x_4 + 1)))))
    (some (.done x_3))

def integer_divide (n : Nat) : (List Int) → (List Int) → Option ((List Int) × (List Int))
  | x_0, x_1 =>
    (integer_compare n x_0 x_1).bind fun x_2 =>
    cond (decide (x_2 < 0))
    ((slices_Cloneuint32_uint32_ n x_0).bind fun x_3 =>
    some (([], x_3)))
    (cond ((x_1.length : Int) == 1)
    ((idx x_1 0).bind fun x_4 =>
    (integer_short n x_0 x_4).bind fun (x_5, x_6) =>
    some ((x_5, [x_6])))
    ((idx x_1 (IntKind.i64.wrap ((x_1.length : Int) - 1))).bind fun x_7 =>
    (bits_LeadingZeros32 n x_7).bind fun x_8 =>
    (integer_shifted n x_0 (IntKind.u64.wrap x_8)).bind fun x_9 =>
    (integer_shifted n x_1 (IntKind.u64.wrap x_8)).bind fun x_a =>
    (cut x_a 0 (x_1.length : Int)).bind fun x_b =>
    (mk (IntKind.i64.wrap ((x_9.length : Int) - (x_b.length : Int))) 0).bind fun x_c =>
    (loopN (integer_divide_L81 n x_b) n (x_9, x_c, (IntKind.i64.wrap ((IntKind.i64.wrap ((x_9.length : Int) - (x_b.length : Int))) - 1))) : Option ((List Int) × (List Int))).bind fun (x_d, x_e) =>
    (mk (x_b.length : Int) 0).bind fun x_f =>
    (loopN (integer_divide_L99 x_8 x_d x_f) n (x_f, 0) : Option (List Int)).bind fun x_g =>
    some ((x_e, x_g))))

def integer_plus_L1 (n : Nat) (x_0 : (List Int)) (x_1 : (List Int)) : ((List Int) × Int × Int) → Option (Out ((List Int) × Int × Int) ((List Int) × Int))
  | (x_2, x_3, x_4) =>
    cond (decide (x_4 < (x_0.length : Int)))
    ((idx x_0 x_4).bind fun x_5 =>
    (cond (decide (x_4 < (x_1.length : Int)))
    ((idx x_1 x_4).bind fun x_6 =>
    some (x_6))
    (some (0)) : Option Int).bind fun x_7 =>
    (bits_Add32 n x_5 x_7 x_3).bind fun (x_8, x_9) =>
    (app x_2 [x_8]).bind fun x_a =>
    some (.go (x_a, x_9, (IntKind.i64.wrap (x_4 + 1)))))
    (some (.done (x_2, x_3)))

def integer_plus (n : Nat) : (List Int) → (List Int) → Option (List Int)
  | x_0, x_1 =>
    (cond (decide ((x_0.length : Int) < (x_1.length : Int)))
    (some ((x_1, x_0)))
    (some ((x_0, x_1))) : Option ((List Int) × (List Int))).bind fun (x_2, x_3) =>
    (mkc 0 (IntKind.i64.wrap ((x_2.length : Int) + 1)) 0).bind fun x_4 =>
    (loopN (integer_plus_L1 n x_2 x_3) n (x_4, 0, 0) : Option ((List Int) × Int)).bind fun (x_5, x_6) =>
    (app x_5 [x_6]).bind fun x_7 =>
    some (x_7)

def integer_minus_L1 (n : Nat) (x_0 : (List Int)) (x_1 : (List Int)) : ((List Int) × Int × Int) → Option (Out ((List Int) × Int × Int) (List Int))
  | (x_2, x_3, x_4) =>
    cond (decide (x_4 < (x_0.length : Int)))
    ((idx x_0 x_4).bind fun x_5 =>
    (cond (decide (x_4 < (x_1.length : Int)))
    ((idx x_1 x_4).bind fun x_6 =>
    some (x_6))
    (some (0)) : Option Int).bind fun x_7 =>
    (bits_Sub32 n x_5 x_7 x_3).bind fun (x_8, x_9) =>
    (app x_2 [x_8]).bind fun x_a =>
    some (.go (x_a, x_9, (IntKind.i64.wrap (x_4 + 1)))))
    (some (.done x_2))

def integer_minus (n : Nat) : (List Int) → (List Int) → Option (List Int)
  | x_0, x_1 =>
    (mkc 0 (x_0.length : Int) 0).bind fun x_2 =>
    (loopN (integer_minus_L1 n x_0 x_1) n (x_2, 0, 0) : Option (List Int)).bind fun x_3 =>
    some (x_3)

def integer_Add (n : Nat) : Int_2 → Int_2 → Option Int_2
  | x_0, x_1 =>
    (integer_trim n x_0.Mag).bind fun x_2 =>
    (integer_trim n x_1.Mag).bind fun x_3 =>
    cond (x_0.Neg == x_1.Neg)
    ((integer_plus n x_2 x_3).bind fun x_4 =>
    (integer_made n x_0.Neg x_4).bind fun x_5 =>
    some ((Int_2.mk x_5.Neg x_5.Mag)))
    ((integer_compare n x_2 x_3).bind fun x_6 =>
    cond (decide (x_6 ≥ 0))
    ((integer_minus n x_2 x_3).bind fun x_7 =>
    (integer_made n x_0.Neg x_7).bind fun x_8 =>
    some ((Int_2.mk x_8.Neg x_8.Mag)))
    ((integer_minus n x_3 x_2).bind fun x_9 =>
    (integer_made n x_1.Neg x_9).bind fun x_a =>
    some ((Int_2.mk x_a.Neg x_a.Mag))))

def integer_DivMod (n : Nat) : Int_2 → Int_2 → Option (Int_2 × Int_2 × Int)
  | x_0, x_1 =>
    (integer_trim n x_0.Mag).bind fun x_2 =>
    (integer_trim n x_1.Mag).bind fun x_3 =>
    cond ((x_3.length : Int) == 0)
    (some (((Int_2.mk false []), (Int_2.mk false []), 10)))
    ((integer_divide n x_2 x_3).bind fun (x_4, x_5) =>
    ((integer_made n (!(x_0.Neg == x_1.Neg)) x_4).bind fun x_6 =>
    (integer_made n x_0.Neg x_5).bind fun x_7 =>
    some ((x_6.Neg, x_6.Mag, x_7.Neg, x_7.Mag)) : Option (Bool × (List Int) × Bool × (List Int))).bind fun (x_8, x_9, x_a, x_b) =>
    (cond x_a
    ((integer_Add n (Int_2.mk x_a x_b) (Int_2.mk false x_3)).bind fun x_c =>
    (integer_Add n (Int_2.mk x_8 x_9) (Int_2.mk (!x_1.Neg) [1])).bind fun x_d =>
    some ((x_d.Neg, x_d.Mag, x_c.Neg, x_c.Mag)))
    (some ((x_8, x_9, x_a, x_b))) : Option (Bool × (List Int) × Bool × (List Int))).bind fun (x_e, x_f, x_g, x_h) =>
    some (((Int_2.mk x_e x_f), (Int_2.mk x_g x_h), 0)))

def integer_Gcd_L1 (n : Nat) : (Bool × (List Int) × Bool × (List Int)) → Option (Out (Bool × (List Int) × Bool × (List Int)) (Bool × (List Int)))
  | (x_0, x_1, x_2, x_3) =>
    cond (decide ((x_3.length : Int) > 0))
    ((integer_DivMod n (Int_2.mk x_0 x_1) (Int_2.mk x_2 x_3)).bind fun (x_4, x_5, x_6) =>
    some (.go (x_2, x_3, x_5.Neg, x_5.Mag)))
    (some (.done (x_0, x_1)))

def integer_Gcd (n : Nat) : Int_2 → Int_2 → Option Int_2
  | x_0, x_1 =>
    ((integer_Abs n (Int_2.mk x_0.Neg x_0.Mag)).bind fun x_2 =>
    (integer_Abs n (Int_2.mk x_1.Neg x_1.Mag)).bind fun x_3 =>
    some ((x_2.Neg, x_2.Mag, x_3.Neg, x_3.Mag)) : Option (Bool × (List Int) × Bool × (List Int))).bind fun (x_4, x_5, x_6, x_7) =>
    (loopN (integer_Gcd_L1 n) n (x_4, x_5, x_6, x_7) : Option (Bool × (List Int))).bind fun (x_8, x_9) =>
    some ((Int_2.mk x_8 x_9))

def integer_Neg (n : Nat) : Int_2 → Option Int_2
  | x_0 =>
    (integer_trim n x_0.Mag).bind fun x_1 =>
    (slices_Cloneuint32_uint32_ n x_1).bind fun x_2 =>
    (integer_made n (!x_0.Neg) x_2).bind fun x_3 =>
    some ((Int_2.mk x_3.Neg x_3.Mag))

def rotation_gauss_rot (n : Nat) : Gauss → Option Rot
  | x_0 =>
    (integer_Gcd n (Int_2.mk x_0.re.Neg x_0.re.Mag) (Int_2.mk x_0.im.Neg x_0.im.Mag)).bind fun x_1 =>
    ((integer_Sign n (Int_2.mk x_0.re.Neg x_0.re.Mag)).bind fun x_2 =>
    (cond (decide (x_2 < 0))
    (some (true))
    (cond (x_2 == 0)
    ((integer_Sign n (Int_2.mk x_0.im.Neg x_0.im.Mag)).bind fun x_3 =>
    some ((decide (x_3 < 0))))
    (some (false))) : Option Bool).bind fun x_4 =>
    cond x_4
    ((integer_Neg n (Int_2.mk x_1.Neg x_1.Mag)).bind fun x_5 =>
    some ((x_5.Neg, x_5.Mag)))
    (some ((x_1.Neg, x_1.Mag))) : Option (Bool × (List Int))).bind fun (x_6, x_7) =>
    (integer_DivMod n (Int_2.mk x_0.re.Neg x_0.re.Mag) (Int_2.mk x_6 x_7)).bind fun (x_8, x_9, x_a) =>
    (integer_DivMod n (Int_2.mk x_0.im.Neg x_0.im.Mag) (Int_2.mk x_6 x_7)).bind fun (x_b, x_c, x_d) =>
    some ((Rot.mk (Int_2.mk x_b.Neg x_b.Mag) (Int_2.mk x_8.Neg x_8.Mag)))

def rotation_Norm (n : Nat) : Rot → Option Rot
  | x_0 =>
    (rotation_of n (Rot.mk (Int_2.mk x_0.P.Neg x_0.P.Mag) (Int_2.mk x_0.Q.Neg x_0.Q.Mag))).bind fun x_1 =>
    (rotation_gauss_rot n x_1).bind fun x_2 =>
    some ((Rot.mk (Int_2.mk x_2.P.Neg x_2.P.Mag) (Int_2.mk x_2.Q.Neg x_2.Q.Mag)))

def rotation_Of (n : Nat) : Int → Int → Option Rot
  | x_0, x_1 =>
    (integer_Of n x_0).bind fun x_2 =>
    (integer_Of n x_1).bind fun x_3 =>
    (rotation_Norm n (Rot.mk (Int_2.mk x_2.Neg x_2.Mag) (Int_2.mk x_3.Neg x_3.Mag))).bind fun x_4 =>
    some ((Rot.mk (Int_2.mk x_4.P.Neg x_4.P.Mag) (Int_2.mk x_4.Q.Neg x_4.Q.Mag)))

def integer_times_L25 (x_0 : (List Int)) (x_1 : Int) (x_2 : Int) : ((List Int) × Int × Int) → Option (Out ((List Int) × Int × Int) ((List Int) × Int))
  | (x_3, x_4, x_5) =>
    cond (decide (x_5 < (x_0.length : Int)))
    ((idx x_0 x_5).bind fun x_6 =>
    (idx x_3 (IntKind.i64.wrap (x_1 + x_5))).bind fun x_7 =>
    (idx x_3 (IntKind.i64.wrap (x_1 + x_5))).bind fun x_8 =>
    some (.go ((upd x_3 (IntKind.i64.wrap (x_1 + x_5)) (IntKind.u32.wrap (IntKind.u64.wrap ((IntKind.u64.wrap ((IntKind.u64.wrap ((IntKind.u64.wrap x_2) * (IntKind.u64.wrap x_6))) + (IntKind.u64.wrap x_7))) + x_4)))), ((IntKind.u64.wrap ((IntKind.u64.wrap ((IntKind.u64.wrap ((IntKind.u64.wrap x_2) * (IntKind.u64.wrap x_6))) + (IntKind.u64.wrap x_7))) + x_4)).fdiv (2 ^ min (32 : Int).toNat (IntKind.u64).bits)), (IntKind.i64.wrap (x_5 + 1)))))
    (some (.done (x_3, x_4)))

def integer_times_L21 (n : Nat) (x_0 : (List Int)) (x_1 : (List Int)) : ((List Int) × Int) → Option (Out ((List Int) × Int) (List Int))
  | (x_2, x_3) =>
    cond (decide (x_3 < (x_0.length : Int)))
    (((idx x_0 x_3).bind fun x_4 =>
    (loopN (integer_times_L25 x_1 x_3 x_4) n (x_2, 0, 0) : Option ((List Int) × Int)).bind fun (x_5, x_6) =>
    (idx x_5 (IntKind.i64.wrap (x_3 + (x_1.length : Int)))).bind fun x_7 =>
    some ((upd x_5 (IntKind.i64.wrap (x_3 + (x_1.length : Int))) (IntKind.u32.wrap x_6))) : Option (List Int)).bind fun x_8 =>
    some (.go (x_8, (IntKind.i64.wrap (x_3 + 1)))))
    (some (.done x_2))

def integer_times (n : Nat) : (List Int) → (List Int) → Option (List Int)
  | x_0, x_1 =>
    (mk (IntKind.i64.wrap ((x_0.length : Int) + (x_1.length : Int))) 0).bind fun x_2 =>
    (loopN (integer_times_L21 n x_0 x_1) n (x_2, 0) : Option (List Int)).bind fun x_3 =>
    some (x_3)

def integer_Mul (n : Nat) : Int_2 → Int_2 → Option Int_2
  | x_0, x_1 =>
    (integer_trim n x_0.Mag).bind fun x_2 =>
    (integer_trim n x_1.Mag).bind fun x_3 =>
    (integer_times n x_2 x_3).bind fun x_4 =>
    (integer_made n (!(x_0.Neg == x_1.Neg)) x_4).bind fun x_5 =>
    some ((Int_2.mk x_5.Neg x_5.Mag))

def integer_Sub (n : Nat) : Int_2 → Int_2 → Option Int_2
  | x_0, x_1 =>
    (integer_Add n (Int_2.mk x_0.Neg x_0.Mag) (Int_2.mk (!x_1.Neg) x_1.Mag)).bind fun x_2 =>
    some ((Int_2.mk x_2.Neg x_2.Mag))

def rotation_gauss_times (n : Nat) : Gauss → Gauss → Option Gauss
  | x_0, x_1 =>
    (integer_Mul n (Int_2.mk x_0.re.Neg x_0.re.Mag) (Int_2.mk x_1.re.Neg x_1.re.Mag)).bind fun x_2 =>
    (integer_Mul n (Int_2.mk x_0.im.Neg x_0.im.Mag) (Int_2.mk x_1.im.Neg x_1.im.Mag)).bind fun x_3 =>
    (integer_Sub n x_2 x_3).bind fun x_4 =>
    (integer_Mul n (Int_2.mk x_0.re.Neg x_0.re.Mag) (Int_2.mk x_1.im.Neg x_1.im.Mag)).bind fun x_5 =>
    (integer_Mul n (Int_2.mk x_0.im.Neg x_0.im.Mag) (Int_2.mk x_1.re.Neg x_1.re.Mag)).bind fun x_6 =>
    (integer_Add n x_5 x_6).bind fun x_7 =>
    some ((Gauss.mk (Int_2.mk x_4.Neg x_4.Mag) (Int_2.mk x_7.Neg x_7.Mag)))

def rotation_Then (n : Nat) : Rot → Rot → Option Rot
  | x_0, x_1 =>
    (rotation_Norm n (Rot.mk (Int_2.mk x_0.P.Neg x_0.P.Mag) (Int_2.mk x_0.Q.Neg x_0.Q.Mag))).bind fun x_2 =>
    (rotation_of n x_2).bind fun x_3 =>
    (rotation_Norm n (Rot.mk (Int_2.mk x_1.P.Neg x_1.P.Mag) (Int_2.mk x_1.Q.Neg x_1.Q.Mag))).bind fun x_4 =>
    (rotation_of n x_4).bind fun x_5 =>
    (rotation_gauss_times n x_3 x_5).bind fun x_6 =>
    (rotation_gauss_rot n x_6).bind fun x_7 =>
    some ((Rot.mk (Int_2.mk x_7.P.Neg x_7.P.Mag) (Int_2.mk x_7.Q.Neg x_7.Q.Mag)))

def rotation_Mark_L1 (n : Nat) (x_0 : Int) : (Bool × (List Int) × Bool × (List Int) × Int) → Option (Out (Bool × (List Int) × Bool × (List Int) × Int) (Bool × (List Int) × Bool × (List Int)))
  | (x_1, x_2, x_3, x_4, x_5) =>
    cond (decide (x_5 < (IntKind.i64.wrap ((ib .and .i64 x_0 255).tdiv 64))))
    ((rotation_Of n 1 1).bind fun x_6 =>
    (rotation_Then n (Rot.mk (Int_2.mk x_1 x_2) (Int_2.mk x_3 x_4)) x_6).bind fun x_7 =>
    some (.go (x_7.P.Neg, x_7.P.Mag, x_7.Q.Neg, x_7.Q.Mag, (IntKind.i64.wrap (x_5 + 1)))))
    (some (.done (x_1, x_2, x_3, x_4)))

def rotation_Mark (n : Nat) : Int → Option Rot
  | x_0 =>
    (rotation_Of n ((ib .and .i64 x_0 255).tmod 64) 64).bind fun x_1 =>
    (loopN (rotation_Mark_L1 n x_0) n (x_1.P.Neg, x_1.P.Mag, x_1.Q.Neg, x_1.Q.Mag, 0) : Option (Bool × (List Int) × Bool × (List Int))).bind fun (x_2, x_3, x_4, x_5) =>
    some ((Rot.mk (Int_2.mk x_2 x_3) (Int_2.mk x_4 x_5)))

def rotation_gauss_square (n : Nat) : Gauss → Option Int_2
  | x_0 =>
    (integer_Mul n (Int_2.mk x_0.re.Neg x_0.re.Mag) (Int_2.mk x_0.re.Neg x_0.re.Mag)).bind fun x_1 =>
    (integer_Mul n (Int_2.mk x_0.im.Neg x_0.im.Mag) (Int_2.mk x_0.im.Neg x_0.im.Mag)).bind fun x_2 =>
    (integer_Add n x_1 x_2).bind fun x_3 =>
    some ((Int_2.mk x_3.Neg x_3.Mag))

def rational_New (n : Nat) : Int_2 → Int_2 → Option Rational
  | x_0, x_1 =>
    (integer_Sign n (Int_2.mk x_1.Neg x_1.Mag)).bind fun x_2 =>
    cond (x_2 == 0)
    ((integer_Of n 0).bind fun x_3 =>
    (integer_Of n 1).bind fun x_4 =>
    some ((Rational.mk (Int_2.mk x_3.Neg x_3.Mag) (Int_2.mk x_4.Neg x_4.Mag))))
    (((integer_Sign n (Int_2.mk x_1.Neg x_1.Mag)).bind fun x_5 =>
    cond (decide (x_5 < 0))
    ((integer_Neg n (Int_2.mk x_0.Neg x_0.Mag)).bind fun x_6 =>
    (integer_Neg n (Int_2.mk x_1.Neg x_1.Mag)).bind fun x_7 =>
    some ((x_6.Neg, x_6.Mag, x_7.Neg, x_7.Mag)))
    (some ((x_0.Neg, x_0.Mag, x_1.Neg, x_1.Mag))) : Option (Bool × (List Int) × Bool × (List Int))).bind fun (x_8, x_9, x_a, x_b) =>
    (integer_Gcd n (Int_2.mk x_8 x_9) (Int_2.mk x_a x_b)).bind fun x_c =>
    (integer_DivMod n (Int_2.mk x_8 x_9) (Int_2.mk x_c.Neg x_c.Mag)).bind fun (x_d, x_e, x_f) =>
    (integer_DivMod n (Int_2.mk x_a x_b) (Int_2.mk x_c.Neg x_c.Mag)).bind fun (x_g, x_h, x_i) =>
    some ((Rational.mk (Int_2.mk x_d.Neg x_d.Mag) (Int_2.mk x_g.Neg x_g.Mag))))

def rotation_Sine (n : Nat) : Rot → Option Rational
  | x_0 =>
    (rotation_Norm n (Rot.mk (Int_2.mk x_0.P.Neg x_0.P.Mag) (Int_2.mk x_0.Q.Neg x_0.Q.Mag))).bind fun x_1 =>
    (rotation_of n x_1).bind fun x_2 =>
    (rotation_gauss_times n (Gauss.mk (Int_2.mk x_2.re.Neg x_2.re.Mag) (Int_2.mk x_2.im.Neg x_2.im.Mag)) (Gauss.mk (Int_2.mk x_2.re.Neg x_2.re.Mag) (Int_2.mk x_2.im.Neg x_2.im.Mag))).bind fun x_3 =>
    (rotation_gauss_square n (Gauss.mk (Int_2.mk x_2.re.Neg x_2.re.Mag) (Int_2.mk x_2.im.Neg x_2.im.Mag))).bind fun x_4 =>
    (rational_New n (Int_2.mk x_3.im.Neg x_3.im.Mag) x_4).bind fun x_5 =>
    some ((Rational.mk (Int_2.mk x_5.Num.Neg x_5.Num.Mag) (Int_2.mk x_5.Den.Neg x_5.Den.Mag)))

def rational_Norm (n : Nat) : Rational → Option Rational
  | x_0 =>
    (rational_New n (Int_2.mk x_0.Num.Neg x_0.Num.Mag) (Int_2.mk x_0.Den.Neg x_0.Den.Mag)).bind fun x_1 =>
    some ((Rational.mk (Int_2.mk x_1.Num.Neg x_1.Num.Mag) (Int_2.mk x_1.Den.Neg x_1.Den.Mag)))

def integer_Cmp (n : Nat) : Int_2 → Int_2 → Option Int
  | x_0, x_1 =>
    (integer_Sign n (Int_2.mk x_0.Neg x_0.Mag)).bind fun x_2 =>
    (integer_Sign n (Int_2.mk x_1.Neg x_1.Mag)).bind fun x_3 =>
    cond (decide (x_2 < x_3))
    (some ((-1)))
    (cond (decide (x_2 > x_3))
    (some (1))
    ((integer_trim n x_0.Mag).bind fun x_4 =>
    (integer_trim n x_1.Mag).bind fun x_5 =>
    (integer_compare n x_4 x_5).bind fun x_6 =>
    some ((IntKind.i64.wrap (x_2 * x_6)))))

def rational_one (n : Nat) : Int_2 → Option Bool
  | x_0 =>
    (integer_Of n 1).bind fun x_1 =>
    (integer_Cmp n (Int_2.mk x_0.Neg x_0.Mag) x_1).bind fun x_2 =>
    some ((x_2 == 0))

def slices_Reversestring_string__L0 : ((List ByteArray) × Int × Int) → Option (Out ((List ByteArray) × Int × Int) (List ByteArray))
  | (x_0, x_1, x_2) =>
    cond (decide (x_1 < x_2))
    (((idx x_0 x_2).bind fun x_3 =>
    (idx x_0 x_1).bind fun x_4 =>
    (idx x_0 x_1).bind fun x_5 =>
    (idx (upd x_0 x_1 x_3) x_2).bind fun x_6 =>
    some ((upd (upd x_0 x_1 x_3) x_2 x_4)) : Option (List ByteArray)).bind fun x_7 =>
    some (.go (x_7, (IntKind.i64.wrap (x_1 + 1)), (IntKind.i64.wrap (x_2 - 1)))))
    (some (.done x_0))

def slices_Reversestring_string_ (n : Nat) : (List ByteArray) → Option (List ByteArray)
  | x_0 =>
    loopN (slices_Reversestring_string__L0) n (x_0, 0, (IntKind.i64.wrap ((x_0.length : Int) - 1)))

def integer_Text_L1 (n : Nat) : ((List Int) × (List ByteArray)) → Option (Out ((List Int) × (List ByteArray)) (List ByteArray))
  | (x_0, x_1) =>
    cond (decide ((x_0.length : Int) > 0))
    ((integer_short n x_0 1000000000).bind fun (x_2, x_3) =>
    (integer_trim n x_2).bind fun x_4 =>
    (strconv_FormatUint n (IntKind.u64.wrap x_3) 10).bind fun x_5 =>
    (cond (decide ((x_4.length : Int) > 0))
    ((strings_Repeat n (ByteArray.mk #[48]) (IntKind.i64.wrap (9 - (x_5.size : Int)))).bind fun x_6 =>
    (need (decide (x_6.size + x_5.size ≤ 9223372036854775807))).bind fun _ =>
    some ((x_6 ++ x_5)))
    (some (x_5)) : Option ByteArray).bind fun x_7 =>
    (app x_1 [x_7]).bind fun x_8 =>
    some (.go (x_4, x_8)))
    (some (.done x_1))

def integer_Text (n : Nat) : Int_2 → Option ByteArray
  | x_0 =>
    (integer_trim n x_0.Mag).bind fun x_1 =>
    (slices_Cloneuint32_uint32_ n x_1).bind fun x_2 =>
    cond ((x_2.length : Int) == 0)
    (some ((ByteArray.mk #[48])))
    ((loopN (integer_Text_L1 n) n (x_2, []) : Option (List ByteArray)).bind fun x_3 =>
    (cond x_0.Neg
    ((app x_3 [(ByteArray.mk #[45])]).bind fun x_4 =>
    some (x_4))
    (some (x_3)) : Option (List ByteArray)).bind fun x_5 =>
    (slices_Reversestring_string_ n x_5).bind fun x_6 =>
    (strings_Join n x_6 (ByteArray.mk #[])).bind fun x_7 =>
    some (x_7))

def rational_Text (n : Nat) : Rational → Option ByteArray
  | x_0 =>
    (rational_Norm n (Rational.mk (Int_2.mk x_0.Num.Neg x_0.Num.Mag) (Int_2.mk x_0.Den.Neg x_0.Den.Mag))).bind fun x_1 =>
    (rational_one n (Int_2.mk x_1.Den.Neg x_1.Den.Mag)).bind fun x_2 =>
    cond x_2
    ((integer_Text n (Int_2.mk x_1.Num.Neg x_1.Num.Mag)).bind fun x_3 =>
    some (x_3))
    ((integer_Text n (Int_2.mk x_1.Num.Neg x_1.Num.Mag)).bind fun x_4 =>
    (need (decide (x_4.size + (ByteArray.mk #[47]).size ≤ 9223372036854775807))).bind fun _ =>
    (integer_Text n (Int_2.mk x_1.Den.Neg x_1.Den.Mag)).bind fun x_5 =>
    (need (decide ((x_4 ++ (ByteArray.mk #[47])).size + x_5.size ≤ 9223372036854775807))).bind fun _ =>
    some (((x_4 ++ (ByteArray.mk #[47])) ++ x_5)))

def top_beamsAwake (n : Nat) : Option Bool :=
    (heading_Beam n 32 0).bind fun x_0 =>
    (cond ((x_0.X == 3) && ((x_0.Y == 4) && ((x_0.D == 5) && true)))
    ((rotation_Mark n 32).bind fun x_1 =>
    (rotation_Sine n x_1).bind fun x_2 =>
    (rational_Text n x_2).bind fun x_3 =>
    some ((x_3.toList == (ByteArray.mk #[52, 47, 53]).toList)))
    (some (false)) : Option Bool).bind fun x_4 =>
    some (x_4)

def base_Clip (n : Nat) : Int → Int → Int → Option Int
  | x_0, x_1, x_2 =>
    some ((if (if x_2 < x_0 then x_2 else x_0) > x_1 then (if x_2 < x_0 then x_2 else x_0) else x_1))

def base_Mod (n : Nat) : Int → Int → Option Int
  | x_0, x_1 =>
    (need (decide (x_1 ≠ 0))).bind fun _ =>
    (cond (decide ((x_0.tmod x_1) < 0))
    (some ((IntKind.i64.wrap ((x_0.tmod x_1) + x_1))))
    (some ((x_0.tmod x_1))) : Option Int).bind fun x_2 =>
    some (x_2)

def rational_Of (n : Nat) : Int → Int → Option Rational
  | x_0, x_1 =>
    (integer_Of n x_0).bind fun x_2 =>
    (integer_Of n x_1).bind fun x_3 =>
    (rational_New n x_2 x_3).bind fun x_4 =>
    some ((Rational.mk (Int_2.mk x_4.Num.Neg x_4.Num.Mag) (Int_2.mk x_4.Den.Neg x_4.Den.Mag)))

def rational_Add (n : Nat) : Rational → Rational → Option Rational
  | x_0, x_1 =>
    (rational_Norm n (Rational.mk (Int_2.mk x_0.Num.Neg x_0.Num.Mag) (Int_2.mk x_0.Den.Neg x_0.Den.Mag))).bind fun x_2 =>
    (rational_Norm n (Rational.mk (Int_2.mk x_1.Num.Neg x_1.Num.Mag) (Int_2.mk x_1.Den.Neg x_1.Den.Mag))).bind fun x_3 =>
    (integer_Mul n (Int_2.mk x_2.Num.Neg x_2.Num.Mag) (Int_2.mk x_3.Den.Neg x_3.Den.Mag)).bind fun x_4 =>
    (integer_Mul n (Int_2.mk x_3.Num.Neg x_3.Num.Mag) (Int_2.mk x_2.Den.Neg x_2.Den.Mag)).bind fun x_5 =>
    (integer_Add n x_4 x_5).bind fun x_6 =>
    (integer_Mul n (Int_2.mk x_2.Den.Neg x_2.Den.Mag) (Int_2.mk x_3.Den.Neg x_3.Den.Mag)).bind fun x_7 =>
    (rational_New n x_6 x_7).bind fun x_8 =>
    some ((Rational.mk (Int_2.mk x_8.Num.Neg x_8.Num.Mag) (Int_2.mk x_8.Den.Neg x_8.Den.Mag)))

def rotation_Cosine (n : Nat) : Rot → Option Rational
  | x_0 =>
    (rotation_Norm n (Rot.mk (Int_2.mk x_0.P.Neg x_0.P.Mag) (Int_2.mk x_0.Q.Neg x_0.Q.Mag))).bind fun x_1 =>
    (rotation_of n x_1).bind fun x_2 =>
    (rotation_gauss_times n (Gauss.mk (Int_2.mk x_2.re.Neg x_2.re.Mag) (Int_2.mk x_2.im.Neg x_2.im.Mag)) (Gauss.mk (Int_2.mk x_2.re.Neg x_2.re.Mag) (Int_2.mk x_2.im.Neg x_2.im.Mag))).bind fun x_3 =>
    (rotation_gauss_square n (Gauss.mk (Int_2.mk x_2.re.Neg x_2.re.Mag) (Int_2.mk x_2.im.Neg x_2.im.Mag))).bind fun x_4 =>
    (rational_New n (Int_2.mk x_3.re.Neg x_3.re.Mag) x_4).bind fun x_5 =>
    some ((Rational.mk (Int_2.mk x_5.Num.Neg x_5.Num.Mag) (Int_2.mk x_5.Den.Neg x_5.Den.Mag)))

def rational_Mul (n : Nat) : Rational → Rational → Option Rational
  | x_0, x_1 =>
    (integer_Mul n (Int_2.mk x_0.Num.Neg x_0.Num.Mag) (Int_2.mk x_1.Num.Neg x_1.Num.Mag)).bind fun x_2 =>
    (integer_Mul n (Int_2.mk x_0.Den.Neg x_0.Den.Mag) (Int_2.mk x_1.Den.Neg x_1.Den.Mag)).bind fun x_3 =>
    (rational_New n x_2 x_3).bind fun x_4 =>
    some ((Rational.mk (Int_2.mk x_4.Num.Neg x_4.Num.Mag) (Int_2.mk x_4.Den.Neg x_4.Den.Mag)))

def rational_Neg (n : Nat) : Rational → Option Rational
  | x_0 =>
    (integer_Neg n (Int_2.mk x_0.Num.Neg x_0.Num.Mag)).bind fun x_1 =>
    (rational_New n x_1 (Int_2.mk x_0.Den.Neg x_0.Den.Mag)).bind fun x_2 =>
    some ((Rational.mk (Int_2.mk x_2.Num.Neg x_2.Num.Mag) (Int_2.mk x_2.Den.Neg x_2.Den.Mag)))

def rational_Sub (n : Nat) : Rational → Rational → Option Rational
  | x_0, x_1 =>
    (rational_Neg n (Rational.mk (Int_2.mk x_1.Num.Neg x_1.Num.Mag) (Int_2.mk x_1.Den.Neg x_1.Den.Mag))).bind fun x_2 =>
    (rational_Add n (Rational.mk (Int_2.mk x_0.Num.Neg x_0.Num.Mag) (Int_2.mk x_0.Den.Neg x_0.Den.Mag)) x_2).bind fun x_3 =>
    some ((Rational.mk (Int_2.mk x_3.Num.Neg x_3.Num.Mag) (Int_2.mk x_3.Den.Neg x_3.Den.Mag)))

def rotation_Turn (n : Nat) : Rot → Rational → Rational → Option (Rational × Rational)
  | x_0, x_1, x_2 =>
    ((rotation_Cosine n (Rot.mk (Int_2.mk x_0.P.Neg x_0.P.Mag) (Int_2.mk x_0.Q.Neg x_0.Q.Mag))).bind fun x_3 =>
    (rotation_Sine n (Rot.mk (Int_2.mk x_0.P.Neg x_0.P.Mag) (Int_2.mk x_0.Q.Neg x_0.Q.Mag))).bind fun x_4 =>
    some ((x_3.Num.Neg, x_3.Num.Mag, x_3.Den.Neg, x_3.Den.Mag, x_4.Num.Neg, x_4.Num.Mag, x_4.Den.Neg, x_4.Den.Mag)) : Option (Bool × (List Int) × Bool × (List Int) × Bool × (List Int) × Bool × (List Int))).bind fun (x_5, x_6, x_7, x_8, x_9, x_a, x_b, x_c) =>
    (rational_Mul n (Rational.mk (Int_2.mk x_5 x_6) (Int_2.mk x_7 x_8)) (Rational.mk (Int_2.mk x_1.Num.Neg x_1.Num.Mag) (Int_2.mk x_1.Den.Neg x_1.Den.Mag))).bind fun x_d =>
    (rational_Mul n (Rational.mk (Int_2.mk x_9 x_a) (Int_2.mk x_b x_c)) (Rational.mk (Int_2.mk x_2.Num.Neg x_2.Num.Mag) (Int_2.mk x_2.Den.Neg x_2.Den.Mag))).bind fun x_e =>
    (rational_Sub n x_d x_e).bind fun x_f =>
    (rational_Mul n (Rational.mk (Int_2.mk x_9 x_a) (Int_2.mk x_b x_c)) (Rational.mk (Int_2.mk x_1.Num.Neg x_1.Num.Mag) (Int_2.mk x_1.Den.Neg x_1.Den.Mag))).bind fun x_g =>
    (rational_Mul n (Rational.mk (Int_2.mk x_5 x_6) (Int_2.mk x_7 x_8)) (Rational.mk (Int_2.mk x_2.Num.Neg x_2.Num.Mag) (Int_2.mk x_2.Den.Neg x_2.Den.Mag))).bind fun x_h =>
    (rational_Add n x_g x_h).bind fun x_i =>
    some (((Rational.mk (Int_2.mk x_f.Num.Neg x_f.Num.Mag) (Int_2.mk x_f.Den.Neg x_f.Den.Mag)), (Rational.mk (Int_2.mk x_i.Num.Neg x_i.Num.Mag) (Int_2.mk x_i.Den.Neg x_i.Den.Mag))))

def rotation_Act (n : Nat) : Transform → Rational → Rational → Option (Rational × Rational)
  | x_0, x_1, x_2 =>
    (rotation_Turn n (Rot.mk (Int_2.mk x_0.R.P.Neg x_0.R.P.Mag) (Int_2.mk x_0.R.Q.Neg x_0.R.Q.Mag)) (Rational.mk (Int_2.mk x_1.Num.Neg x_1.Num.Mag) (Int_2.mk x_1.Den.Neg x_1.Den.Mag)) (Rational.mk (Int_2.mk x_2.Num.Neg x_2.Num.Mag) (Int_2.mk x_2.Den.Neg x_2.Den.Mag))).bind fun (x_3, x_4) =>
    (rational_Add n (Rational.mk (Int_2.mk x_3.Num.Neg x_3.Num.Mag) (Int_2.mk x_3.Den.Neg x_3.Den.Mag)) (Rational.mk (Int_2.mk x_0.X.Num.Neg x_0.X.Num.Mag) (Int_2.mk x_0.X.Den.Neg x_0.X.Den.Mag))).bind fun x_5 =>
    (rational_Add n (Rational.mk (Int_2.mk x_4.Num.Neg x_4.Num.Mag) (Int_2.mk x_4.Den.Neg x_4.Den.Mag)) (Rational.mk (Int_2.mk x_0.Y.Num.Neg x_0.Y.Num.Mag) (Int_2.mk x_0.Y.Den.Neg x_0.Y.Den.Mag))).bind fun x_6 =>
    some (((Rational.mk (Int_2.mk x_5.Num.Neg x_5.Num.Mag) (Int_2.mk x_5.Den.Neg x_5.Den.Mag)), (Rational.mk (Int_2.mk x_6.Num.Neg x_6.Num.Mag) (Int_2.mk x_6.Den.Neg x_6.Den.Mag))))

def rotation_Compose (n : Nat) : Transform → Transform → Option Transform
  | x_0, x_1 =>
    (rotation_Act n (Transform.mk (Rot.mk (Int_2.mk x_0.R.P.Neg x_0.R.P.Mag) (Int_2.mk x_0.R.Q.Neg x_0.R.Q.Mag)) (Rational.mk (Int_2.mk x_0.X.Num.Neg x_0.X.Num.Mag) (Int_2.mk x_0.X.Den.Neg x_0.X.Den.Mag)) (Rational.mk (Int_2.mk x_0.Y.Num.Neg x_0.Y.Num.Mag) (Int_2.mk x_0.Y.Den.Neg x_0.Y.Den.Mag))) (Rational.mk (Int_2.mk x_1.X.Num.Neg x_1.X.Num.Mag) (Int_2.mk x_1.X.Den.Neg x_1.X.Den.Mag)) (Rational.mk (Int_2.mk x_1.Y.Num.Neg x_1.Y.Num.Mag) (Int_2.mk x_1.Y.Den.Neg x_1.Y.Den.Mag))).bind fun (x_2, x_3) =>
    (rotation_Then n (Rot.mk (Int_2.mk x_0.R.P.Neg x_0.R.P.Mag) (Int_2.mk x_0.R.Q.Neg x_0.R.Q.Mag)) (Rot.mk (Int_2.mk x_1.R.P.Neg x_1.R.P.Mag) (Int_2.mk x_1.R.Q.Neg x_1.R.Q.Mag))).bind fun x_4 =>
    some ((Transform.mk (Rot.mk (Int_2.mk x_4.P.Neg x_4.P.Mag) (Int_2.mk x_4.Q.Neg x_4.Q.Mag)) (Rational.mk (Int_2.mk x_2.Num.Neg x_2.Num.Mag) (Int_2.mk x_2.Den.Neg x_2.Den.Mag)) (Rational.mk (Int_2.mk x_3.Num.Neg x_3.Num.Mag) (Int_2.mk x_3.Den.Neg x_3.Den.Mag))))

def rotation_Inverse (n : Nat) : Rot → Option Rot
  | x_0 =>
    (rotation_of n (Rot.mk (Int_2.mk x_0.P.Neg x_0.P.Mag) (Int_2.mk x_0.Q.Neg x_0.Q.Mag))).bind fun x_1 =>
    (integer_Neg n (Int_2.mk x_1.im.Neg x_1.im.Mag)).bind fun x_2 =>
    (rotation_gauss_rot n (Gauss.mk (Int_2.mk x_1.re.Neg x_1.re.Mag) (Int_2.mk x_2.Neg x_2.Mag))).bind fun x_3 =>
    some ((Rot.mk (Int_2.mk x_3.P.Neg x_3.P.Mag) (Int_2.mk x_3.Q.Neg x_3.Q.Mag)))

def rotation_Back (n : Nat) : Transform → Option Transform
  | x_0 =>
    (rotation_Inverse n (Rot.mk (Int_2.mk x_0.R.P.Neg x_0.R.P.Mag) (Int_2.mk x_0.R.Q.Neg x_0.R.Q.Mag))).bind fun x_1 =>
    ((rational_Neg n (Rational.mk (Int_2.mk x_0.X.Num.Neg x_0.X.Num.Mag) (Int_2.mk x_0.X.Den.Neg x_0.X.Den.Mag))).bind fun x_2 =>
    (rational_Neg n (Rational.mk (Int_2.mk x_0.Y.Num.Neg x_0.Y.Num.Mag) (Int_2.mk x_0.Y.Den.Neg x_0.Y.Den.Mag))).bind fun x_3 =>
    (rotation_Turn n (Rot.mk (Int_2.mk x_1.P.Neg x_1.P.Mag) (Int_2.mk x_1.Q.Neg x_1.Q.Mag)) x_2 x_3).bind fun (x_4, x_5) =>
    some ((x_4.Num.Neg, x_4.Num.Mag, x_4.Den.Neg, x_4.Den.Mag, x_5.Num.Neg, x_5.Num.Mag, x_5.Den.Neg, x_5.Den.Mag)) : Option (Bool × (List Int) × Bool × (List Int) × Bool × (List Int) × Bool × (List Int))).bind fun (x_6, x_7, x_8, x_9, x_a, x_b, x_c, x_d) =>
    some ((Transform.mk (Rot.mk (Int_2.mk x_1.P.Neg x_1.P.Mag) (Int_2.mk x_1.Q.Neg x_1.Q.Mag)) (Rational.mk (Int_2.mk x_6 x_7) (Int_2.mk x_8 x_9)) (Rational.mk (Int_2.mk x_a x_b) (Int_2.mk x_c x_d))))

def base_Int_L1 (x_0 : Int_2) (x_1 : Int_2) : Int → Option (Out Int (Out Unit Bool))
  | x_2 =>
    cond (decide (x_2 < (x_0.Mag.length : Int)))
    ((idx x_0.Mag x_2).bind fun x_3 =>
    (idx x_1.Mag x_2).bind fun x_4 =>
    cond (x_3 != x_4)
    (some (.done (.done false)))
    (some (.go (IntKind.i64.wrap (x_2 + 1)))))
    (some (.done (.go ())))

def base_Int (n : Nat) : Int_2 → Int_2 → Option Bool
  | x_0, x_1 =>
    (cond (!(x_0.Neg == x_1.Neg))
    (some (true))
    (some (((x_0.Mag.length : Int) != (x_1.Mag.length : Int)))) : Option Bool).bind fun x_2 =>
    cond x_2
    (some (false))
    ((loopN (base_Int_L1 x_0 x_1) n 0 : Option (Out Unit Bool)).bind fun y_3 => (match y_3 with
    | .go _ =>
    some (true)
    | .done r => some r))

def base_Rational (n : Nat) : Rational → Rational → Option Bool
  | x_0, x_1 =>
    ((base_Int n (Int_2.mk x_0.Num.Neg x_0.Num.Mag) (Int_2.mk x_1.Num.Neg x_1.Num.Mag)).bind fun x_2 =>
    cond x_2
    ((base_Int n (Int_2.mk x_0.Den.Neg x_0.Den.Mag) (Int_2.mk x_1.Den.Neg x_1.Den.Mag)).bind fun x_3 =>
    some (x_3))
    (some (false)) : Option Bool).bind fun x_4 =>
    some (x_4)

def top_WholeBeams (n : Nat) : Pose → Int → Int → Option Bool
  | x_0, x_1, x_2 =>
    (top_beamsAwake n ).bind fun x_3 =>
    cond (!x_3)
    (some (false))
    ((base_Clip n x_0.X (-1048576) 1048576).bind fun x_4 =>
    (base_Clip n x_0.Y (-1048576) 1048576).bind fun x_5 =>
    (base_Mod n x_0.H 256).bind fun x_6 =>
    (base_Mod n x_1 256).bind fun x_7 =>
    (base_Clip n x_2 0 2048).bind fun x_8 =>
    (rational_Of n 0 1).bind fun x_9 =>
    (heading_Beam n x_6 x_7).bind fun x_a =>
    cond (decide (x_a.D < 1))
    (some (false))
    (((rational_Of n x_4 1).bind fun x_b =>
    (rational_Of n (IntKind.i64.wrap (x_8 * x_a.X)) x_a.D).bind fun x_c =>
    (rational_Add n x_b x_c).bind fun x_d =>
    some ((x_d.Num.Neg, x_d.Num.Mag, x_d.Den.Neg, x_d.Den.Mag)) : Option (Bool × (List Int) × Bool × (List Int))).bind fun (x_e, x_f, x_g, x_h) =>
    ((rational_Of n x_5 1).bind fun x_i =>
    (rational_Of n (IntKind.i64.wrap (x_8 * x_a.Y)) x_a.D).bind fun x_j =>
    (rational_Add n x_i x_j).bind fun x_k =>
    some ((x_k.Num.Neg, x_k.Num.Mag, x_k.Den.Neg, x_k.Den.Mag)) : Option (Bool × (List Int) × Bool × (List Int))).bind fun (x_l, x_m, x_n, x_o) =>
    ((rotation_Mark n x_6).bind fun x_p =>
    (rational_Of n x_4 1).bind fun x_q =>
    (rational_Of n x_5 1).bind fun x_r =>
    some ((x_p.P.Neg, x_p.P.Mag, x_p.Q.Neg, x_p.Q.Mag, x_q.Num.Neg, x_q.Num.Mag, x_q.Den.Neg, x_q.Den.Mag, x_r.Num.Neg, x_r.Num.Mag, x_r.Den.Neg, x_r.Den.Mag)) : Option (Bool × (List Int) × Bool × (List Int) × Bool × (List Int) × Bool × (List Int) × Bool × (List Int) × Bool × (List Int))).bind fun (x_s, x_t, x_u, x_v, x_w, x_x, x_y, x_z, x_10, x_11, x_12, x_13) =>
    ((rotation_Mark n x_7).bind fun x_14 =>
    (rational_Of n x_8 1).bind fun x_15 =>
    (rotation_Turn n x_14 x_15 (Rational.mk (Int_2.mk x_9.Num.Neg x_9.Num.Mag) (Int_2.mk x_9.Den.Neg x_9.Den.Mag))).bind fun (x_16, x_17) =>
    some ((x_16.Num.Neg, x_16.Num.Mag, x_16.Den.Neg, x_16.Den.Mag, x_17.Num.Neg, x_17.Num.Mag, x_17.Den.Neg, x_17.Den.Mag)) : Option (Bool × (List Int) × Bool × (List Int) × Bool × (List Int) × Bool × (List Int))).bind fun (x_18, x_19, x_1a, x_1b, x_1c, x_1d, x_1e, x_1f) =>
    (rotation_Act n (Transform.mk (Rot.mk (Int_2.mk x_s x_t) (Int_2.mk x_u x_v)) (Rational.mk (Int_2.mk x_w x_x) (Int_2.mk x_y x_z)) (Rational.mk (Int_2.mk x_10 x_11) (Int_2.mk x_12 x_13))) (Rational.mk (Int_2.mk x_18 x_19) (Int_2.mk x_1a x_1b)) (Rational.mk (Int_2.mk x_1c x_1d) (Int_2.mk x_1e x_1f))).bind fun (x_1g, x_1h) =>
    ((rotation_Mark n x_7).bind fun x_1i =>
    some ((x_19, x_1b, x_1d, x_1f, x_1i.P.Neg, x_1i.P.Mag, x_1i.Q.Neg, x_1i.Q.Mag, x_18, x_19, x_1a, x_1b, x_1c, x_1d, x_1e, x_1f)) : Option ((List Int) × (List Int) × (List Int) × (List Int) × Bool × (List Int) × Bool × (List Int) × Bool × (List Int) × Bool × (List Int) × Bool × (List Int) × Bool × (List Int))).bind fun (x_1j, x_1k, x_1l, x_1m, x_1n, x_1o, x_1p, x_1q, x_1r, x_1s, x_1t, x_1u, x_1v, x_1w, x_1x, x_1y) =>
    (rotation_Compose n (Transform.mk (Rot.mk (Int_2.mk x_s x_t) (Int_2.mk x_u x_v)) (Rational.mk (Int_2.mk x_w x_x) (Int_2.mk x_y x_z)) (Rational.mk (Int_2.mk x_10 x_11) (Int_2.mk x_12 x_13))) (Transform.mk (Rot.mk (Int_2.mk x_1n x_1o) (Int_2.mk x_1p x_1q)) (Rational.mk (Int_2.mk x_1r x_1s) (Int_2.mk x_1t x_1u)) (Rational.mk (Int_2.mk x_1v x_1w) (Int_2.mk x_1x x_1y)))).bind fun x_1z =>
    (rotation_Act n (Transform.mk (Rot.mk (Int_2.mk x_1z.R.P.Neg x_1z.R.P.Mag) (Int_2.mk x_1z.R.Q.Neg x_1z.R.Q.Mag)) (Rational.mk (Int_2.mk x_1z.X.Num.Neg x_1z.X.Num.Mag) (Int_2.mk x_1z.X.Den.Neg x_1z.X.Den.Mag)) (Rational.mk (Int_2.mk x_1z.Y.Num.Neg x_1z.Y.Num.Mag) (Int_2.mk x_1z.Y.Den.Neg x_1z.Y.Den.Mag))) (Rational.mk (Int_2.mk x_9.Num.Neg x_9.Num.Mag) (Int_2.mk x_9.Den.Neg x_9.Den.Mag)) (Rational.mk (Int_2.mk x_9.Num.Neg x_9.Num.Mag) (Int_2.mk x_9.Den.Neg x_9.Den.Mag))).bind fun (x_20, x_21) =>
    ((rational_Of n 1 1).bind fun x_22 =>
    (rotation_Turn n (Rot.mk (Int_2.mk x_1z.R.P.Neg x_1z.R.P.Mag) (Int_2.mk x_1z.R.Q.Neg x_1z.R.Q.Mag)) x_22 (Rational.mk (Int_2.mk x_9.Num.Neg x_9.Num.Mag) (Int_2.mk x_9.Den.Neg x_9.Den.Mag))).bind fun (x_23, x_24) =>
    some ((x_23.Num.Neg, x_23.Num.Mag, x_23.Den.Neg, x_23.Den.Mag, x_24.Num.Neg, x_24.Num.Mag, x_24.Den.Neg, x_24.Den.Mag)) : Option (Bool × (List Int) × Bool × (List Int) × Bool × (List Int) × Bool × (List Int))).bind fun (x_25, x_26, x_27, x_28, x_29, x_2a, x_2b, x_2c) =>
    ((rotation_Back n (Transform.mk (Rot.mk (Int_2.mk x_s x_t) (Int_2.mk x_u x_v)) (Rational.mk (Int_2.mk x_w x_x) (Int_2.mk x_y x_z)) (Rational.mk (Int_2.mk x_10 x_11) (Int_2.mk x_12 x_13)))).bind fun x_2d =>
    (rotation_Act n x_2d (Rational.mk (Int_2.mk x_e x_f) (Int_2.mk x_g x_h)) (Rational.mk (Int_2.mk x_l x_m) (Int_2.mk x_n x_o))).bind fun (x_2e, x_2f) =>
    some ((x_2e.Num.Neg, x_2e.Num.Mag, x_2e.Den.Neg, x_2e.Den.Mag, x_2f.Num.Neg, x_2f.Num.Mag, x_2f.Den.Neg, x_2f.Den.Mag)) : Option (Bool × (List Int) × Bool × (List Int) × Bool × (List Int) × Bool × (List Int))).bind fun (x_2g, x_2h, x_2i, x_2j, x_2k, x_2l, x_2m, x_2n) =>
    ((base_Rational n (Rational.mk (Int_2.mk x_1g.Num.Neg x_1g.Num.Mag) (Int_2.mk x_1g.Den.Neg x_1g.Den.Mag)) (Rational.mk (Int_2.mk x_e x_f) (Int_2.mk x_g x_h))).bind fun x_2o =>
    cond x_2o
    ((base_Rational n (Rational.mk (Int_2.mk x_1h.Num.Neg x_1h.Num.Mag) (Int_2.mk x_1h.Den.Neg x_1h.Den.Mag)) (Rational.mk (Int_2.mk x_l x_m) (Int_2.mk x_n x_o))).bind fun x_2p =>
    cond x_2p
    ((base_Rational n (Rational.mk (Int_2.mk x_20.Num.Neg x_20.Num.Mag) (Int_2.mk x_20.Den.Neg x_20.Den.Mag)) (Rational.mk (Int_2.mk x_e x_f) (Int_2.mk x_g x_h))).bind fun x_2q =>
    cond x_2q
    ((base_Rational n (Rational.mk (Int_2.mk x_21.Num.Neg x_21.Num.Mag) (Int_2.mk x_21.Den.Neg x_21.Den.Mag)) (Rational.mk (Int_2.mk x_l x_m) (Int_2.mk x_n x_o))).bind fun x_2r =>
    cond x_2r
    ((rational_Of n x_a.X x_a.D).bind fun x_2s =>
    (base_Rational n (Rational.mk (Int_2.mk x_25 x_26) (Int_2.mk x_27 x_28)) x_2s).bind fun x_2t =>
    cond x_2t
    ((rational_Of n x_a.Y x_a.D).bind fun x_2u =>
    (base_Rational n (Rational.mk (Int_2.mk x_29 x_2a) (Int_2.mk x_2b x_2c)) x_2u).bind fun x_2v =>
    cond x_2v
    ((base_Rational n (Rational.mk (Int_2.mk x_2g x_2h) (Int_2.mk x_2i x_2j)) (Rational.mk (Int_2.mk x_18 x_1j) (Int_2.mk x_1a x_1k))).bind fun x_2w =>
    cond x_2w
    ((base_Rational n (Rational.mk (Int_2.mk x_2k x_2l) (Int_2.mk x_2m x_2n)) (Rational.mk (Int_2.mk x_1c x_1l) (Int_2.mk x_1e x_1m))).bind fun x_2x =>
    some (x_2x))
    (some (false)))
    (some (false)))
    (some (false)))
    (some (false)))
    (some (false)))
    (some (false)))
    (some (false)) : Option Bool).bind fun x_2y =>
    some (x_2y)))

end Go.Proofs.YtcdboppghnchpaaDoor
