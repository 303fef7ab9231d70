/-
  Plain laws on the plain functions.
-/
import Derived.Test.YtminclnaelbolaaDoorDataA
import Derived.Test.YtminclnaelbolaaDoorCoreA
import Derived.Lib.TrailingZeros
namespace Go.Proofs.YtminclnaelbolaaDoor
open Go Go.Proofs.YtminclnaelbolaaDoor.Gw

theorem awake_at (n : Nat) : law29_awake (n + 64) = some true := by kernel_rfl
theorem awake_ok : Evt law29_awake true := Evt.of 64 awake_at

end Go.Proofs.YtminclnaelbolaaDoor

namespace Go.Proofs.YtminclnaelbolaaDoor
open Go Go.Proofs.YtminclnaelbolaaDoor.Gw

/- ### Sets of small numbers as the bits of a word of 32 -/
/-- The members, ascending. -/
def bl (m : Nat) : List Nat := (List.range 32).filter m.testBit
theorem mem_bl {m i : Nat} : i ∈ bl m ↔ i < 32 ∧ m.testBit i = true := by simp [bl]
theorem bl_sorted (m : Nat) : (bl m).Pairwise (· < ·) := List.pairwise_lt_range.filter _
theorem le_pow {i : Nat} (h : 32 ≤ i) : 4294967296 ≤ 2 ^ i := Nat.pow_le_pow_right (n := 2) (i := 32) (by omega) h
theorem testBit_lt {m i : Nat} (hm : m < 4294967296) (h : m.testBit i = true) : i < 32 := by
  rcases Nat.lt_or_ge i 32 with hi | hi
  · exact hi
  · have : m < 2 ^ i := Nat.lt_of_lt_of_le hm (le_pow hi)
    rw [Nat.testBit_lt_two_pow this] at h; cases h
theorem bl_ext {m k : Nat} (hm : m < 4294967296) (hk : k < 4294967296) (h : bl m = bl k) : m = k := by
  apply Nat.eq_of_testBit_eq
  intro i
  have : i ∈ bl m ↔ i ∈ bl k := by rw [h]
  rw [mem_bl, mem_bl] at this
  rcases Nat.lt_or_ge i 32 with hi | hi
  · simp only [hi, true_and] at this
    cases h1 : m.testBit i <;> cases h2 : k.testBit i <;> simp_all
  · rw [Nat.testBit_lt_two_pow (Nat.lt_of_lt_of_le hm (le_pow hi)), Nat.testBit_lt_two_pow (Nat.lt_of_lt_of_le hk (le_pow hi))]
theorem bl_zero : bl 0 = [] := by simp [bl]
theorem bl_nil {m : Nat} (hm : m < 4294967296) (h : bl m = []) : m = 0 := bl_ext hm (by omega) (by rw [h, bl_zero])
theorem sorted_ext : ∀ {l k : List Nat}, l.Pairwise (· < ·) → k.Pairwise (· < ·) → (∀ i, i ∈ l ↔ i ∈ k) → l = k
  | [], [], _, _, _ => rfl
  | [], b :: k, _, _, h => by have := (h b).2 (by simp); simp at this
  | a :: l, [], _, _, h => by have := (h a).1 (by simp); simp at this
  | a :: l, b :: k, hl, hk, h => by
    rw [List.pairwise_cons] at hl hk
    have hab : a = b := by
      rcases List.mem_cons.1 ((h a).1 (by simp)) with e | e
      · exact e
      · rcases List.mem_cons.1 ((h b).2 (by simp)) with e2 | e2
        · exact e2.symm
        · have := hk.1 a e; have := hl.1 b e2; omega
    subst hab
    rw [sorted_ext hl.2 hk.2 fun i => ?_]
    constructor
    · intro hi
      rcases List.mem_cons.1 ((h i).1 (List.mem_cons_of_mem _ hi)) with e | e
      · subst e; have := hl.1 i hi; omega
      · exact e
    · intro hi
      rcases List.mem_cons.1 ((h i).2 (List.mem_cons_of_mem _ hi)) with e | e
      · subst e; have := hk.1 i hi; omega
      · exact e
theorem bl_and (a b : Nat) : bl (a &&& b) = (bl a).filter b.testBit := by
  simp only [bl, List.filter_filter]
  congr 1; funext i
  rw [Nat.testBit_and, Bool.and_comm]
def andn (a b : Nat) : Nat := (BitVec.ofNat 32 a &&& ~~~ BitVec.ofNat 32 b).toNat
theorem andn_lt (a b : Nat) : andn a b < 4294967296 := (BitVec.ofNat 32 a &&& ~~~ BitVec.ofNat 32 b).isLt
theorem testBit_andn (a b i : Nat) (h : i < 32) : (andn a b).testBit i = (a.testBit i && !b.testBit i) := by
  unfold andn
  rw [← BitVec.getLsbD, BitVec.getLsbD_and, BitVec.getLsbD_not, BitVec.getLsbD_ofNat, BitVec.getLsbD_ofNat]
  simp [h]
theorem bl_andn (a b : Nat) : bl (andn a b) = (bl a).filter (fun i => !b.testBit i) := by
  simp only [bl, List.filter_filter]
  apply List.filter_congr
  intro i hi
  rw [testBit_andn a b i (by simpa using hi), Bool.and_comm]
theorem u32_nat {n : Nat} (h : n < 4294967296) : IntKind.u32.wrap (n : Int) = n := wrap32 (by omega)
theorem ofInt_nat (n : Nat) : BitVec.ofInt 32 (n : Int) = BitVec.ofNat 32 n := by simp
theorem ib_and {a b : Nat} (ha : a < 4294967296) (hb : b < 4294967296) : ib .and .u32 (a : Int) b = ((a &&& b : Nat) : Int) := by
  have h : (BitVec.ofInt 32 (a : Int) &&& BitVec.ofInt 32 (b : Int)).toNat = a &&& b := by
    simp only [ofInt_nat, BitVec.toNat_and, BitVec.toNat_ofNat]
    rw [Nat.mod_eq_of_lt ha, Nat.mod_eq_of_lt hb]
  show IntKind.u32.wrap ((BitVec.ofInt 32 (a : Int) &&& BitVec.ofInt 32 (b : Int)).toNat : Int) = _
  rw [h, u32_nat (Nat.lt_of_le_of_lt Nat.and_le_left ha)]
theorem ib_or {a b : Nat} (ha : a < 4294967296) (hb : b < 4294967296) : ib .or .u32 (a : Int) b = ((a ||| b : Nat) : Int) := by
  have h : (BitVec.ofInt 32 (a : Int) ||| BitVec.ofInt 32 (b : Int)).toNat = a ||| b := by
    simp only [ofInt_nat, BitVec.toNat_or, BitVec.toNat_ofNat]
    rw [Nat.mod_eq_of_lt ha, Nat.mod_eq_of_lt hb]
  show IntKind.u32.wrap ((BitVec.ofInt 32 (a : Int) ||| BitVec.ofInt 32 (b : Int)).toNat : Int) = _
  rw [h, u32_nat (Nat.or_lt_two_pow (n := 32) ha hb)]
theorem ib_andNot {a b : Nat} : ib .andNot .u32 (a : Int) b = (andn a b : Int) := by
  show IntKind.u32.wrap ((BitVec.ofInt 32 (a : Int) &&& ~~~ BitVec.ofInt 32 (b : Int)).toNat : Int) = _
  rw [ofInt_nat, ofInt_nat]
  exact u32_nat (andn_lt a b)
theorem shl1 {v : Nat} (h : v < 32) : IntKind.u32.wrap ((1 : Int) * 2 ^ min (v : Int).toNat (IntKind.u32).bits) = ((2 ^ v : Nat) : Int) := by
  have e : min (v : Int).toNat (IntKind.u32).bits = v := by simp [IntKind.bits]; omega
  rw [e]
  have h2 : 2 ^ v < 4294967296 := Nat.pow_lt_pow_right (a := 2) (by omega) h
  rw [Int.one_mul, show (2 : Int) ^ v = ((2 ^ v : Nat) : Int) by simp]
  exact u32_nat h2
theorem two_pow_lt {v : Nat} (h : v < 32) : 2 ^ v < 4294967296 := Nat.pow_lt_pow_right (a := 2) (by omega) h
theorem or_lt {a b : Nat} (ha : a < 4294967296) (hb : b < 4294967296) : a ||| b < 4294967296 := Nat.or_lt_two_pow (n := 32) ha hb
theorem and_lt {a b : Nat} (ha : a < 4294967296) : a &&& b < 4294967296 := Nat.lt_of_le_of_lt Nat.and_le_left ha
theorem mem_bl_or {a v i : Nat} (hv : v < 32) : i ∈ bl (a ||| 2 ^ v) ↔ i ∈ bl a ∨ i = v := by
  rw [mem_bl, mem_bl, Nat.testBit_or, Nat.testBit_two_pow, Bool.or_eq_true, decide_eq_true_eq]
  constructor
  · rintro ⟨h, h1 | h1⟩
    · exact .inl ⟨h, h1⟩
    · exact .inr h1.symm
  · rintro (⟨h, h1⟩ | rfl)
    · exact ⟨h, .inl h1⟩
    · exact ⟨hv, .inr rfl⟩
theorem bl_or {a v : Nat} (hv : v < 32) (h : ∀ i ∈ bl a, i < v) : bl (a ||| 2 ^ v) = bl a ++ [v] := by
  apply sorted_ext (bl_sorted _)
  · rw [List.pairwise_append]
    exact ⟨bl_sorted _, by simp, fun i hi j hj => by simp at hj; subst hj; exact h i hi⟩
  · intro i; rw [mem_bl_or hv]; simp
/-- The lowest bit. -/
theorem ctz_head {m : Nat} (hm : m < 4294967296) (h0 : m ≠ 0) : ∃ c, bl m = Lib.ctz 32 m :: c := by
  obtain ⟨k, hk, hlt⟩ := Lib.ctzFrom_spec 32 m (by omega) hm
  have e : Lib.ctz 32 m = Lib.ctzFrom 32 m := by simp [Lib.ctz, h0]
  rw [← e] at hk hlt
  generalize Lib.ctz 32 m = t at *
  have hmem : t ∈ bl m := by
    rw [mem_bl, hk, Nat.testBit_two_pow_mul]
    exact ⟨hlt, by simp⟩
  cases hb : bl m with
  | nil => rw [hb] at hmem; simp at hmem
  | cons v c =>
    rw [hb] at hmem
    rcases List.mem_cons.1 hmem with e1 | e1
    · exact ⟨c, by rw [e1]⟩
    · have hs := bl_sorted m
      rw [hb, List.pairwise_cons] at hs
      have hlt2 := hs.1 _ e1
      have hv : v ∈ bl m := by rw [hb]; simp
      rw [mem_bl] at hv
      have hv2 := hv.2
      rw [hk, Nat.testBit_two_pow_mul] at hv2
      simp at hv2
      omega
theorem bl_rest {m v : Nat} {c : List Nat} (h : bl m = v :: c) : bl (andn m (2 ^ v)) = c := by
  rw [bl_andn, h]
  have hs := bl_sorted m
  rw [h, List.pairwise_cons] at hs
  rw [List.filter_cons, Nat.testBit_two_pow]
  simp only [decide_true, Bool.not_true, Bool.false_eq_true, if_false]
  rw [List.filter_eq_self]
  intro i hi
  have := hs.1 i hi
  rw [Nat.testBit_two_pow]
  simp; omega
end Go.Proofs.YtminclnaelbolaaDoor

namespace Go.Proofs.YtminclnaelbolaaDoor
open Go Go.Proofs.YtminclnaelbolaaDoor.Gw

/- ### The number of the members -/
def popTab : ByteArray := ⟨#[0, 1, 1, 2, 1, 2, 2, 3, 1, 2, 2, 3, 2, 3, 3, 4, 1, 2, 2, 3, 2, 3, 3, 4, 2, 3, 3, 4, 3, 4, 4, 5, 1, 2, 2, 3, 2, 3, 3, 4, 2, 3, 3, 4, 3, 4, 4, 5, 2, 3, 3, 4, 3, 4, 4, 5, 3, 4, 4, 5, 4, 5, 5, 6, 1, 2, 2, 3, 2, 3, 3, 4, 2, 3, 3, 4, 3, 4, 4, 5, 2, 3, 3, 4, 3, 4, 4, 5, 3, 4, 4, 5, 4, 5, 5, 6, 2, 3, 3, 4, 3, 4, 4, 5, 3, 4, 4, 5, 4, 5, 5, 6, 3, 4, 4, 5, 4, 5, 5, 6, 4, 5, 5, 6, 5, 6, 6, 7, 1, 2, 2, 3, 2, 3, 3, 4, 2, 3, 3, 4, 3, 4, 4, 5, 2, 3, 3, 4, 3, 4, 4, 5, 3, 4, 4, 5, 4, 5, 5, 6, 2, 3, 3, 4, 3, 4, 4, 5, 3, 4, 4, 5, 4, 5, 5, 6, 3, 4, 4, 5, 4, 5, 5, 6, 4, 5, 5, 6, 5, 6, 6, 7, 2, 3, 3, 4, 3, 4, 4, 5, 3, 4, 4, 5, 4, 5, 5, 6, 3, 4, 4, 5, 4, 5, 5, 6, 4, 5, 5, 6, 5, 6, 6, 7, 3, 4, 4, 5, 4, 5, 5, 6, 4, 5, 5, 6, 5, 6, 6, 7, 4, 5, 5, 6, 5, 6, 6, 7, 5, 6, 6, 7, 6, 7, 7, 8]⟩
/-- The members below 8. -/
def b8 (m : Nat) : List Nat := (List.range 8).filter m.testBit
theorem pop_at : ∀ n : Fin 256, bidx popTab (n.val : Int) = some ((b8 n.val).length : Int) := by decide +kernel
theorem pop_nat {b : Nat} (h : b < 256) : bidx popTab (b : Int) = some ((b8 b).length : Int) := pop_at ⟨b, h⟩
theorem b8_le (m : Nat) : (b8 m).length ≤ 8 := by
  have := List.length_filter_le m.testBit (List.range 8)
  simpa [b8] using this
theorem b8_and (m : Nat) : b8 (m &&& 255) = b8 m := by
  apply List.filter_congr
  intro i hi
  have hi : i < 8 := by simpa using hi
  rw [Nat.testBit_and, show (255 : Nat) = 2 ^ 8 - 1 by rfl, Nat.testBit_two_pow_sub_one]
  simp [hi]
theorem range32 : List.range 32 = List.range 8 ++ ((List.range 8).map (· + 8) ++ ((List.range 8).map (· + 16) ++ (List.range 8).map (· + 24))) := by decide
theorem part8 (m k : Nat) : (((List.range 8).map (· + k)).filter m.testBit).length = (b8 (m / 2 ^ k)).length := by
  rw [List.filter_map, List.length_map]
  unfold b8
  congr 1
  apply List.filter_congr
  intro i _
  simp only [Function.comp, Nat.testBit_div_two_pow]
theorem bl_length (m : Nat) : (bl m).length = (b8 m).length + ((b8 (m / 2 ^ 8)).length + ((b8 (m / 2 ^ 16)).length + (b8 (m / 2 ^ 24)).length)) := by
  unfold bl
  rw [range32]
  simp only [List.filter_append, List.length_append, part8]
  rfl
theorem wrap8 {x : Int} (h : 0 ≤ x ∧ x < 256) : IntKind.u8.wrap x = x := by simp [IntKind.wrap, IntKind.signed, IntKind.bits]; omega
theorem shr_nat (m k : Nat) (K : Int) (hK : K.toNat = k) (hk : k ≤ 32) : ((m : Int).fdiv (2 ^ min K.toNat (IntKind.u32).bits)) = ((m / 2 ^ k : Nat) : Int) := by
  have e : min K.toNat (IntKind.u32).bits = k := by rw [hK]; simp [IntKind.bits]; omega
  rw [e, Int.fdiv_eq_ediv_of_nonneg _ (Int.le_of_lt (Int.pow_pos (by omega)))]
  simp
theorem size_ok {m : Nat} (hm : m < 4294967296) (n : Nat) : clique_set_size n (m : Int) = some ((bl m).length : Int) := by
  unfold clique_set_size bits_OnesCount32
  have h24 := shr_nat m 24 24 rfl (by omega)
  have h16 := shr_nat m 16 16 rfl (by omega)
  have h8 := shr_nat m 8 8 rfl (by omega)
  have l24 : m / 2 ^ 24 < 256 := by omega
  have l16 : m / 2 ^ 16 < 4294967296 := by omega
  have l8 : m / 2 ^ 8 < 4294967296 := by omega
  change (((bidx popTab ((m : Int).fdiv (2 ^ min (24 : Int).toNat (IntKind.u32).bits))).bind fun x => (bidx popTab (ib .and .u32 ((m : Int).fdiv (2 ^ min (16 : Int).toNat (IntKind.u32).bits)) ((255 : Nat) : Int))).bind fun y =>
    (bidx popTab (ib .and .u32 ((m : Int).fdiv (2 ^ min (8 : Int).toNat (IntKind.u32).bits)) ((255 : Nat) : Int))).bind fun z => (bidx popTab (ib .and .u32 (m : Int) ((255 : Nat) : Int))).bind fun u =>
      some ((IntKind.i64.wrap (IntKind.u8.wrap ((IntKind.u8.wrap ((IntKind.u8.wrap (x + y)) + z)) + u)))))).bind (fun x => some x) = _
  rw [h24, h16, h8, ib_and l16 (by omega), ib_and l8 (by omega), ib_and hm (by omega)]
  rw [pop_nat l24, pop_nat (Nat.lt_of_le_of_lt Nat.and_le_right (by omega)), pop_nat (Nat.lt_of_le_of_lt Nat.and_le_right (by omega)), pop_nat (Nat.lt_of_le_of_lt Nat.and_le_right (by omega))]
  simp only [Option.bind_some, b8_and]
  have e := bl_length m
  have := b8_le m; have := b8_le (m / 2 ^ 8); have := b8_le (m / 2 ^ 16); have := b8_le (m / 2 ^ 24)
  generalize (b8 (m / 2 ^ 24)).length = p3 at *
  generalize (b8 (m / 2 ^ 16)).length = p2 at *
  generalize (b8 (m / 2 ^ 8)).length = p1 at *
  generalize (b8 m).length = p0 at *
  rw [wrap8 (x := (p3 : Int) + p2) (by omega), wrap8 (x := (p3 : Int) + p2 + p1) (by omega), wrap8 (x := (p3 : Int) + p2 + p1 + p0) (by omega), wrap64 (by omega), e]
  congr 1
  omega
theorem low_ok {m : Nat} (hm : m < 4294967296) (h0 : m ≠ 0) : ib .and .u32 (m : Int) (IntKind.u32.wrap (0 - (m : Int))) = ((2 ^ Lib.ctz 32 m : Nat) : Int) ∧ Lib.ctz 32 m < 32 := by
  obtain ⟨hl, hk⟩ := Lib.lowest_bit 32 m h0 hm
  refine ⟨?_, hk⟩
  have e1 : IntKind.u32.wrap (0 - (m : Int)) = ((2 ^ 32 - m : Nat) : Int) := by
    have : (2 : Nat) ^ 32 = 4294967296 := rfl
    rw [this]
    simp [IntKind.wrap, IntKind.signed, IntKind.bits]; omega
  have h2 : 2 ^ 32 - m < 4294967296 := by omega
  rw [e1, ib_and hm h2, hl]
theorem tz_at : ∀ t : Fin 32, (idx tab32 ((IntKind.u32.wrap (((2 ^ t.val : Nat) : Int) * 125613361)).fdiv (2 ^ min (27 : Int).toNat (IntKind.u32).bits))).bind (fun x => some (IntKind.i64.wrap x)) = some (t.val : Int) := by decide +kernel
theorem tz_def (n : Nat) (x : Int) : bits_TrailingZeros32 n x = cond (x == 0) (some 32) ((idx tab32 ((IntKind.u32.wrap ((ib .and .u32 x (IntKind.u32.wrap (0 - x))) * 125613361)).fdiv (2 ^ min (27 : Int).toNat (IntKind.u32).bits))).bind fun x => some (IntKind.i64.wrap x)) := by kernel_rfl
theorem tz_ok {m : Nat} (hm : m < 4294967296) (h0 : m ≠ 0) (n : Nat) : bits_TrailingZeros32 n (m : Int) = some (Lib.ctz 32 m : Int) := by
  obtain ⟨hl, hk⟩ := low_ok hm h0
  have hb : ((m : Int) == 0) = false := by simp; omega
  have h1 := tz_at ⟨Lib.ctz 32 m, hk⟩
  rw [tz_def, hb, hl, cond_false]
  generalize Lib.ctz 32 m = t at *
  with_reducible exact h1
end Go.Proofs.YtminclnaelbolaaDoor

namespace Go.Proofs.YtminclnaelbolaaDoor
set_option linter.unusedVariables false
open Go Go.Proofs.YtminclnaelbolaaDoor.Gw

/- ### The best clique, on lists -/
/-- The longer one; at a tie the elder. -/
def better (b x : List Nat) : List Nat := if b.length < x.length then x else b
def bestOf (b : List Nat) (xs : List (List Nat)) : List Nat := xs.foldl better b
/-- The best clique that begins with l, its others among c: k: at least the length of c. -/
def best (adj : Nat → Nat → Bool) : Nat → List Nat → List Nat → List Nat
  | 0, l, _ => l
  | k + 1, l, c => best.over adj k (best adj k) l c l
where
  /-- Over the beginnings: each vertex of c comes next, its others behind it. -/
  over (adj : Nat → Nat → Bool) (k : Nat) (f : List Nat → List Nat → List Nat) (l : List Nat) : List Nat → List Nat → List Nat
    | [], b => b
    | v :: c, b => over adj k f l c (better b (f (l ++ [v]) (c.filter (adj v))))
theorem better_le (b x : List Nat) : b.length ≤ (better b x).length := by unfold better; split <;> omega
theorem better_le' (b x : List Nat) : x.length ≤ (better b x).length := by unfold better; split <;> omega
theorem over_le {adj : Nat → Nat → Bool} {k : Nat} {f : List Nat → List Nat → List Nat} {l : List Nat} : ∀ (c b : List Nat), b.length ≤ (best.over adj k f l c b).length
  | [], b => Nat.le_refl _
  | v :: c, b => Nat.le_trans (better_le _ _) (over_le c _)
theorem over_or {adj : Nat → Nat → Bool} {k : Nat} {f : List Nat → List Nat → List Nat} {l : List Nat} : ∀ (c b : List Nat), best.over adj k f l c b = b ∨ b.length < (best.over adj k f l c b).length
  | [], b => .inl rfl
  | v :: c, b => by
    simp only [best.over]
    generalize f (l ++ [v]) (c.filter (adj v)) = x
    by_cases h1 : b.length < x.length
    · have e1 : better b x = x := by simp [better, h1]
      rw [e1]
      have := over_le (adj := adj) (k := k) (f := f) (l := l) c x
      exact .inr (by omega)
    · have e1 : better b x = b := by simp [better, h1]
      rw [e1]; exact over_or c b
/-- From another beginning that is no shorter. -/
theorem over_from {adj : Nat → Nat → Bool} {k : Nat} {f : List Nat → List Nat → List Nat} {l : List Nat} : ∀ (c a b : List Nat), a.length ≤ b.length → best.over adj k f l c b = better b (best.over adj k f l c a)
  | [], a, b, h => by
    show b = better b a
    unfold better
    rw [if_neg (by omega)]
  | v :: c, a, b, h => by
    simp only [best.over]
    generalize f (l ++ [v]) (c.filter (adj v)) = x
    by_cases h1 : b.length < x.length
    · have e1 : better b x = x := by simp [better, h1]
      have e2 : better a x = x := by simp [better]; omega
      rw [e1, e2]
      have := over_le (adj := adj) (k := k) (f := f) (l := l) c x
      simp [better]; omega
    · have e1 : better b x = b := by simp [better, h1]
      rw [e1]
      exact over_from c (better a x) b (by unfold better; split <;> omega)
/-- No clique that begins with l is longer than l and c together. -/
theorem best_le {adj : Nat → Nat → Bool} : ∀ (k : Nat) (l c : List Nat), (best adj k l c).length ≤ l.length + c.length
  | 0, l, c => by simp [best]
  | k + 1, l, c => by
    have key : ∀ (c b : List Nat) (M : Nat), l.length + c.length ≤ M → b.length ≤ M → (best.over adj k (best adj k) l c b).length ≤ M := by
      intro c
      induction c with
      | nil => intro b M _ h; exact h
      | cons v c ih =>
        intro b M h1 h2
        simp only [List.length_cons] at h1
        refine ih _ M (by omega) ?_
        have h3 := best_le (adj := adj) k (l ++ [v]) (c.filter (adj v))
        have h4 := List.length_filter_le (adj v) c
        simp only [List.length_append, List.length_cons, List.length_nil] at h3
        unfold better; split <;> omega
    exact key c l _ (Nat.le_refl _) (by omega)
theorem over_small {adj : Nat → Nat → Bool} {k : Nat} {l : List Nat} : ∀ (c b : List Nat), l.length + c.length ≤ b.length → best.over adj k (best adj k) l c b = b
  | [], b, _ => rfl
  | v :: c, b, h => by
    simp only [List.length_cons] at h
    have h3 := best_le (adj := adj) k (l ++ [v]) (c.filter (adj v))
    have h4 := List.length_filter_le (adj v) c
    simp only [List.length_append, List.length_cons, List.length_nil] at h3
    have e : better b (best adj k (l ++ [v]) (c.filter (adj v))) = b := by unfold better; split <;> first | omega | rfl
    simp only [best.over, e]
    exact over_small c b (by omega)

/- ### search, on sets -/
theorem Evt.val {α : Type} {x : Option α} {r : α} (h : x = some r) : Evt (fun _ => x) r := Evt.congr fun _ => h
def rowsOk (g : List Int) (am : Nat → Nat) : Prop := ∀ v, v < g.length → g[v]? = some (am v : Int) ∧ am v < 4294967296
theorem search_ok (g : List Int) (am : Nat → Nat) (hg : rowsOk g am) (hl : g.length ≤ 31) : ∀ (k cur rest bst : Nat), (bl rest).length ≤ k → cur < 4294967296 → rest < 4294967296 → bst < 4294967296 →
    (∀ i ∈ bl rest, i < g.length) → (∀ i ∈ bl cur, ∀ j ∈ bl rest, i < j) →
    ∃ r : Nat, Evt (fun n => clique_graph_search n g cur rest bst) (r : Int) ∧ r < 4294967296 ∧ bl r = better (bl bst) (best (fun v => (am v).testBit) (k + 1) (bl cur) (bl rest)) := by
  intro k
  induction k using Nat.strongRecOn with
  | _ k ih =>
    intro cur rest bst hk hc hr hb hlt hord
    generalize hadj : (fun v => (am v).testBit) = adj at *
    -- the loop
    have loop : ∀ b0 : Nat, b0 < 4294967296 → (bl cur).length ≤ (bl b0).length → ∃ r : Int, Evt (fun n => loopN (clique_graph_search_L0 n (clique_graph_search n) g cur) n ((rest : Int), (b0 : Int))) r ∧
        ∃ rm : Nat, r = rm ∧ rm < 4294967296 ∧ bl rm = best.over adj k (best adj k) (bl cur) (bl rest) (bl b0) := by
      intro b0 hb0 hcb
      have := Evt.loopR (body := fun n => clique_graph_search_L0 n (clique_graph_search n) g cur) (fun s : Int × Int => ∃ x b : Nat, s = ((x : Int), (b : Int)) ∧ x < 4294967296 ∧ b < 4294967296 ∧ (bl x).length ≤ k ∧ (∀ i ∈ bl x, i < g.length) ∧ (∀ i ∈ bl cur, ∀ j ∈ bl x, i < j))
        (fun (s : Int × Int) (r : Int) => ∀ x b : Nat, s = ((x : Int), (b : Int)) → ∃ rm : Nat, r = rm ∧ rm < 4294967296 ∧ bl rm = best.over adj k (best adj k) (bl cur) (bl x) (bl b)) (fun s => (bl s.1.toNat).length) ?_ _ ⟨rest, b0, rfl, hr, hb0, hk, hlt, hord⟩
      · exact this.imp fun r h => ⟨h.1, h.2 _ _ rfl⟩
      rintro _ ⟨x, b, rfl, hx, hbb, hxk, hxl, hxo⟩
      unfold clique_graph_search_L0
      dsimp only
      have l1 : (bl cur).length ≤ 32 := by have := List.length_filter_le cur.testBit (List.range 32); simpa [bl] using this
      have l2 : (bl x).length ≤ 32 := by have := List.length_filter_le x.testBit (List.range 32); simpa [bl] using this
      have inj : ∀ y c : Nat, ((x : Int), (b : Int)) = ((y : Int), (c : Int)) → y = x ∧ c = b := fun y c e => by
        simp only [Prod.mk.injEq] at e; omega
      by_cases h0 : x = 0
      · refine .inr ⟨(b : Int), ?_, fun y c e => ?_⟩
        · subst h0
          refine Evt.bind0 (a := false) (by simp) ?_
          exact Evt.congr fun n => rfl
        · obtain ⟨rfl, rfl⟩ := inj y c e
          exact ⟨_, rfl, hbb, by rw [h0, bl_zero]; rfl⟩
      · have hne : ((x : Int) != 0) = true := by simp; omega
        by_cases h1 : (bl cur).length + (bl x).length ≤ (bl b).length
        · refine .inr ⟨(b : Int), ?_, fun y c e => ?_⟩
          · refine Evt.bind (a := false) ?_ (Evt.congr fun n => rfl)
            refine Evt.congr fun n => ?_
            rw [hne, size_ok hc, size_ok hx, size_ok hbb]
            simp only [cond_true, Option.bind_some]
            rw [wrap64 (by omega)]
            simp; omega
          · obtain ⟨rfl, rfl⟩ := inj y c e
            exact ⟨_, rfl, hbb, (over_small _ _ h1).symm⟩
        · obtain ⟨c', hc'⟩ := ctz_head hx h0
          generalize hv : Lib.ctz 32 x = v at *
          have hvl : v < g.length := hxl v (by rw [hc']; simp)
          obtain ⟨hgv, ham⟩ := hg v hvl
          have hv31 : v < 32 := by omega
          obtain ⟨k', rfl⟩ : ∃ j, k = j + 1 := ⟨k - 1, by rw [hc'] at hxk; simp at hxk; omega⟩
          have hrest := bl_rest hc'
          have hchild : bl (andn x (2 ^ v) &&& am v) = c'.filter (am v).testBit := by rw [bl_and, hrest]
          have hlen : c'.length ≤ k' := by rw [hc'] at hxk; simpa using hxk
          have hfl := List.length_filter_le (am v).testBit c'
          have hsx := bl_sorted x
          rw [hc', List.pairwise_cons] at hsx
          have hcv : ∀ i ∈ bl cur, i < v := fun i hi => hxo i hi v (by rw [hc']; simp)
          have hor := bl_or hv31 hcv
          obtain ⟨r, hrE, hr32, hrb⟩ := ih k' (by omega) (cur ||| 2 ^ v) (andn x (2 ^ v) &&& am v) b (by rw [hchild]; omega) (or_lt hc (two_pow_lt hv31)) (and_lt (andn_lt _ _)) hbb
            (fun i hi => by rw [hchild] at hi; exact hxl i (by rw [hc']; exact List.mem_cons_of_mem _ (List.mem_filter.1 hi).1))
            (fun i hi j hj => by
              rw [hchild] at hj
              have hjc := (List.mem_filter.1 hj).1
              rw [hor] at hi
              rcases List.mem_append.1 hi with h | h
              · exact hxo i h j (by rw [hc']; exact List.mem_cons_of_mem _ hjc)
              · simp at h; subst h; exact hsx.1 j hjc)
          refine .inl ⟨((andn x (2 ^ v) : Nat), (r : Int)), ?_, ⟨_, _, rfl, andn_lt _ _, hr32, by rw [hrest]; omega, fun i hi => ?_, fun i hi j hj => ?_⟩, ?_, fun R hR y c e => ?_⟩
          · refine Evt.bind (a := true) ?_ ?_
            · refine Evt.congr fun n => ?_
              rw [hne, size_ok hc, size_ok hx, size_ok hbb]
              simp only [cond_true, Option.bind_some]
              rw [wrap64 (by omega)]
              simp; omega
            · dsimp only [cond_true]
              refine Evt.bind (a := (v : Int)) (Evt.congr fun n => by rw [tz_ok hx h0, hv]) ?_
              refine Evt.bind0 (a := ()) (need_t (by simp)) ?_
              refine Evt.bind0 (a := ()) (need_t (by simp)) ?_
              refine Evt.bind0 (a := (am v : Int)) (by rw [idx_nat]; exact hgv) ?_
              rw [shl1 hv31, ib_or hc (two_pow_lt hv31), ib_andNot, ib_and (andn_lt _ _) ham]
              exact Evt.bind hrE (Evt.congr fun n => rfl)
          · rw [hrest] at hi; exact hxl i (by rw [hc']; exact List.mem_cons_of_mem _ hi)
          · rw [hrest] at hj; exact hxo i hi j (by rw [hc']; exact List.mem_cons_of_mem _ hj)
          · simp only [Int.toNat_natCast]; rw [hrest, hc']; simp
          · obtain ⟨rfl, rfl⟩ := inj y c e
            obtain ⟨rm, h1, h2, h3⟩ := hR _ _ rfl
            refine ⟨rm, h1, h2, ?_⟩
            rw [h3, hrest, hc', hrb, hor, hchild]
            simp only [best.over]
            rw [← hadj]
    -- the beginning
    have hbest : best adj (k + 1) (bl cur) (bl rest) = best.over adj k (best adj k) (bl cur) (bl rest) (bl cur) := rfl
    have fin : ∀ b0 : Nat, b0 < 4294967296 → bl b0 = better (bl bst) (bl cur) → (∀ n, (clique_set_size n (cur : Int)).bind (fun x => (clique_set_size n (bst : Int)).bind fun y => cond (decide (x > y)) (some (cur : Int)) (some (bst : Int))) = some (b0 : Int)) →
        ∃ r : Nat, Evt (fun n => clique_graph_search n g cur rest bst) (r : Int) ∧ r < 4294967296 ∧ bl r = better (bl bst) (best adj (k + 1) (bl cur) (bl rest)) := by
      intro b0 hb0 hbl hsel
      obtain ⟨r, hE, rm, rfl, hrm, hbr⟩ := loop b0 hb0 (by rw [hbl]; exact better_le' _ _)
      refine ⟨rm, Evt.succ ?_, hrm, ?_⟩
      · exact Evt.bind (Evt.congr hsel) hE
      · rw [hbr, hbl, hbest]
        have h1 := over_from (adj := adj) (k := k) (f := best adj k) (l := bl cur) (bl rest) (bl cur) (better (bl bst) (bl cur)) (better_le' _ _)
        rw [h1]
        have h2 := over_le (adj := adj) (k := k) (f := best adj k) (l := bl cur) (bl rest) (bl cur)
        have h3 := over_or (adj := adj) (k := k) (f := best adj k) (l := bl cur) (bl rest) (bl cur)
        generalize best.over adj k (best adj k) (bl cur) (bl rest) (bl cur) = o at *
        unfold better
        by_cases e1 : (bl bst).length < (bl cur).length
        · rw [if_pos e1, if_pos (by omega : (bl bst).length < o.length)]
          by_cases e2 : (bl cur).length < o.length
          · rw [if_pos e2]
          · rw [if_neg e2]; exact (h3.resolve_right e2).symm
        · rw [if_neg e1]
    by_cases e1 : (bl bst).length < (bl cur).length
    · refine fin cur hc (by unfold better; rw [if_pos e1]) fun n => ?_
      rw [size_ok hc, size_ok hb]
      simp only [Option.bind_some]
      rw [show decide (((bl cur).length : Int) > (bl bst).length) = true by simp; omega]; rfl
    · refine fin bst hb (by unfold better; rw [if_neg e1]) fun n => ?_
      rw [size_ok hc, size_ok hb]
      simp only [Option.bind_some]
      rw [show decide (((bl cur).length : Int) > (bl bst).length) = false by simp; omega]; rfl
end Go.Proofs.YtminclnaelbolaaDoor

namespace Go.Proofs.YtminclnaelbolaaDoor
open Go Go.Proofs.YtminclnaelbolaaDoor.Gw
set_option linter.unusedVariables false

/- ### The list of a set -/
theorem drop_low {m v : Nat} {c : List Nat} (hm : m < 4294967296) (h0 : m ≠ 0) (h : bl m = v :: c) : bl (m &&& (m - 1)) = c := by
  obtain ⟨k, hk, hlt⟩ := Lib.ctzFrom_spec 32 m (by omega) hm
  obtain ⟨c', hc'⟩ := ctz_head hm h0
  have e : Lib.ctz 32 m = Lib.ctzFrom 32 m := by simp [Lib.ctz, h0]
  rw [← e] at hk hlt
  generalize Lib.ctz 32 m = t at *
  rw [h] at hc'
  obtain ⟨rfl, rfl⟩ : v = t ∧ c = c' := by simpa using hc'
  rw [← bl_rest h]
  apply sorted_ext (bl_sorted _) (bl_sorted _)
  intro i
  rw [mem_bl, mem_bl]
  constructor
  · rintro ⟨hi, hb⟩
    refine ⟨hi, ?_⟩
    rw [testBit_andn _ _ _ hi, Nat.testBit_two_pow]
    rw [Nat.testBit_and, Bool.and_eq_true] at hb
    refine Bool.and_eq_true_iff.2 ⟨hb.1, ?_⟩
    have hm1 : m - 1 = 2 ^ (v + 1) * k + (2 ^ v - 1) := by
      rw [hk, Nat.pow_succ, Nat.mul_add, Nat.mul_one, ← Nat.mul_assoc]
      have : 0 < 2 ^ v := Nat.pow_pos (by omega)
      omega
    have hp : 0 < 2 ^ v := Nat.pow_pos (by omega)
    have hlt2 : 2 ^ v - 1 < 2 ^ (v + 1) := by rw [Nat.pow_succ]; omega
    have h2 := hb.2
    rw [hm1, Nat.testBit_two_pow_mul_add _ hlt2] at h2
    simp only [Bool.not_eq_true', decide_eq_false_iff_not]
    rintro rfl
    simp [Nat.testBit_two_pow_sub_one] at h2
  · rintro ⟨hi, hb⟩
    refine ⟨hi, ?_⟩
    rw [testBit_andn _ _ _ hi, Nat.testBit_two_pow, Bool.and_eq_true] at hb
    have hne : v ≠ i := by simpa using hb.2
    rw [Nat.testBit_and, Bool.and_eq_true]
    refine ⟨hb.1, ?_⟩
    have hm1 : m - 1 = 2 ^ (v + 1) * k + (2 ^ v - 1) := by
      rw [hk, Nat.pow_succ, Nat.mul_add, Nat.mul_one, ← Nat.mul_assoc]
      have : 0 < 2 ^ v := Nat.pow_pos (by omega)
      omega
    have hp : 0 < 2 ^ v := Nat.pow_pos (by omega)
    have hlt2 : 2 ^ v - 1 < 2 ^ (v + 1) := by rw [Nat.pow_succ]; omega
    rw [hm1, Nat.testBit_two_pow_mul_add _ hlt2]
    have h1 := hb.1
    rw [hk, Nat.testBit_two_pow_mul] at h1
    simp only [Bool.and_eq_true, decide_eq_true_eq] at h1
    obtain ⟨hge, h1⟩ := h1
    rw [if_neg (by omega)]
    obtain ⟨j, hj⟩ : ∃ j, i - v = j + 1 := ⟨i - v - 1, by omega⟩
    rw [hj, Nat.testBit_succ] at h1
    rw [show i - (v + 1) = j by omega]
    rwa [show (2 * k + 1) / 2 = k by omega] at h1
def ints (l : List Nat) : List Int := List.map (fun i : Nat => (i : Int)) l
theorem list_ok {m : Nat} (hm : m < 4294967296) : Evt (fun n => clique_set_list n (m : Int)) (ints (bl m)) := by
  have := Evt.loopR (body := fun n => clique_set_list_L1 n) (fun s : Int × List Int => ∃ x : Nat, s.1 = x ∧ x < 4294967296 ∧ s.2.length + (bl x).length ≤ 32)
    (fun (s : Int × List Int) (r : List Int) => ∀ x : Nat, s.1 = x → r = s.2 ++ ints (bl x)) (fun s => (bl s.1.toNat).length) ?_ ((m : Int), ([] : List Int)) ⟨m, rfl, hm, by
      have := List.length_filter_le m.testBit (List.range 32); simpa [bl] using this⟩
  · obtain ⟨r, hE, hr⟩ := this
    have e := hr m rfl
    simp only [List.nil_append] at e
    subst e
    exact Evt.bind hE (Evt.pure _)
  rintro ⟨_, out⟩ ⟨x, rfl, hx, hlen⟩
  unfold clique_set_list_L1
  dsimp only at hlen ⊢
  by_cases h0 : x = 0
  · refine .inr ⟨out, ?_, fun y e => ?_⟩
    · subst h0; exact Evt.congr fun n => rfl
    · have : y = 0 := by omega
      subst this; simp [bl_zero, ints]
  · obtain ⟨c, hc⟩ := ctz_head hx h0
    have hne : ((x : Int) != 0) = true := by simp; omega
    have hdr := drop_low hx h0 hc
    have hl : (bl x).length = c.length + 1 := by rw [hc]; rfl
    refine .inl ⟨(((x &&& (x - 1) : Nat) : Int), out ++ [(Lib.ctz 32 x : Int)]), ?_, ⟨_, rfl, and_lt hx, by rw [hdr]; simp; omega⟩, ?_, fun r hr y e => ?_⟩
    · rw [hne]
      dsimp only [cond_true]
      refine Evt.bind (a := (Lib.ctz 32 x : Int)) (Evt.congr fun n => tz_ok hx h0 n) ?_
      refine Evt.bind0 (a := out ++ [(Lib.ctz 32 x : Int)]) (by unfold app; rw [if_pos (by simp; omega)]) ?_
      have e1 : IntKind.u32.wrap ((x : Int) - 1) = ((x - 1 : Nat) : Int) := by rw [wrap32 (by omega)]; omega
      rw [e1, ib_and hx (by omega)]
      exact Evt.pure _
    · simp only [Int.toNat_natCast]; rw [hdr, hl]; omega
    · have : y = x := by omega
      subst this
      rw [hr _ rfl, hdr, hc]
      simp [ints]
end Go.Proofs.YtminclnaelbolaaDoor

namespace Go.Proofs.YtminclnaelbolaaDoor
open Go Go.Proofs.YtminclnaelbolaaDoor.Gw
set_option linter.unusedVariables false

/- ### The reference -/
/-- Are two vertices joined? -/
def joined (E : List Pair) (a b : Int) : Bool := E.any fun p => p.A == (if b < a then b else a) && p.B == (if b > a then b else a)
theorem idx_get {α : Type} {xs : List α} {i : Nat} (h : i < xs.length) : idx xs (i : Int) = some xs[i] := by rw [idx_nat]; exact List.getElem?_eq_getElem h
theorem succ64 {i : Nat} {m : Nat} (h : i < m) (hm : m ≤ 1000000) : IntKind.i64.wrap ((i : Int) + 1) = ((i + 1 : Nat) : Int) := by rw [wrap64 (by omega)]; rfl
theorem any_drop {α : Type} (p : α → Bool) (xs : List α) (i : Nat) (h : i < xs.length) : (xs.drop i).any p = (p xs[i] || (xs.drop (i + 1)).any p) := by
  rw [List.drop_eq_getElem_cons h, List.any_cons]
theorem joined_ok (E : List Pair) (a b : Int) (hE : E.length ≤ 1000000) : Evt (fun n => ref29_Joined n E a b) (joined E a b) := by
  let p : Pair → Bool := fun p => p.A == (if b < a then b else a) && p.B == (if b > a then b else a)
  have := Evt.loopR (body := fun n => ref29_Joined_L1 E a b) (fun s : Int => ∃ i : Nat, s = i ∧ i ≤ E.length)
    (fun (s : Int) (r : Out Unit Bool) => ∀ i : Nat, s = i → r = if (E.drop i).any p then .done true else .go ()) (fun s => E.length - s.toNat) ?_ (0 : Int) ⟨0, rfl, by omega⟩
  · obtain ⟨r, hE', hr⟩ := this
    have e := hr 0 rfl
    simp only [List.drop_zero] at e
    have hj : joined E a b = E.any p := rfl
    rw [hj]
    unfold ref29_Joined
    refine Evt.bind hE' ?_
    rw [e]
    cases E.any p
    · exact Evt.pure _
    · exact Evt.pure _
  rintro _ ⟨i, rfl, hi⟩
  unfold ref29_Joined_L1
  dsimp only
  by_cases h : i < E.length
  · have hd : decide ((i : Int) < (E.length : Int)) = true := by simp; omega
    rw [hd]
    have hx := idx_get h
    have step : ∀ c : Bool, p E[i] = c → Evt (fun _ : Nat => cond true (((idx E (i : Int)).bind fun x273 => cond (x273.A == (if b < a then b else a)) ((idx E (i : Int)).bind fun x279 => some ((x279.B == (if b > a then b else a)))) (some (false)) : Option Bool).bind fun x270 =>
        cond x270 (some (Out.done (Out.done true))) (some (Out.go (IntKind.i64.wrap ((i : Int) + 1))))) (some (Out.done (Out.go ())))) (cond c (Out.done (Out.done true)) (Out.go (((i + 1 : Nat) : Int)))) := by
      intro c hc
      refine Evt.congr fun n => ?_
      rw [hx]
      simp only [cond_true, Option.bind_some]
      rw [succ64 h hE]
      simp only [p] at hc
      cases h1 : (E[i].A == (if b < a then b else a))
      · rw [h1] at hc; simp only [Bool.false_and] at hc; subst hc; rfl
      · rw [h1, Bool.true_and] at hc; rw [hc]; cases c <;> rfl
    cases hc : p E[i]
    · refine .inl ⟨((i + 1 : Nat) : Int), step false hc, ⟨i + 1, rfl, h⟩, ?_, fun r hr j e => ?_⟩
      · simp only [Int.toNat_natCast]; omega
      · obtain rfl : j = i := by omega
        rw [hr _ rfl, any_drop p E j h, hc, Bool.false_or]
    · refine .inr ⟨.done true, step true hc, fun j e => ?_⟩
      obtain rfl : j = i := by omega
      rw [any_drop p E j h, hc]; rfl
  · have hd : decide ((i : Int) < (E.length : Int)) = false := by simp; omega
    rw [hd]
    refine .inr ⟨.go (), Evt.congr fun n => rfl, fun j e => ?_⟩
    obtain rfl : j = i := by omega
    rw [List.drop_eq_nil_of_le (by omega)]; rfl
end Go.Proofs.YtminclnaelbolaaDoor

namespace Go.Proofs.YtminclnaelbolaaDoor
open Go Go.Proofs.YtminclnaelbolaaDoor.Gw
set_option linter.unusedVariables false

theorem best_lvl {adj : Nat → Nat → Bool} : ∀ (k k' : Nat) (l c : List Nat), c.length ≤ k → c.length ≤ k' → best adj k l c = best adj k' l c
  | 0, 0, l, c, _, _ => rfl
  | 0, k' + 1, l, c, h, _ => by
    obtain rfl : c = [] := List.length_eq_zero_iff.1 (by omega)
    rfl
  | k + 1, 0, l, c, _, h => by
    obtain rfl : c = [] := List.length_eq_zero_iff.1 (by omega)
    rfl
  | k + 1, k' + 1, l, c, h, h' => by
    have key : ∀ (c b : List Nat), c.length ≤ k + 1 → c.length ≤ k' + 1 → best.over adj k (best adj k) l c b = best.over adj k' (best adj k') l c b := by
      intro c
      induction c with
      | nil => intro b _ _; rfl
      | cons v c ih =>
        intro b h1 h2
        simp only [List.length_cons] at h1 h2
        have hf := List.length_filter_le (adj v) c
        simp only [best.over]
        rw [best_lvl k k' (l ++ [v]) (c.filter (adj v)) (by omega) (by omega)]
        exact ih _ (by omega) (by omega)
    exact key c l h h'
/-- The vertices from i on that are joined with all of l. -/
def adjE (E : List Pair) (a b : Nat) : Bool := joined E a b
def cand (E : List Pair) (N : Nat) (l : List Nat) (i : Nat) : List Nat := (List.range' i (N - i)).filter fun v => l.all fun u => adjE E u v
theorem cand_end {E : List Pair} {N i : Nat} {l : List Nat} (h : N ≤ i) : cand E N l i = [] := by simp [cand, Nat.sub_eq_zero_of_le h]
theorem cand_step {E : List Pair} {N i : Nat} {l : List Nat} (h : i < N) : cand E N l i = (if (l.all fun u => adjE E u i) then [i] else []) ++ cand E N l (i + 1) := by
  unfold cand
  rw [show N - i = (N - (i + 1)) + 1 by omega, List.range'_succ, List.filter_cons]
  split <;> rfl
theorem cand_child {E : List Pair} {N i v : Nat} {l : List Nat} : cand E N (l ++ [v]) i = (cand E N l i).filter (adjE E v) := by
  unfold cand
  rw [List.filter_filter]
  congr 1; funext w
  rw [List.all_append]
  simp [Bool.and_comm]
theorem cand_len {E : List Pair} {N i : Nat} {l : List Nat} : (cand E N l i).length ≤ N - i := by
  have := List.length_filter_le (fun v => l.all fun u => adjE E u v) (List.range' i (N - i))
  simpa [cand] using this
theorem ints_len (l : List Nat) : (ints l).length = l.length := by simp [ints]
theorem idx_ints {l : List Nat} {i : Nat} (h : i < l.length) : idx (ints l) (i : Int) = some ((l[i] : Nat) : Int) := by
  rw [idx_nat]; simp [ints, List.getElem?_eq_getElem h]
theorem all_drop {α : Type} (p : α → Bool) (xs : List α) (i : Nat) (h : i < xs.length) : (xs.drop i).all p = (p xs[i] && (xs.drop (i + 1)).all p) := by
  rw [List.drop_eq_getElem_cons h, List.all_cons]
/-- Does v fit all of l? -/
theorem fits_ok (E : List Pair) (l : List Nat) (v : Nat) (hE : E.length ≤ 1000000) (hl : l.length ≤ 1000000) : Evt (fun n => loopN (ref29_grow_L25 n E (ints l) v) n (true, 0)) (l.all fun u => adjE E u v) := by
  have := Evt.loopR (body := fun n => ref29_grow_L25 n E (ints l) v) (fun s : Bool × Int => ∃ i : Nat, s.2 = i ∧ i ≤ l.length)
    (fun (s : Bool × Int) (r : Bool) => ∀ i : Nat, s.2 = i → r = (s.1 && (l.drop i).all fun u => adjE E u v)) (fun s => l.length - s.2.toNat) ?_ (true, (0 : Int)) ⟨0, rfl, by omega⟩
  · obtain ⟨r, hE', hr⟩ := this
    have e := hr 0 rfl
    simp only [List.drop_zero, Bool.true_and] at e
    subst e; exact hE'
  rintro ⟨t, _⟩ ⟨i, rfl, hi⟩
  unfold ref29_grow_L25
  dsimp only at hi ⊢
  rw [ints_len]
  by_cases h : i < l.length
  · have hd : decide ((i : Int) < (l.length : Int)) = true := by simp; omega
    rw [hd]
    refine .inl ⟨(t && adjE E l[i] v, ((i + 1 : Nat) : Int)), ?_, ⟨i + 1, rfl, h⟩, ?_, fun r hr j e => ?_⟩
    · dsimp only [cond_true]
      refine Evt.bind (a := (t && adjE E l[i] v)) ?_ ?_
      · cases t
        · exact Evt.congr fun n => rfl
        · dsimp only [cond_true]
          refine Evt.bind0 (idx_ints h) ?_
          refine Evt.bind (joined_ok E _ _ hE) ?_
          rw [Bool.true_and]
          exact Evt.pure _
      · rw [succ64 h hl]; exact Evt.pure _
    · simp only [Int.toNat_natCast]; omega
    · obtain rfl : j = i := by omega
      rw [hr _ rfl, all_drop _ l j h, Bool.and_assoc]
  · have hd : decide ((i : Int) < (l.length : Int)) = false := by simp; omega
    rw [hd]
    refine .inr ⟨t, Evt.congr fun n => rfl, fun j e => ?_⟩
    obtain rfl : j = i := by omega
    rw [List.drop_eq_nil_of_le (by omega)]; simp
end Go.Proofs.YtminclnaelbolaaDoor

namespace Go.Proofs.YtminclnaelbolaaDoor
open Go Go.Proofs.YtminclnaelbolaaDoor.Gw
set_option linter.unusedVariables false

theorem ints_inj {a b : List Nat} (h : ints a = ints b) : a = b := by
  have h2 := congrArg (List.map Int.toNat) h
  unfold ints at h2
  have e : (Int.toNat ∘ fun i : Nat => (i : Int)) = id := by funext i; simp
  rw [List.map_map, List.map_map, e, List.map_id, List.map_id] at h2
  exact h2
theorem ints_app (l k : List Nat) : ints (l ++ k) = ints l ++ ints k := by simp [ints]
theorem over_app {adj : Nat → Nat → Bool} {k : Nat} {f : List Nat → List Nat → List Nat} {l : List Nat} (v : Nat) (c b : List Nat) : best.over adj k f l ([v] ++ c) b = best.over adj k f l c (better b (f (l ++ [v]) (c.filter (adj v)))) := rfl
theorem grow_ok (E : List Pair) (N : Nat) (hE : E.length ≤ 1000000) (hN : N ≤ 1000) : ∀ (k : Nat) (l : List Nat) (i : Nat), N - i ≤ k → l.length ≤ 1000 + i → i ≤ N →
    Evt (fun n => ref29_grow n N E (ints l) i) (ints (best (adjE E) (k + 1) l (cand E N l i))) := by
  intro k
  induction k using Nat.strongRecOn with
  | _ k ih =>
    intro l i hk hl hi
    refine Evt.succ ?_
    have happ : app ([] : List Int) (ints l) = some (ints l) := by unfold app; rw [if_pos (by rw [ints_len]; simp; omega)]; rfl
    refine Evt.bind0 happ ?_
    have := Evt.loopR (body := fun n => ref29_grow_L21 n (ref29_grow n) N E (ints l)) (fun s : List Int × Int => ∃ (b : List Nat) (j : Nat), s.1 = ints b ∧ s.2 = j ∧ i ≤ j ∧ j ≤ N)
      (fun (s : List Int × Int) (r : List Int) => ∀ (b : List Nat) (j : Nat), s.1 = ints b → s.2 = j → r = ints (best.over (adjE E) k (best (adjE E) k) l (cand E N l j) b)) (fun s => N - s.2.toNat) ?_ (ints l, (i : Int)) ⟨l, i, rfl, rfl, by omega, hi⟩
    · obtain ⟨r, hE', hr⟩ := this
      have e := hr l i rfl rfl
      subst e
      exact Evt.bind hE' (Evt.pure _)
    rintro ⟨_, _⟩ ⟨b, j, rfl, rfl, hij, hj⟩
    have inj : ∀ (b' : List Nat) (j' : Nat), ints b = ints b' → (j : Int) = j' → b' = b ∧ j' = j := by
      intro b' j' e1 e2
      exact ⟨(ints_inj e1).symm, by omega⟩
    unfold ref29_grow_L21
    dsimp only
    by_cases h : j < N
    · have hd : decide ((j : Int) < (N : Int)) = true := by simp; omega
      rw [hd]
      dsimp only [cond_true]
      have hs := succ64 h (by omega : N ≤ 1000000)
      cases hf : (l.all fun u => adjE E u j)
      · refine .inl ⟨(ints b, ((j + 1 : Nat) : Int)), ?_, ⟨b, j + 1, rfl, rfl, by omega, h⟩, ?_, fun r hr b' j' e1 e2 => ?_⟩
        · refine Evt.bind (a := ints b) ?_ ?_
          · refine Evt.bind ((fits_ok E l j hE (by omega)).eq hf) ?_
            exact Evt.pure _
          · rw [hs]; exact Evt.pure _
        · simp only [Int.toNat_natCast]; omega
        · obtain ⟨rfl, rfl⟩ := inj b' j' e1 e2
          rw [hr _ _ rfl rfl, cand_step h, hf]; rfl
      · obtain ⟨k', rfl⟩ : ∃ q, k = q + 1 := ⟨k - 1, by omega⟩
        have hch := ih k' (by omega) (l ++ [j]) (j + 1) (by omega) (by simp; omega) h
        rw [cand_child] at hch
        generalize hx : best (adjE E) (k' + 1) (l ++ [j]) ((cand E N l (j + 1)).filter (adjE E j)) = x at hch
        refine .inl ⟨(ints (better b x), ((j + 1 : Nat) : Int)), ?_, ⟨_, j + 1, rfl, rfl, by omega, h⟩, ?_, fun r hr b' j' e1 e2 => ?_⟩
        · refine Evt.bind (a := ints (better b x)) ?_ ?_
          · refine Evt.bind ((fits_ok E l j hE (by omega)).eq hf) ?_
            refine Evt.bind0 happ ?_
            refine Evt.bind0 (a := ints (l ++ [j])) (by unfold app; rw [if_pos (by rw [ints_len]; simp; omega), ints_app]; rfl) ?_
            rw [hs]
            refine Evt.bind hch ?_
            rw [ints_len, ints_len]
            by_cases hlt : b.length < x.length
            · rw [show decide ((x.length : Int) > (b.length : Int)) = true by simp; omega, show better b x = x from if_pos hlt]; exact Evt.pure _
            · rw [show decide ((x.length : Int) > (b.length : Int)) = false by simp; omega, show better b x = b from if_neg hlt]; exact Evt.pure _
          · rw [hs]; exact Evt.pure _
        · simp only [Int.toNat_natCast]; omega
        · obtain ⟨rfl, rfl⟩ := inj b' j' e1 e2
          rw [hr _ _ rfl rfl, cand_step h, hf, if_pos rfl, over_app, hx]
    · have hd : decide ((j : Int) < (N : Int)) = false := by simp; omega
      rw [hd]
      refine .inr ⟨ints b, Evt.congr fun n => rfl, fun b' j' e1 e2 => ?_⟩
      obtain ⟨rfl, rfl⟩ := inj b' j' e1 e2
      rw [cand_end (by omega)]; rfl
end Go.Proofs.YtminclnaelbolaaDoor

namespace Go.Proofs.YtminclnaelbolaaDoor
open Go Go.Proofs.YtminclnaelbolaaDoor.Gw
set_option linter.unusedVariables false

/-- A loop that counts up and stops at the first number of which p holds. -/
theorem Evt.scan {ρ : Type} {body : Nat → Int → Option (Out Int ρ)} (m : Nat) (p : Nat → Bool) (X Y : ρ)
    (h1 : ∀ i, i < m → Evt (fun n => body n (i : Int)) (_root_.cond (p i) (.done X) (.go ((i + 1 : Nat) : Int)))) (h2 : Evt (fun n => body n (m : Int)) (.done Y)) :
    Evt (fun n => loopN (body n) n 0) (_root_.cond ((List.range m).any p) X Y) := by
  have := Evt.loopR (body := body) (fun s : Int => ∃ i : Nat, s = i ∧ i ≤ m) (fun (s : Int) (r : ρ) => ∀ i : Nat, s = i → r = _root_.cond ((List.range' i (m - i)).any p) X Y) (fun s => m - s.toNat) ?_ (0 : Int) ⟨0, rfl, by omega⟩
  · obtain ⟨r, hE, hr⟩ := this
    have e := hr 0 rfl
    rw [Nat.sub_zero, ← List.range_eq_range'] at e
    subst e; exact hE
  rintro _ ⟨i, rfl, hi⟩
  by_cases h : i < m
  · have h3 := h1 i h
    have hr' : List.range' i (m - i) = i :: List.range' (i + 1) (m - (i + 1)) := by rw [show m - i = (m - (i + 1)) + 1 by omega, List.range'_succ]
    cases hp : p i
    · rw [hp] at h3
      refine .inl ⟨_, h3, ⟨i + 1, rfl, h⟩, ?_, fun r hr j e => ?_⟩
      · simp only [Int.toNat_natCast]; omega
      · obtain rfl : j = i := by omega
        rw [hr _ rfl, hr', List.any_cons, hp, Bool.false_or]
    · rw [hp] at h3
      refine .inr ⟨X, h3, fun j e => ?_⟩
      obtain rfl : j = i := by omega
      rw [hr', List.any_cons, hp]; rfl
  · obtain rfl : i = m := by omega
    refine .inr ⟨Y, h2, fun j e => ?_⟩
    obtain rfl : j = i := by omega
    rw [Nat.sub_self]; rfl

/- ### Valid graphs -/
/-- Is the edge at i wrong by itself? -/
def bad1 (N : Int) (p : Pair) : Bool := decide (p.A < 0) || (decide (p.A ≥ p.B) || decide (p.B ≥ N))
/-- Does p not come behind q? -/
def bad2 (q p : Pair) : Bool := decide (p.A < q.A) || (p.A == q.A && decide (p.B ≤ q.B))
def badAt (N : Int) (E : List Pair) (i : Nat) : Bool := ((E[i]?).map (bad1 N)).getD false || (decide (0 < i) && ((E[i - 1]?).bind fun q => (E[i]?).map (bad2 q)).getD false)
def valid (N : Int) (E : List Pair) : Bool := (decide (0 ≤ N) && decide (N ≤ 20)) && !(List.range E.length).any (badAt N E)
theorem badAt_lt {N : Int} {E : List Pair} {i : Nat} (h : i < E.length) : badAt N E i = (bad1 N E[i] || (decide (0 < i) && bad2 E[i - 1] E[i])) := by
  unfold badAt
  rw [List.getElem?_eq_getElem h, List.getElem?_eq_getElem (by omega : i - 1 < E.length)]
  rfl
theorem pred64 {i : Nat} {m : Nat} (h : i < m) (hm : m ≤ 1000000) (h0 : 0 < i) : IntKind.i64.wrap ((i : Int) - 1) = ((i - 1 : Nat) : Int) := by rw [wrap64 (by omega)]; omega
theorem valid_ok (N : Int) (E : List Pair) (hE : E.length ≤ 1000000) : Evt (fun n => ref29_Valid n N E) (valid N E) := by
  unfold ref29_Valid valid
  dsimp only
  by_cases hN : 0 ≤ N ∧ N ≤ 20
  · obtain ⟨hn0, hn1⟩ := hN
    refine Evt.bind0 (a := false) (by rw [show decide (N < 0) = false by simp; omega, show decide (N > 20) = false by simp; omega]; rfl) ?_
    have hb : (decide (0 ≤ N) && decide (N ≤ 20)) = true := by simp [hn0, hn1]
    rw [hb, Bool.true_and]
    dsimp only [cond_false]
    refine Evt.bind (Evt.scan (body := fun n => ref29_Valid_L1 N E) E.length (badAt N E) (.done false) (.go ()) (fun i hi => ?_) ?_) ?_
    · unfold ref29_Valid_L1
      refine Evt.congr fun n => ?_
      dsimp only
      have hd : decide ((i : Int) < (E.length : Int)) = true := by simp; omega
      rw [hd, cond_true, idx_get hi, badAt_lt hi, succ64 hi hE]
      generalize hp : E[i] = p
      simp only [Option.bind_some, bad1]
      cases decide (p.A < 0) <;> cases decide (p.A ≥ p.B) <;> cases decide (p.B ≥ N) <;> try rfl
      simp only [cond_false, Option.bind_some, Bool.or_self, Bool.false_or]
      by_cases h0 : 0 < i
      · have hd2 : decide ((i : Int) > 0) = true := by simp; omega
        rw [hd2, cond_true, pred64 hi hE h0, idx_get (by omega : i - 1 < E.length)]
        generalize E[i - 1] = q
        simp only [Option.bind_some, bad2, h0, decide_true, Bool.true_and]
        cases decide (p.A < q.A) <;> cases (p.A == q.A) <;> cases decide (p.B ≤ q.B) <;> rfl
      · have hd2 : decide ((i : Int) > 0) = false := by simp; omega
        rw [hd2, cond_false]
        simp only [h0, decide_false, Bool.false_and, Option.bind_some]
        rfl
    · unfold ref29_Valid_L1
      refine Evt.congr fun n => ?_
      simp
    · cases (List.range E.length).any (badAt N E)
      · exact Evt.pure _
      · exact Evt.pure _
  · refine Evt.bind0 (a := true) ?_ ?_
    · by_cases h : N < 0
      · simp [h]
      · have : N > 20 := by omega
        simp [h, this]
    · dsimp only [cond_true]
      have : (decide (0 ≤ N) && decide (N ≤ 20)) = false := by
        by_cases h : 0 ≤ N
        · have : ¬ N ≤ 20 := fun h2 => hN ⟨h, h2⟩
          simp [this]
        · simp [h]
      rw [this]; exact Evt.pure _
end Go.Proofs.YtminclnaelbolaaDoor

namespace Go.Proofs.YtminclnaelbolaaDoor
open Go Go.Proofs.YtminclnaelbolaaDoor.Gw
set_option linter.unusedVariables false

/- ### The masks of a graph -/
def pj (v w : Nat) (p : Pair) : Bool := (p.A == v && p.B == w) || (p.A == w && p.B == v)
theorem rows_set {g : List Int} {am : Nat → Nat} (h : rowsOk g am) {a x : Nat} (ha : a < g.length) (hx : x < 4294967296) : rowsOk (upd g (a : Int) (x : Int)) (fun v => if v = a then x else am v) := by
  intro v hv
  have hv' : v < g.length := by simpa [upd] using hv
  unfold upd
  by_cases e : v = a
  · subst e
    simp only [if_pos]
    refine ⟨?_, hx⟩
    rw [Int.toNat_natCast, List.getElem?_set_self ha]
  · simp only [if_neg e]
    refine ⟨?_, (h v hv').2⟩
    rw [Int.toNat_natCast, List.getElem?_set_ne (fun e' => e e'.symm)]
    exact (h v hv').1
theorem upd_len (g : List Int) (i x : Int) : (upd g i x).length = g.length := by simp [upd]
structure Good (g : List Int) (am : Nat → Nat) (N : Nat) (F : List Pair) : Prop where
  rows : rowsOk g am
  len : g.length = N
  bits : ∀ v w, v < N → (am v).testBit w = F.any (pj v w)
theorem Good.add {g : List Int} {am : Nat → Nat} {N : Nat} {F : List Pair} (h : Good g am N F) (hN : N ≤ 20) {a b : Nat} (hab : a < b) (hb : b < N) :
    idx g (a : Int) = some (am a : Int) ∧ idx (upd g (a : Int) (ib .or .u32 (am a : Int) (IntKind.u32.wrap ((1 : Int) * 2 ^ min (b : Int).toNat (IntKind.u32).bits)))) (b : Int) = some (am b : Int) ∧
    ∃ am', Good (upd (upd g (a : Int) (ib .or .u32 (am a : Int) (IntKind.u32.wrap ((1 : Int) * 2 ^ min (b : Int).toNat (IntKind.u32).bits)))) (b : Int) (ib .or .u32 (am b : Int) (IntKind.u32.wrap ((1 : Int) * 2 ^ min (a : Int).toNat (IntKind.u32).bits)))) am' N (F ++ [⟨a, b⟩]) := by
  have la : a < g.length := by rw [h.len]; omega
  have lb : b < g.length := by rw [h.len]; omega
  obtain ⟨ga, ha32⟩ := h.rows a la
  obtain ⟨gb, hb32⟩ := h.rows b lb
  rw [shl1 (by omega : b < 32), shl1 (by omega : a < 32), ib_or ha32 (two_pow_lt (by omega)), ib_or hb32 (two_pow_lt (by omega))]
  have r1 := rows_set h.rows la (or_lt ha32 (two_pow_lt (by omega : b < 32)))
  have r2 := rows_set r1 (a := b) (by rw [upd_len]; exact lb) (or_lt hb32 (two_pow_lt (by omega : a < 32)))
  refine ⟨by rw [idx_nat]; exact ga, ?_, _, r2, by rw [upd_len, upd_len]; exact h.len, fun v w hv => ?_⟩
  · rw [idx_nat, (r1 b (by rw [upd_len]; exact lb)).1]
    dsimp only
    rw [if_neg (by omega)]
  · rw [List.any_append, ← h.bits v w hv]
    simp only [List.any_cons, List.any_nil, Bool.or_false, pj]
    by_cases e1 : v = b
    · subst e1
      rw [if_pos rfl, Nat.testBit_or, Nat.testBit_two_pow]
      have e3 : ((a : Int) == (v : Int)) = false := by simp; omega
      have e4 : ((v : Int) == (v : Int)) = true := by simp
      have e5 : ((a : Int) == (w : Int)) = decide (a = w) := by rw [Bool.eq_iff_iff]; simp; omega
      rw [e3, e4, e5, Bool.false_and, Bool.false_or, Bool.and_true]
    · rw [if_neg e1]
      have hvb : ((b : Int) == (v : Int)) = false := by simp; omega
      rw [hvb, Bool.and_false, Bool.or_false]
      by_cases e2 : v = a
      · subst e2
        rw [if_pos rfl, Nat.testBit_or, Nat.testBit_two_pow]
        have e4 : ((v : Int) == (v : Int)) = true := by simp
        have e5 : ((b : Int) == (w : Int)) = decide (b = w) := by rw [Bool.eq_iff_iff]; simp; omega
        rw [e4, e5, Bool.true_and]
      · rw [if_neg e2]
        have : ((a : Int) == (v : Int)) = false := by simp; omega
        rw [this, Bool.false_and, Bool.or_false]
theorem Good.start (N : Nat) : Good (List.replicate N 0) (fun _ => 0) N [] :=
  ⟨fun v hv => ⟨by simp at hv; simp [hv], by omega⟩, by simp, fun v w _ => by simp⟩
theorem ok_edge {N : Int} {p : Pair} (h : bad1 N p = false) : ∃ a b : Nat, p = ⟨a, b⟩ ∧ a < b ∧ (b : Int) < N := by
  obtain ⟨A, B⟩ := p
  simp only [bad1, Bool.or_eq_false_iff, decide_eq_false_iff_not] at h
  exact ⟨A.toNat, B.toNat, by congr 1 <;> omega, by omega, by omega⟩
theorem build_ok (N : Nat) (E : List Pair) (hN : N ≤ 20) (hE : E.length ≤ 1000000) :
    ∃ r, Evt (fun n => clique_build n N E) r ∧ ((List.range E.length).any (badAt N E) = true → r = ([], false)) ∧ ((List.range E.length).any (badAt N E) = false → ∃ g am, r = (g, true) ∧ Good g am N E) := by
  have := Evt.loopR (body := fun n => clique_build_L1 N E) (fun s : List Int × Int => ∃ (am : Nat → Nat) (i : Nat), s.2 = i ∧ i ≤ E.length ∧ Good s.1 am N (E.take i))
    (fun (s : List Int × Int) (r : Out (List Int) (List Int × Bool)) => ∀ i : Nat, s.2 = i → ((List.range' i (E.length - i)).any (badAt N E) = true → r = .done ([], false)) ∧ ((List.range' i (E.length - i)).any (badAt N E) = false → ∃ g am, r = .go g ∧ Good g am N E))
    (fun s => E.length - s.2.toNat) ?_ (List.replicate N 0, (0 : Int)) ⟨_, 0, rfl, by omega, Good.start N⟩
  · obtain ⟨r, hE', hr⟩ := this
    obtain ⟨h1, h2⟩ := hr 0 rfl
    rw [Nat.sub_zero, ← List.range_eq_range'] at h1 h2
    have hmk : mk (N : Int) (0 : Int) = some (List.replicate N 0) := by unfold mk; rw [if_pos (by omega)]; simp
    have hd : cond (decide ((N : Int) < 0)) (some true) (some (decide ((N : Int) > 20))) = some false := by
      rw [show decide ((N : Int) < 0) = false by simp, show decide ((N : Int) > 20) = false by simp; omega]; rfl
    cases hb : (List.range E.length).any (badAt N E)
    · obtain ⟨g, am, rfl, hG⟩ := h2 hb
      refine ⟨(g, true), ?_, (fun h => by cases h), fun _ => ⟨g, am, rfl, hG⟩⟩
      unfold clique_build
      dsimp only
      refine Evt.bind0 hd ?_
      refine Evt.bind0 hmk ?_
      exact Evt.bind hE' (Evt.pure _)
    · have := h1 hb
      subst this
      refine ⟨([], false), ?_, fun _ => rfl, (fun h => by cases h)⟩
      unfold clique_build
      dsimp only
      refine Evt.bind0 hd ?_
      refine Evt.bind0 hmk ?_
      exact Evt.bind hE' (Evt.pure _)
  rintro ⟨g, _⟩ ⟨am, i, rfl, hi, hG⟩
  unfold clique_build_L1
  dsimp only at hi hG ⊢
  by_cases h : i < E.length
  · have hd : decide ((i : Int) < (E.length : Int)) = true := by simp; omega
    have hr' : List.range' i (E.length - i) = i :: List.range' (i + 1) (E.length - (i + 1)) := by rw [show E.length - i = (E.length - (i + 1)) + 1 by omega, List.range'_succ]
    rw [hd, idx_get h, succ64 h hE]
    have hbd := badAt_lt (N := N) h
    have htk : E.take (i + 1) = E.take i ++ [E[i]] := by rw [List.take_succ_eq_append_getElem h]
    generalize hp : E[i] = p at *
    have c1 : ∀ n : Nat, (cond (decide (p.A < 0)) (some true) (cond (decide (p.A ≥ p.B)) (some true) (some (decide (p.B ≥ (N : Int))))) : Option Bool) = some (bad1 N p) := by
      intro n; unfold bad1
      cases decide (p.A < 0) <;> cases decide (p.A ≥ p.B) <;> cases decide (p.B ≥ (N : Int)) <;> rfl
    have c2 : (cond (decide ((i : Int) > 0)) ((idx E (IntKind.i64.wrap ((i : Int) - 1))).bind fun x622 => cond (decide (x622.A > p.A)) (some (true)) ((idx E (IntKind.i64.wrap ((i : Int) - 1))).bind fun x629 => cond (x629.A == p.A) ((idx E (IntKind.i64.wrap ((i : Int) - 1))).bind fun x635 =>
        some ((decide (x635.B ≥ p.B)))) (some (false)))) (some (false)) : Option Bool) = some (decide (0 < i) && bad2 E[i - 1] p) := by
      by_cases h0 : 0 < i
      · rw [show decide ((i : Int) > 0) = true by simp; omega, pred64 h hE h0, idx_get (by omega : i - 1 < E.length)]
        generalize E[i - 1] = q
        simp only [Option.bind_some, bad2, h0, decide_true, Bool.true_and, cond_true]
        have e1 : decide (q.A > p.A) = decide (p.A < q.A) := rfl
        have e2 : (q.A == p.A) = (p.A == q.A) := by rw [Bool.eq_iff_iff]; simp; omega
        have e3 : decide (q.B ≥ p.B) = decide (p.B ≤ q.B) := rfl
        rw [e1, e2, e3]
        cases decide (p.A < q.A) <;> cases (p.A == q.A) <;> cases decide (p.B ≤ q.B) <;> rfl
      · rw [show decide ((i : Int) > 0) = false by simp; omega]
        simp [h0]
    rw [Option.bind_some]
    cases hb : badAt N E i
    · have hb' := hb
      rw [hbd, Bool.or_eq_false_iff] at hb
      obtain ⟨a, b, hpe, hab, hbN⟩ := ok_edge hb.1
      subst hpe
      obtain ⟨e1, e2, am', hG'⟩ := hG.add hN hab (by omega : b < N)
      refine .inl ⟨(upd (upd g (a : Int) (ib .or .u32 (am a : Int) (IntKind.u32.wrap ((1 : Int) * 2 ^ min (b : Int).toNat (IntKind.u32).bits)))) (b : Int) (ib .or .u32 (am b : Int) (IntKind.u32.wrap ((1 : Int) * 2 ^ min (a : Int).toNat (IntKind.u32).bits))), ((i + 1 : Nat) : Int)), ?_, ⟨am', i + 1, rfl, h, by rw [htk]; exact hG'⟩, ?_, fun r hr j e => ?_⟩
      · refine Evt.congr fun n => ?_
        dsimp only [cond_true]
        rw [c1 n, Option.bind_some, hb.1, cond_false, c2, hb.2, Option.bind_some, cond_false, e1, Option.bind_some, need_t (by simp), Option.bind_some, Option.bind_some, e2, Option.bind_some, need_t (by simp), Option.bind_some, Option.bind_some]
      · simp only [Int.toNat_natCast]; omega
      · obtain rfl : j = i := by omega
        rw [hr', List.any_cons, hb', Bool.false_or]
        exact hr _ rfl
    · refine .inr ⟨.done ([], false), ?_, fun j e => ?_⟩
      · refine Evt.congr fun n => ?_
        dsimp only [cond_true]
        rw [c1 n, Option.bind_some]
        rw [hbd, Bool.or_eq_true] at hb
        cases h1 : bad1 N p
        · rw [h1] at hb
          have hb2 : (decide (0 < i) && bad2 E[i - 1] p) = true := by simpa using hb
          rw [cond_false, c2, hb2, Option.bind_some]; rfl
        · rfl
      · obtain rfl : j = i := by omega
        rw [hr', List.any_cons, hb]
        exact ⟨fun _ => rfl, fun h => by simp at h⟩
  · obtain rfl : i = E.length := by omega
    have hd : decide ((E.length : Int) < (E.length : Int)) = false := by simp
    rw [hd]
    refine .inr ⟨.go g, Evt.congr fun n => rfl, fun j e => ?_⟩
    obtain rfl : j = E.length := by omega
    rw [Nat.sub_self]
    refine ⟨fun h => by simp at h, fun _ => ⟨g, am, rfl, ?_⟩⟩
    rw [List.take_length] at hG
    exact hG
end Go.Proofs.YtminclnaelbolaaDoor

namespace Go.Proofs.YtminclnaelbolaaDoor
open Go Go.Proofs.YtminclnaelbolaaDoor.Gw
set_option linter.unusedVariables false

theorem build_any (N : Int) (E : List Pair) (hE : E.length ≤ 1000000) :
    ∃ r, Evt (fun n => clique_build n N E) r ∧ (valid N E = false → r = ([], false)) ∧ (valid N E = true → 0 ≤ N ∧ N ≤ 20 ∧ ∃ g am, r = (g, true) ∧ Good g am N.toNat E) := by
  by_cases hN : 0 ≤ N ∧ N ≤ 20
  · obtain ⟨M, rfl⟩ : ∃ M : Nat, N = M := ⟨N.toNat, by omega⟩
    obtain ⟨r, h1, h2, h3⟩ := build_ok M E (by omega) hE
    have hb : (decide (0 ≤ (M : Int)) && decide ((M : Int) ≤ 20)) = true := by simp; omega
    have hv : valid (M : Int) E = !(List.range E.length).any (badAt M E) := by unfold valid; rw [hb, Bool.true_and]
    refine ⟨r, h1, fun h => h2 ?_, fun h => ⟨by omega, by omega, ?_⟩⟩
    · rw [hv] at h; simpa using h
    · rw [hv] at h
      rw [Int.toNat_natCast]
      exact h3 (by simpa using h)
  · have hv : valid N E = false := by
      unfold valid
      have : (decide (0 ≤ N) && decide (N ≤ 20)) = false := by
        rw [Bool.and_eq_false_iff]
        by_cases h : 0 ≤ N
        · exact .inr (by simp; omega)
        · exact .inl (by simp; omega)
      rw [this, Bool.false_and]
    refine ⟨([], false), ?_, fun _ => rfl, fun h => by rw [hv] at h; cases h⟩
    unfold clique_build
    dsimp only
    refine Evt.bind0 (a := true) ?_ (Evt.pure _)
    by_cases h : N < 0
    · rw [show decide (N < 0) = true by simp; omega]; rfl
    · rw [show decide (N < 0) = false by simp; omega, show decide (N > 20) = true by simp; omega]; rfl
theorem best_congr {a b : Nat → Nat → Bool} (M : Nat) (h : ∀ v w, v < M → w < M → a v w = b v w) : ∀ (k : Nat) (l c : List Nat), (∀ v ∈ c, v < M) → best a k l c = best b k l c
  | 0, l, c, _ => rfl
  | k + 1, l, c, hc => by
    have key : ∀ (c x : List Nat), (∀ v ∈ c, v < M) → best.over a k (best a k) l c x = best.over b k (best b k) l c x := by
      intro c
      induction c with
      | nil => intro x _; rfl
      | cons v c ih =>
        intro x hc
        have hv := hc v (by simp)
        have hc' : ∀ w ∈ c, w < M := fun w hw => hc w (by simp [hw])
        have hf : c.filter (a v) = c.filter (b v) := List.filter_congr fun w hw => h v w hv (hc' w hw)
        simp only [best.over]
        rw [hf, best_congr M h k (l ++ [v]) (c.filter (b v)) fun w hw => hc' w (List.mem_filter.1 hw).1]
        exact ih _ hc'
    exact key c l hc
theorem valid_edge {N : Int} {E : List Pair} (h : valid N E = true) : ∀ p ∈ E, 0 ≤ p.A ∧ p.A < p.B ∧ p.B < N := by
  intro p hp
  obtain ⟨i, hi, rfl⟩ := List.getElem_of_mem hp
  unfold valid at h
  rw [Bool.and_eq_true, Bool.not_eq_true'] at h
  have := h.2
  rw [List.any_eq_false] at this
  have h2 := this i (by simpa using hi)
  rw [badAt_lt hi] at h2
  simp [bad1] at h2
  omega
/-- Of edges that go up, both ways of saying that two vertices are joined agree. -/
theorem pj_joined {E : List Pair} (h : ∀ p ∈ E, p.A < p.B) (v w : Nat) : E.any (pj v w) = adjE E v w := by
  unfold adjE joined
  induction E with
  | nil => rfl
  | cons p E ih =>
    rw [List.any_cons, List.any_cons, ih fun q hq => h q (by simp [hq])]
    congr 1
    have hp := h p (by simp)
    unfold pj
    rw [Bool.eq_iff_iff]
    simp only [Bool.or_eq_true, Bool.and_eq_true, beq_iff_eq]
    by_cases h1 : (w : Int) < v
    · rw [if_pos h1, if_neg (by omega)]
      constructor
      · rintro (⟨e1, e2⟩ | ⟨e1, e2⟩) <;> omega
      · rintro ⟨e1, e2⟩; exact .inr ⟨e1, e2⟩
    · rw [if_neg h1]
      by_cases h2 : (w : Int) > v
      · rw [if_pos h2]
        constructor
        · rintro (⟨e1, e2⟩ | ⟨e1, e2⟩) <;> omega
        · rintro ⟨e1, e2⟩; exact .inl ⟨e1, e2⟩
      · rw [if_neg h2]
        constructor
        · rintro (⟨e1, e2⟩ | ⟨e1, e2⟩) <;> omega
        · rintro ⟨e1, e2⟩; omega
/-- The largest clique. -/
def maxL (N : Int) (E : List Pair) : List Nat := best (adjE E) (N.toNat + 1) [] (List.range N.toNat)
theorem better_nil (x : List Nat) : better [] x = x := by
  unfold better
  split
  · rfl
  · rename_i h; exact (List.length_eq_zero_iff.1 (by simp at h; exact by simp [h])).symm
theorem bl_full {M : Nat} (h : M ≤ 20) : bl (2 ^ M - 1) = List.range M := by
  apply sorted_ext (bl_sorted _) List.pairwise_lt_range
  intro i
  rw [mem_bl, Nat.testBit_two_pow_sub_one]
  simp; omega
theorem Max_ok (N : Int) (E : List Pair) (hE : E.length ≤ 1000000) : Evt (fun n => clique_Max n N E) (if valid N E then (ints (maxL N E), 0) else ([], 1)) := by
  obtain ⟨r, h1, h2, h3⟩ := build_any N E hE
  unfold clique_Max
  dsimp only
  refine Evt.bind h1 ?_
  cases hv : valid N E
  · rw [h2 hv]
    exact Evt.pure _
  · obtain ⟨hn0, hn1, g, am, rfl, hG⟩ := h3 hv
    obtain ⟨M, rfl⟩ : ∃ M : Nat, N = M := ⟨N.toNat, by omega⟩
    rw [Int.toNat_natCast] at hG
    have hM : M ≤ 20 := by omega
    have hp : 2 ^ M < 4294967296 := two_pow_lt (by omega)
    have hp0 : 0 < 2 ^ M := Nat.pow_pos (by omega)
    have hfull : IntKind.u32.wrap ((IntKind.u32.wrap ((1 : Int) * 2 ^ min (M : Int).toNat (IntKind.u32).bits)) - 1) = ((2 ^ M - 1 : Nat) : Int) := by
      rw [shl1 (by omega), wrap32 (by omega)]; omega
    obtain ⟨s, hs, hs32, hsb⟩ := search_ok g am hG.rows (by rw [hG.len]; omega) M 0 (2 ^ M - 1) 0 (by rw [bl_full hM]; simp) (by omega) (by omega) (by omega)
      (fun i hi => by rw [bl_full hM] at hi; rw [hG.len]; simpa using hi) (fun i hi => by rw [bl_zero] at hi; simp at hi)
    rw [bl_zero, better_nil, bl_full hM] at hsb
    have hcg : best (fun v => (am v).testBit) (M + 1) [] (List.range M) = maxL M E := by
      unfold maxL
      rw [Int.toNat_natCast]
      refine best_congr M (fun v w hv' hw => ?_) _ _ _ (fun v hv' => by simpa using hv')
      rw [hG.bits v w hv', pj_joined fun p hp => (valid_edge hv p hp).2.1]
    rw [hcg] at hsb
    rw [if_pos rfl]
    refine Evt.cond (fun h => by cases h) fun _ => ?_
    refine Evt.bind0 (a := ()) (need_t (c := decide (0 ≤ (M : Int))) (by simp)) ?_
    rw [hfull]
    refine Evt.bind hs ?_
    have hl := list_ok hs32
    rw [hsb] at hl
    exact Evt.bind hl (Evt.pure _)
theorem refMax_ok (N : Int) (E : List Pair) (hE : E.length ≤ 1000000) : Evt (fun n => ref29_Max n N E) (if valid N E then (ints (maxL N E), 0) else ([], 1)) := by
  unfold ref29_Max
  dsimp only
  refine Evt.bind (valid_ok N E hE) ?_
  cases hv : valid N E
  · exact Evt.pure _
  · have hv' := hv
    unfold valid at hv'
    rw [Bool.and_eq_true, Bool.and_eq_true] at hv'
    have h1 := of_decide_eq_true hv'.1.1
    have h2 := of_decide_eq_true hv'.1.2
    obtain ⟨M, rfl⟩ : ∃ M : Nat, N = M := ⟨N.toNat, by omega⟩
    have hg := grow_ok E M hE (by omega) M [] 0 (by omega) (by simp) (by omega)
    have hc : cand E M [] 0 = List.range M := by
      unfold cand
      rw [Nat.sub_zero, ← List.range_eq_range']
      simp
    rw [hc] at hg
    rw [if_pos rfl]
    refine Evt.cond (fun h => by cases h) fun _ => ?_
    exact Evt.bind hg (Evt.pure _)
end Go.Proofs.YtminclnaelbolaaDoor

namespace Go.Proofs.YtminclnaelbolaaDoor
open Go Go.Proofs.YtminclnaelbolaaDoor.Gw
set_option linter.unusedVariables false

theorem Ints_refl (l : List Int) (h : l.length ≤ 1000000) : Evt (fun n => base_Ints n l l) true := by
  unfold base_Ints
  dsimp only
  refine Evt.cond (fun e => by simp at e) fun _ => ?_
  have := Evt.scan (body := fun n => base_Ints_L1 l l) (ρ := Out Unit Bool) l.length (fun _ => false) (.done false) (.go ()) (fun i hi => ?_) ?_
  · have e : (List.range l.length).any (fun _ => false) = false := by simp
    rw [e] at this
    exact Evt.bind this (Evt.pure _)
  · refine Evt.congr fun n => ?_
    unfold base_Ints_L1
    dsimp only
    rw [show decide ((i : Int) < (l.length : Int)) = true by simp; omega, idx_get hi, succ64 hi h]
    simp
  · refine Evt.congr fun n => ?_
    unfold base_Ints_L1
    simp
def few (N : Int) (E : List Pair) : Bool := decide ((E.length : Int) ≤ 70) && (decide (N ≤ 11) || decide ((E.length : Int) ≤ 30))
theorem few_ok (N : Int) (E : List Pair) (n : Nat) : law29_few n ⟨N, E⟩ = some (few N E) := by
  unfold law29_few few
  dsimp only
  cases decide ((E.length : Int) ≤ 70) <;> cases decide (N ≤ 11) <;> cases decide ((E.length : Int) ≤ 30) <;> rfl
theorem few_len {N : Int} {E : List Pair} (h : few N E = true) : E.length ≤ 70 := by
  unfold few at h
  rw [Bool.and_eq_true] at h
  have := of_decide_eq_true h.1
  omega
theorem maxL_len (N : Int) (E : List Pair) : (maxL N E).length ≤ N.toNat := by
  have := best_le (adj := adjE E) (N.toNat + 1) [] (List.range N.toNat)
  simpa [maxL] using this
theorem law_CliqueMax (g : Graph) (hg : okGraph g) : Evt (fun n => law29_CliqueMax n g) true := by
  obtain ⟨N, E⟩ := g
  unfold law29_CliqueMax
  dsimp only
  refine Evt.bind (a := !few N E) ?_ ?_
  · refine Evt.bind awake_ok ?_
    refine Evt.cond (fun h => by cases h) fun _ => ?_
    exact Evt.bind (Evt.congr fun n => few_ok N E n) (Evt.pure _)
  · refine Evt.cond (fun _ => Evt.bind awake_ok (Evt.pure _)) fun hf => ?_
    have hfew : few N E = true := by simpa using hf
    have hE : E.length ≤ 1000000 := Nat.le_trans (few_len hfew) (by omega)
    refine Evt.bind (Max_ok N E hE) ?_
    refine Evt.bind (refMax_ok N E hE) ?_
    cases hv : valid N E
    · exact Evt.bind (Evt.bind (Ints_refl [] (by simp)) (Evt.pure _)) (Evt.pure _)
    · have hN : N ≤ 20 := by
        unfold valid at hv
        rw [Bool.and_eq_true, Bool.and_eq_true] at hv
        exact of_decide_eq_true hv.1.2
      have hl := maxL_len N E
      exact Evt.bind (Evt.bind (Ints_refl (ints (maxL N E)) (by rw [ints_len]; omega)) (Evt.pure _)) (Evt.pure _)
end Go.Proofs.YtminclnaelbolaaDoor

namespace Go.Proofs.YtminclnaelbolaaDoor
open Go Go.Proofs.YtminclnaelbolaaDoor.Gw
set_option linter.unusedVariables false

/- ### Complement -/
/-- The pairs of i with the vertices from j on that are not joined. -/
def missR (E : List Pair) (N i j : Nat) : List Pair := ((List.range' j (N - j)).filter fun w => !adjE E i w).map fun w : Nat => Pair.mk i w
def missAll (E : List Pair) (N i : Nat) : List Pair := (List.range' i (N - i)).flatMap fun v => missR E N v (v + 1)
theorem missR_end {E : List Pair} {N i j : Nat} (h : N ≤ j) : missR E N i j = [] := by simp [missR, Nat.sub_eq_zero_of_le h]
theorem missR_step {E : List Pair} {N i j : Nat} (h : j < N) : missR E N i j = (if adjE E i j then [] else [Pair.mk i j]) ++ missR E N i (j + 1) := by
  unfold missR
  rw [show N - j = (N - (j + 1)) + 1 by omega, List.range'_succ, List.filter_cons]
  cases adjE E i j <;> simp
theorem missAll_end {E : List Pair} {N i : Nat} (h : N ≤ i) : missAll E N i = [] := by simp [missAll, Nat.sub_eq_zero_of_le h]
theorem missAll_step {E : List Pair} {N i : Nat} (h : i < N) : missAll E N i = missR E N i (i + 1) ++ missAll E N (i + 1) := by
  unfold missAll
  rw [show N - i = (N - (i + 1)) + 1 by omega, List.range'_succ, List.flatMap_cons]
theorem missR_len {E : List Pair} {N i j : Nat} : (missR E N i j).length ≤ N - j := by
  have := List.length_filter_le (fun w => !adjE E i w) (List.range' j (N - j))
  simpa [missR] using this
theorem missAll_len {E : List Pair} {N : Nat} (h : N ≤ 20) : ∀ (k i : Nat), N - i ≤ k → (missAll E N i).length ≤ 20 * k
  | 0, i, hk => by rw [missAll_end (by omega)]; simp
  | k + 1, i, hk => by
    rcases Nat.lt_or_ge i N with hi | hi
    · rw [missAll_step hi, List.length_append]
      have := missR_len (E := E) (N := N) (i := i) (j := i + 1)
      have := missAll_len (E := E) h k (i + 1) (by omega)
      omega
    · rw [missAll_end hi]; simp
theorem bit_at {m k : Nat} (hm : m < 4294967296) (hk : k < 32) : ib .and .u32 ((m : Int).fdiv (2 ^ min (k : Int).toNat (IntKind.u32).bits)) 1 = (((m.testBit k).toNat : Nat) : Int) := by
  rw [shr_nat m k (k : Int) (by simp) (by omega)]
  have h : m / 2 ^ k < 4294967296 := Nat.lt_of_le_of_lt (Nat.div_le_self _ _) hm
  rw [show (1 : Int) = ((1 : Nat) : Int) from rfl, ib_and h (by omega), Nat.and_one_is_mod, Nat.testBit_eq_decide_div_mod_eq]
  congr 1
  have : m / 2 ^ k % 2 < 2 := Nat.mod_lt _ (by omega)
  by_cases h2 : m / 2 ^ k % 2 = 1
  · simp [h2]
  · have h3 : m / 2 ^ k % 2 = 0 := by omega
    simp [h3]
theorem compl_ok (N : Int) (E : List Pair) (hE : E.length ≤ 1000000) : Evt (fun n => clique_Complement n N E) (if valid N E then (missAll E N.toNat 0, 0) else ([], 1)) := by
  apply Tot.of_eq
  dsimp only [clique_Complement]
  obtain ⟨r, h1, h2, h3⟩ := build_any N E hE
  refine Tot.bind (Tot.evt h1 ?_)
  cases hv : valid N E
  · rw [h2 hv]
    exact Tot.ret rfl
  · obtain ⟨hn0, hn1, g, am, rfl, hG⟩ := h3 hv
    obtain ⟨M, rfl⟩ : ∃ M : Nat, N = M := ⟨N.toNat, by omega⟩
    rw [Int.toNat_natCast] at hG ⊢
    refine Tot.cond (fun h => by cases h) fun _ => ?_
    refine Tot.bind ?_
    refine Tot.loop (fun s : List Pair × Int => ∃ i : Nat, s.2 = i ∧ i ≤ M ∧ s.1 ++ missAll E M i = missAll E M 0 ∧ s.1.length ≤ 20 * i) (fun s => M - s.2.toNat) ⟨0, rfl, by omega, rfl, by simp⟩ ?_
    rintro ⟨out, _⟩ ⟨i, rfl, hi, ho, hol⟩
    dsimp only [clique_Complement_L11] at *
    refine Tot.condD (fun hc => ?_) (fun hc => ?_)
    · have hiM : i < M := by omega
      rw [w64 (by omega) (by omega)]
      refine Tot.bind ?_
      refine Tot.loop0 (fun s : List Pair × Int => ∃ j : Nat, s.2 = j ∧ i + 1 ≤ j ∧ j ≤ M ∧ s.1 ++ missR E M i j = out ++ missR E M i (i + 1) ∧ s.1.length ≤ 20 * i + (j - i - 1)) (fun s => M - s.2.toNat) ⟨i + 1, by simp, by omega, by omega, rfl, (by first | omega | (dsimp only; omega) | (simp; done) | (simp; omega))⟩ ?_
      rintro ⟨o2, _⟩ ⟨j, rfl, hij, hj, ho2, hol2⟩
      dsimp only [clique_Complement_L13] at *
      have hlen := hG.len
      obtain ⟨hga, hm32⟩ := hG.rows i (by omega)
      have hb := hG.bits i j hiM
      rw [pj_joined fun p hp => (valid_edge hv p hp).2.1] at hb
      refine Tot.condD (fun hc => ?_) (fun hc => ?_)
      · rw [w64 (by omega) (by omega)]
        refine Tot.bind (Tot.idxv (by rw [idx_nat]; exact hga) ?_)
        refine Tot.need (by omega) ?_
        rw [bit_at hm32 (by omega), hb]
        have hs := missR_step (E := E) (i := i) (show j < M by omega)
        cases ha : adjE E i j
        · refine Tot.cond (fun _ => ?_) (fun h => by simp at h)
          refine Tot.app (by simp; omega) (Tot.ret ?_)
          refine Tot.ret ⟨⟨j + 1, (by first | omega | (dsimp only; omega) | (simp; done) | (simp; omega)), by omega, by omega, ?_, (by first | omega | (dsimp only; omega) | (simp; done) | (simp; omega))⟩, (by first | omega | (dsimp only; omega) | (simp; done) | (simp; omega))⟩
          rw [← ho2, hs, ha]; simp
        · refine Tot.cond (fun h => by simp at h) (fun _ => ?_)
          refine Tot.ret ?_
          refine Tot.ret ⟨⟨j + 1, (by first | omega | (dsimp only; omega) | (simp; done) | (simp; omega)), by omega, by omega, ?_, (by first | omega | (dsimp only; omega) | (simp; done) | (simp; omega))⟩, (by first | omega | (dsimp only; omega) | (simp; done) | (simp; omega))⟩
          rw [← ho2, hs, ha]; simp
      · obtain rfl : j = M := by omega
        refine Tot.ret ?_
        dsimp only
        rw [missR_end (Nat.le_refl _), List.append_nil] at ho2
        subst ho2
        refine Tot.ret ⟨⟨i + 1, (by first | omega | (dsimp only; omega) | (simp; done) | (simp; omega)), by omega, ?_, ?_⟩, (by first | omega | (dsimp only; omega) | (simp; done) | (simp; omega))⟩
        · rw [← ho, missAll_step hiM]; simp
        · have := missR_len (E := E) (N := j) (i := i) (j := i + 1)
          simp; omega
    · obtain rfl : i = M := by omega
      refine Tot.ret ?_
      dsimp only
      rw [missAll_end (Nat.le_refl _), List.append_nil] at ho
      exact Tot.ret (by rw [ho]; rfl)
end Go.Proofs.YtminclnaelbolaaDoor

namespace Go.Proofs.YtminclnaelbolaaDoor
open Go Go.Proofs.YtminclnaelbolaaDoor.Gw
set_option linter.unusedVariables false

theorem valid_N {N : Int} {E : List Pair} (h : valid N E = true) : 0 ≤ N ∧ N ≤ 20 := by
  unfold valid at h
  rw [Bool.and_eq_true, Bool.and_eq_true] at h
  exact ⟨of_decide_eq_true h.1.1, of_decide_eq_true h.1.2⟩
theorem refCompl_ok (N : Int) (E : List Pair) (hE : E.length ≤ 1000000) : Evt (fun n => ref29_Complement n N E) (if valid N E then (missAll E N.toNat 0, 0) else ([], 1)) := by
  apply Tot.of_eq
  dsimp only [ref29_Complement]
  refine Tot.bind (Tot.evt (valid_ok N E hE) ?_)
  cases hv : valid N E
  · exact Tot.ret rfl
  · obtain ⟨hn0, hn1⟩ := valid_N hv
    obtain ⟨M, rfl⟩ : ∃ M : Nat, N = M := ⟨N.toNat, by omega⟩
    rw [Int.toNat_natCast]
    refine Tot.cond (fun h => by cases h) fun _ => ?_
    refine Tot.bind ?_
    refine Tot.loop (fun s : List Pair × Int => ∃ i : Nat, s.2 = i ∧ i ≤ M ∧ s.1 ++ missAll E M i = missAll E M 0 ∧ s.1.length ≤ 20 * i) (fun s => M - s.2.toNat) ⟨0, rfl, by omega, rfl, by simp⟩ ?_
    rintro ⟨out, _⟩ ⟨i, rfl, hi, ho, hol⟩
    dsimp only [ref29_Complement_L11] at *
    refine Tot.condD (fun hc => ?_) (fun hc => ?_)
    · have hiM : i < M := by omega
      rw [w64 (by omega) (by omega)]
      refine Tot.bind ?_
      refine Tot.loop (fun s : List Pair × Int => ∃ j : Nat, s.2 = j ∧ i + 1 ≤ j ∧ j ≤ M ∧ s.1 ++ missR E M i j = out ++ missR E M i (i + 1) ∧ s.1.length ≤ 20 * i + (j - i - 1)) (fun s => M - s.2.toNat) ⟨i + 1, by simp, by omega, by omega, rfl, (by first | omega | (dsimp only; omega) | (simp; done) | (simp; omega))⟩ ?_
      rintro ⟨o2, _⟩ ⟨j, rfl, hij, hj, ho2, hol2⟩
      dsimp only [ref29_Complement_L13] at *
      refine Tot.condD (fun hc => ?_) (fun hc => ?_)
      · rw [w64 (by omega) (by omega)]
        refine Tot.bind (Tot.bind (Tot.evt (joined_ok E i j hE) ?_))
        have hs := missR_step (E := E) (i := i) (show j < M by omega)
        show Tot (fun n => _root_.cond (!adjE E i j) _ _) _
        cases ha : adjE E i j
        · refine Tot.cond (fun _ => ?_) (fun h => by simp at h)
          refine Tot.app (by simp; omega) (Tot.ret ?_)
          refine Tot.ret ⟨⟨j + 1, (by first | omega | (dsimp only; omega) | (simp; done) | (simp; omega)), by omega, by omega, ?_, (by first | omega | (dsimp only; omega) | (simp; done) | (simp; omega))⟩, (by first | omega | (dsimp only; omega) | (simp; done) | (simp; omega))⟩
          rw [← ho2, hs, ha]; simp
        · refine Tot.cond (fun h => by simp at h) (fun _ => ?_)
          refine Tot.ret ?_
          refine Tot.ret ⟨⟨j + 1, (by first | omega | (dsimp only; omega) | (simp; done) | (simp; omega)), by omega, by omega, ?_, (by first | omega | (dsimp only; omega) | (simp; done) | (simp; omega))⟩, (by first | omega | (dsimp only; omega) | (simp; done) | (simp; omega))⟩
          rw [← ho2, hs, ha]; simp
      · obtain rfl : j = M := by omega
        refine Tot.ret ?_
        dsimp only
        rw [missR_end (Nat.le_refl _), List.append_nil] at ho2
        subst ho2
        refine Tot.ret ⟨⟨i + 1, (by first | omega | (dsimp only; omega) | (simp; done) | (simp; omega)), by omega, ?_, ?_⟩, (by first | omega | (dsimp only; omega) | (simp; done) | (simp; omega))⟩
        · rw [← ho, missAll_step hiM]; simp
        · have := missR_len (E := E) (N := j) (i := i) (j := i + 1)
          simp; omega
    · obtain rfl : i = M := by omega
      refine Tot.ret ?_
      dsimp only
      rw [missAll_end (Nat.le_refl _), List.append_nil] at ho
      exact Tot.ret (by rw [ho]; rfl)
theorem Pairs_refl (l : List Pair) (h : l.length ≤ 1000000) : Evt (fun n => base_Pairs n l l) true := by
  apply Tot.of_eq
  dsimp only [base_Pairs]
  refine Tot.condN (fun e => absurd rfl e) fun _ => Tot.bind ?_
  refine Tot.loop0 (fun s : Int => ∃ i : Nat, s = i ∧ i ≤ l.length) (fun s => l.length - s.toNat) ⟨0, rfl, by omega⟩ ?_
  rintro _ ⟨i, rfl, hi⟩
  dsimp only [base_Pairs_L1]
  refine Tot.condD (fun hc => ?_) (fun hc => ?_)
  · rw [w64 (by omega) (by omega)]
    refine Tot.idx (by omega) (by omega) fun x hx => ?_
    refine Tot.idxv (x := x) (by rw [idx_nat]; exact hx) ?_
    refine Tot.cond (fun h => by simp at h) (fun _ => ?_)
    exact Tot.ret ⟨⟨i + 1, (by first | omega | (dsimp only; omega) | (simp; done) | (simp; omega)), by omega⟩, (by first | omega | (dsimp only; omega) | (simp; done) | (simp; omega))⟩
  · exact Tot.ret (Tot.ret rfl)

/- ### Colors -/
/-- The least number below v that is not used, or v. -/
def mex (p : Nat → Bool) (v : Nat) : Nat := ((List.range v).find? fun c => !p c).getD v
theorem mex_le (p : Nat → Bool) (v : Nat) : mex p v ≤ v := by
  unfold mex
  cases h : (List.range v).find? fun c => !p c with
  | none => simp
  | some c => have := List.mem_of_find?_eq_some h; simp at this ⊢; omega
theorem mex_not (p : Nat → Bool) (v : Nat) (h : p v = false) : p (mex p v) = false := by
  unfold mex
  cases hf : (List.range v).find? fun c => !p c with
  | none => simpa using h
  | some c => have := List.find?_some hf; simpa using this
theorem mex_below (p : Nat → Bool) (v c : Nat) (h : c < mex p v) : p c = true := by
  have hv := mex_le p v
  unfold mex at h hv
  cases hf : (List.range v).find? fun c => !p c with
  | none =>
    rw [hf] at h
    simp at h
    rw [List.find?_eq_none] at hf
    have := hf c (by simp; omega)
    simpa using this
  | some d =>
    rw [hf] at h hv
    simp only [Option.getD_some] at h
    rw [List.find?_eq_some_iff_getElem] at hf
    obtain ⟨_, i, hi, hd, hb⟩ := hf
    simp only [List.getElem_range] at hd
    subst hd
    have := hb c h
    simpa using this
theorem mex_eq {p : Nat → Bool} {v c : Nat} (hc : c ≤ v) (h : p c = false) (hb : ∀ d, d < c → p d = true) (hv : p v = false) : c = mex p v := by
  rcases Nat.lt_trichotomy c (mex p v) with h1 | h1 | h1
  · have := mex_below p v c h1; rw [h] at this; cases this
  · exact h1
  · have := mex_not p v hv; rw [hb _ h1] at this; cases this
/-- Is the color c used by a vertex below v that is joined with v? -/
def usedC (E : List Pair) (out : List Nat) (v c : Nat) : Bool := (List.range v).any fun w => (out[w]? == some c) && adjE E w v
def colors (E : List Pair) : Nat → List Nat
  | 0 => []
  | v + 1 => colors E v ++ [mex (usedC E (colors E v) v) v]
theorem colors_len (E : List Pair) : ∀ v : Nat, (colors E v).length = v
  | 0 => rfl
  | v + 1 => by simp [colors, colors_len E v]
theorem colors_le (E : List Pair) : ∀ (v w c : Nat), (colors E v)[w]? = some c → c ≤ w
  | 0, w, c, h => by simp [colors] at h
  | v + 1, w, c, h => by
    simp only [colors] at h
    rcases Nat.lt_or_ge w v with hw | hw
    · rw [List.getElem?_append_left (by rw [colors_len]; exact hw)] at h
      exact colors_le E v w c h
    · rw [List.getElem?_append_right (by rw [colors_len]; exact hw), colors_len] at h
      have : w - v = 0 := by
        rcases Nat.eq_zero_or_pos (w - v) with h0 | h0
        · exact h0
        · rw [List.getElem?_eq_none (by simp; omega)] at h; cases h
      rw [this] at h
      simp at h
      have := mex_le (usedC E (colors E v) v) v
      omega
theorem usedC_v (E : List Pair) (v : Nat) : usedC E (colors E v) v v = false := by
  unfold usedC
  rw [List.any_eq_false]
  intro w hw
  have hw : w < v := by simpa using hw
  simp only [Bool.and_eq_true, beq_iff_eq, not_and]
  intro h
  have := colors_le E v w v h
  omega
def most (l : List Nat) : Nat := l.foldl (fun m c => max m (c + 1)) 0
theorem most_app (l : List Nat) (c : Nat) : most (l ++ [c]) = max (most l) (c + 1) := by simp [most, List.foldl_append]
theorem most_le (E : List Pair) : ∀ v : Nat, most (colors E v) ≤ v
  | 0 => by simp [colors, most]
  | v + 1 => by
    have := most_le E v
    have := mex_le (usedC E (colors E v) v) v
    rw [colors, most_app]; omega
end Go.Proofs.YtminclnaelbolaaDoor

namespace Go.Proofs.YtminclnaelbolaaDoor
open Go Go.Proofs.YtminclnaelbolaaDoor.Gw
set_option linter.unusedVariables false

theorem ints_get (l : List Nat) (i : Nat) : (ints l)[i]? = (l[i]?).map fun c : Nat => (c : Int) := by simp [ints]
theorem refColor_ok (N : Int) (E : List Pair) (hE : E.length ≤ 1000000) : Evt (fun n => ref29_Color n N E) (if valid N E then (ints (colors E N.toNat), (most (colors E N.toNat) : Int), 0) else ([], 0, 1)) := by
  apply Tot.of_eq
  dsimp only [ref29_Color]
  refine Tot.bind (Tot.evt (valid_ok N E hE) ?_)
  cases hv : valid N E
  · exact Tot.ret rfl
  · obtain ⟨hn0, hn1⟩ := valid_N hv
    obtain ⟨M, rfl⟩ : ∃ M : Nat, N = M := ⟨N.toNat, by omega⟩
    rw [Int.toNat_natCast]
    refine Tot.cond (fun h => by cases h) fun _ => ?_
    refine Tot.bind ?_
    refine Tot.loop (fun s : List Int × Int × Int => ∃ v : Nat, s = (ints (colors E v), (most (colors E v) : Int), (v : Int)) ∧ v ≤ M) (fun s => M - s.2.2.toNat) ⟨0, rfl, by omega⟩ ?_
    rintro _ ⟨v, rfl, hv⟩
    dsimp only [ref29_Color_L141]
    refine Tot.condD (fun hc => ?_) (fun hc => ?_)
    · refine Tot.bind (Tot.bind ?_)
      have hvM : v < M := by omega
      generalize hcs : colors E v = cs
      have hcl : cs.length = v := by rw [← hcs]; exact colors_len E v
      -- the color
      have key : Tot (fun n => loopN (ref29_Color_L167 n E (ints cs) (v : Int)) n (0, true)) (fun c => c = (mex (usedC E cs v) v : Int)) := by
        refine Tot.loop (fun s : Int × Bool => ∃ c : Nat, s.1 = c ∧ c ≤ v ∧ (∀ d, d < c → usedC E cs v d = true) ∧ (s.2 = false → usedC E cs v c = false)) (fun s => 2 * (v + 1 - s.1.toNat) + s.2.toNat) ⟨0, rfl, by omega, fun d hd => by omega, fun h => by cases h⟩ ?_
        rintro ⟨_, u⟩ ⟨c, rfl, hcv, hbel, hun⟩
        dsimp only [ref29_Color_L167] at *
        refine Tot.cond (fun hu => ?_) (fun hu => ?_)
        · refine Tot.bind ?_
          have key2 : Tot (fun n => loopN (ref29_Color_L169 n E (ints cs) (v : Int) (c : Int)) n (false, 0)) (fun b => b = usedC E cs v c) := by
            refine Tot.loop (fun s : Bool × Int => ∃ w : Nat, s.2 = w ∧ w ≤ v ∧ (s.1 || ((List.range' w (v - w)).any fun w => (cs[w]? == some c) && adjE E w v)) = usedC E cs v c) (fun s => v - s.2.toNat) ⟨0, rfl, by omega, ?_⟩ ?_
            · simp only [Bool.false_or, Nat.sub_zero, ← List.range_eq_range']; rfl
            rintro ⟨b, _⟩ ⟨w, rfl, hw, hb⟩
            dsimp only [ref29_Color_L169] at *
            refine Tot.condD (fun hc2 => ?_) (fun hc2 => ?_)
            · have hwv : w < v := by omega
              rw [w64 (by omega) (by omega)]
              have hr : List.range' w (v - w) = w :: List.range' (w + 1) (v - (w + 1)) := by rw [show v - w = (v - (w + 1)) + 1 by omega, List.range'_succ]
              rw [hr, List.any_cons] at hb
              refine Tot.bind (Tot.cond (fun hb1 => ?_) (fun hb1 => ?_))
              · subst hb1
                exact Tot.ret (Tot.ret ⟨⟨w + 1, (by first | omega | (dsimp only; omega) | (simp; done) | (simp; omega)), by omega, by rw [← hb]; simp⟩, (by first | omega | (dsimp only; omega) | (simp; done) | (simp; omega))⟩)
              · subst hb1
                have hcw : cs[w]? = some (cs[w]'(by omega)) := List.getElem?_eq_getElem (by omega)
                refine Tot.idxv (x := ((cs[w]'(by omega) : Nat) : Int)) (by rw [idx_nat, ints_get, hcw]; rfl) ?_
                rw [hcw] at hb
                generalize cs[w]'(by omega) = q at hb
                refine Tot.condE (fun he => ?_) (fun he => ?_)
                · obtain rfl : q = c := by omega
                  refine Tot.bind (Tot.evt (joined_ok E w v hE) ?_)
                  refine Tot.ret (Tot.ret ⟨⟨w + 1, (by first | omega | (dsimp only; omega) | (simp; done) | (simp; omega)), by omega, ?_⟩, (by first | omega | (dsimp only; omega) | (simp; done) | (simp; omega))⟩)
                  rw [← hb]
                  show (adjE E w v || _) = _
                  simp
                · refine Tot.ret (Tot.ret ⟨⟨w + 1, (by first | omega | (dsimp only; omega) | (simp; done) | (simp; omega)), by omega, ?_⟩, (by first | omega | (dsimp only; omega) | (simp; done) | (simp; omega))⟩)
                  rw [← hb]
                  have : (some q == some c) = false := by simp; omega
                  rw [this]; simp
            · obtain rfl : w = v := by omega
              rw [Nat.sub_self] at hb
              exact Tot.ret (by simpa using hb)
          refine key2.mono ?_
          rintro _ rfl
          cases hus : usedC E cs v c
          · refine Tot.cond (fun h => by cases h) fun _ => ?_
            refine Tot.ret ⟨⟨c, rfl, hcv, hbel, fun _ => hus⟩, ?_⟩
            subst hu; simp
          · refine Tot.cond (fun _ => ?_) (fun h => by cases h)
            rw [w64 (by omega) (by omega)]
            have hne : c ≠ v := by rintro rfl; rw [← hcs, usedC_v] at hus; cases hus
            refine Tot.ret ⟨⟨c + 1, (by first | omega | (dsimp only; omega) | (simp; done) | (simp; omega)), by omega, fun d hd => ?_, fun h => by cases h⟩, ?_⟩
            · rcases Nat.lt_or_eq_of_le (Nat.lt_succ_iff.1 hd) with h | h
              · exact hbel d h
              · rw [h]; exact hus
            · subst hu; simp; omega
        · refine Tot.ret ?_
          dsimp only
          rw [mex_eq hcv (hun hu) hbel (by rw [← hcs]; exact usedC_v E v)]
      refine key.mono ?_
      rintro _ rfl
      have hm := mex_le (usedC E cs v) v
      generalize hmx : mex (usedC E cs v) v = m at hm
      refine Tot.app (by rw [ints_len]; simp; omega) (Tot.ret ?_)
      rw [w64 (by omega) (by omega), w64 (by omega) (by omega)]
      refine Tot.ret ⟨⟨v + 1, ?_, by omega⟩, (by first | omega | (dsimp only; omega) | (simp; done) | (simp; omega))⟩
      have e : colors E (v + 1) = cs ++ [m] := by rw [colors, hcs, hmx]
      rw [e, most_app]
      refine Prod.ext ?_ (Prod.ext ?_ ?_)
      · rw [ints_app]; rfl
      · dsimp only; split <;> omega
      · rfl
    · obtain rfl : v = M := by omega
      exact Tot.ret (Tot.ret rfl)
end Go.Proofs.YtminclnaelbolaaDoor

namespace Go.Proofs.YtminclnaelbolaaDoor
open Go Go.Proofs.YtminclnaelbolaaDoor.Gw
set_option linter.unusedVariables false

theorem ib_not {m : Nat} (hm : m < 4294967296) : ib .xor .u32 (if (IntKind.u32).signed then -1 else (IntKind.u32).max) (m : Int) = (andn 4294967295 m : Int) := by
  have h : (BitVec.ofInt 32 (4294967295 : Int) ^^^ BitVec.ofInt 32 (m : Int)).toNat = andn 4294967295 m := by
    unfold andn
    congr 1
    apply BitVec.eq_of_getLsbD_eq
    intro i hi
    have h1 : (BitVec.ofInt 32 (4294967295 : Int)) = BitVec.allOnes 32 := by decide
    have h2 : BitVec.ofNat 32 4294967295 = BitVec.allOnes 32 := by decide
    rw [h1, h2, ofInt_nat, BitVec.getLsbD_xor, BitVec.getLsbD_and, BitVec.getLsbD_not, BitVec.getLsbD_allOnes]
    simp only [hi, decide_true, Bool.true_and]
    cases (BitVec.ofNat 32 m).getLsbD i <;> rfl
  show IntKind.u32.wrap ((BitVec.ofInt 32 (if (IntKind.u32).signed then (-1 : Int) else (IntKind.u32).max) ^^^ BitVec.ofInt 32 (m : Int)).toNat : Int) = _
  have e : (if (IntKind.u32).signed then (-1 : Int) else (IntKind.u32).max) = 4294967295 := by simp [IntKind.signed, IntKind.max, IntKind.bits]
  rw [e, h]
  exact u32_nat (andn_lt _ _)
theorem full_bit {i : Nat} (h : i < 32) : Nat.testBit 4294967295 i = true := by
  have : (4294967295 : Nat) = 2 ^ 32 - 1 := rfl
  rw [this, Nat.testBit_two_pow_sub_one]; simp [h]
theorem low_mask {v : Nat} (h : v < 32) : IntKind.u32.wrap ((IntKind.u32.wrap ((1 : Int) * 2 ^ min (v : Int).toNat (IntKind.u32).bits)) - 1) = ((2 ^ v - 1 : Nat) : Int) := by
  have hp := two_pow_lt h
  have hp0 : 0 < 2 ^ v := Nat.pow_pos (by omega)
  rw [shl1 h, w32 (by omega) (by omega)]; omega
theorem bl_low {m v : Nat} (hv : v < 32) : bl (m &&& (2 ^ v - 1)) = (List.range v).filter m.testBit := by
  apply sorted_ext (bl_sorted _) (List.pairwise_lt_range.filter _)
  intro i
  rw [mem_bl, Nat.testBit_and, Nat.testBit_two_pow_sub_one, List.mem_filter]
  simp
  constructor
  · rintro ⟨h1, h2, h3⟩; exact ⟨h3, h2⟩
  · rintro ⟨h1, h2⟩; exact ⟨by omega, h2, h1⟩
theorem ctz_mex {U v : Nat} (p : Nat → Bool) (hU : U < 4294967296) (hv : v < 32) (hb : ∀ c, c < 32 → U.testBit c = p c) (hp : p v = false) : andn 4294967295 U ≠ 0 ∧ Lib.ctz 32 (andn 4294967295 U) = mex p v := by
  have hmem : ∀ c, c ∈ bl (andn 4294967295 U) ↔ c < 32 ∧ p c = false := by
    intro c
    rw [mem_bl]
    constructor
    · rintro ⟨h, h2⟩
      rw [testBit_andn _ _ _ h, full_bit h, hb c h] at h2
      exact ⟨h, by simpa using h2⟩
    · rintro ⟨h, h2⟩
      refine ⟨h, ?_⟩
      rw [testBit_andn _ _ _ h, full_bit h, hb c h, h2]; rfl
  have hne : andn 4294967295 U ≠ 0 := by
    intro e
    have := (hmem v).2 ⟨hv, hp⟩
    rw [e, bl_zero] at this; simp at this
  obtain ⟨l, hl⟩ := ctz_head (andn_lt _ _) hne
  generalize Lib.ctz 32 (andn 4294967295 U) = c at *
  refine ⟨hne, ?_⟩
  have hs := bl_sorted (andn 4294967295 U)
  have h1 := (hmem c).1 (by rw [hl]; simp)
  rw [hl, List.pairwise_cons] at hs
  have hvm := (hmem v).2 ⟨hv, hp⟩
  have hle : c ≤ v := by
    rw [hl] at hvm
    rcases List.mem_cons.1 hvm with e | e
    · omega
    · have := hs.1 v e; omega
  refine mex_eq hle h1.2 (fun d hd => ?_) hp
  cases hpd : p d with
  | true => rfl
  | false =>
    have := (hmem d).2 ⟨by omega, hpd⟩
    rw [hl] at this
    rcases List.mem_cons.1 this with e | e
    · omega
    · have := hs.1 d e; omega
theorem upd_get (xs : List Int) (i j : Nat) (x : Int) : (upd xs (i : Int) x)[j]? = if j = i ∧ i < xs.length then some x else xs[j]? := by
  unfold upd
  rw [Int.toNat_natCast, List.getElem?_set]
  by_cases h : i = j
  · subst h
    by_cases h2 : i < xs.length
    · simp [h2]
    · simp [h2]
  · rw [if_neg h, if_neg (by omega)]
theorem color_ok (N : Int) (E : List Pair) (hE : E.length ≤ 1000000) : Evt (fun n => clique_Color n N E) (if valid N E then (ints (colors E N.toNat), (most (colors E N.toNat) : Int), 0) else ([], 0, 1)) := by
  apply Tot.of_eq
  dsimp only [clique_Color]
  obtain ⟨r, h1, h2, h3⟩ := build_any N E hE
  refine Tot.bind (Tot.evt h1 ?_)
  cases hv : valid N E
  · rw [h2 hv]
    exact Tot.ret rfl
  · obtain ⟨hn0, hn1, g, am, rfl, hG⟩ := h3 hv
    obtain ⟨M, rfl⟩ : ∃ M : Nat, N = M := ⟨N.toNat, by omega⟩
    rw [Int.toNat_natCast] at hG ⊢
    refine Tot.cond (fun h => by cases h) fun _ => ?_
    have hmk : mk (M : Int) (0 : Int) = some (List.replicate M 0) := by unfold mk; rw [if_pos (by omega)]; simp
    refine Tot.bind (Tot.val hmk (Tot.bind ?_))
    refine Tot.loop (fun s : List Int × Int × Int => ∃ v : Nat, s = (ints (colors E v) ++ List.replicate (M - v) 0, (most (colors E v) : Int), (v : Int)) ∧ v ≤ M) (fun s => M - s.2.2.toNat) ⟨0, rfl, by omega⟩ ?_
    rintro _ ⟨v, rfl, hvM⟩
    dsimp only [clique_Color_L21]
    refine Tot.condD (fun hc => ?_) (fun hc => ?_)
    · have hvM : v < M := by omega
      generalize hcs : colors E v = cs
      have hcl : cs.length = v := by rw [← hcs]; exact colors_len E v
      have hlen := hG.len
      obtain ⟨hga, hm32⟩ := hG.rows v (by omega)
      refine Tot.bind (Tot.bind ?_)
      refine Tot.bind ?_
      refine Tot.val (r := (am v : Int)) (by rw [idx_nat]; exact hga) ?_
      refine Tot.need (by omega) ?_
      rw [low_mask (by omega), ib_and hm32 (by have := two_pow_lt (show v < 32 by omega); omega)]
      refine Tot.bind (Tot.evt (list_ok (and_lt hm32)) ?_)
      rw [bl_low (by omega)]
      have hfilt : (List.range v).filter (am v).testBit = (List.range v).filter (fun w => adjE E w v) := by
        apply List.filter_congr
        intro w hw
        have hw : w < v := by simpa using hw
        have hb := hG.bits w v (by omega)
        have hb2 := hG.bits v w hvM
        rw [pj_joined fun p hp => (valid_edge hv p hp).2.1] at hb hb2
        rw [hb2]
        unfold adjE joined
        congr 1
        funext p
        rw [if_pos (show (w : Int) < v by omega), if_neg (show ¬ (w : Int) > v by omega), if_neg (show ¬ (v : Int) < w by omega), if_pos (show (v : Int) > w by omega)]
      rw [hfilt]
      generalize hL : (List.range v).filter (fun w => adjE E w v) = L
      have hLv : ∀ w ∈ L, w < v := by intro w hw; rw [← hL] at hw; simpa using (List.mem_filter.1 hw).1
      have hLl : L.length ≤ v := by rw [← hL]; have := List.length_filter_le (fun w => adjE E w v) (List.range v); simpa using this
      have key : Tot (fun n => loopN (clique_Color_L25 (ints cs ++ List.replicate (M - v) 0) (ints L)) n (0, 0)) (fun r => ∃ U : Nat, r = U ∧ U < 4294967296 ∧ ∀ c, c < 32 → U.testBit c = L.any fun w => cs[w]? == some c) := by
        refine Tot.loop0 (fun s : Int × Int => ∃ (U i : Nat), s = ((U : Int), (i : Int)) ∧ i ≤ L.length ∧ U < 4294967296 ∧ ∀ c, c < 32 → U.testBit c = (L.take i).any fun w => cs[w]? == some c) (fun s => L.length - s.2.toNat) ⟨0, 0, rfl, by omega, by omega, fun c _ => by simp⟩ ?_
        rintro _ ⟨U, i, rfl, hi, hU, hb⟩
        dsimp only [clique_Color_L25]
        rw [ints_len]
        refine Tot.condD (fun hc2 => ?_) (fun hc2 => ?_)
        · have hiL : i < L.length := by omega
          have hwm : L[i] ∈ L := List.getElem_mem hiL
          refine Tot.idxv (x := ((L[i] : Nat) : Int)) (idx_ints hiL) ?_
          have hwv := hLv _ hwm
          have htk : L.take (i + 1) = L.take i ++ [L[i]] := by rw [List.take_succ_eq_append_getElem hiL]
          generalize L[i] = w at *
          have hcw : cs[w]? = some (cs[w]'(by omega)) := List.getElem?_eq_getElem (by omega)
          have hle := colors_le E v w (cs[w]'(by omega)) (by rw [hcs]; exact hcw)
          generalize cs[w]'(by omega) = q at hcw hle
          refine Tot.idxv (x := (q : Int)) (by rw [idx_nat, List.getElem?_append_left (by rw [ints_len]; omega), ints_get, hcw]; rfl) ?_
          refine Tot.need (by omega) ?_
          rw [shl1 (by omega), ib_or hU (two_pow_lt (by omega)), w64 (by omega) (by omega)]
          refine Tot.ret ⟨⟨U ||| 2 ^ q, i + 1, rfl, by omega, or_lt hU (two_pow_lt (by omega)), fun c hc => ?_⟩, (by first | omega | (dsimp only; omega) | (simp; done) | (simp; omega))⟩
          rw [htk, List.any_append, Nat.testBit_or, hb c hc, Nat.testBit_two_pow]
          simp [hcw]
          rcases Nat.decEq q c with h | h <;> simp [h]
        · obtain rfl : i = L.length := by omega
          exact Tot.ret ⟨U, rfl, hU, by simpa using hb⟩
      refine key.mono ?_
      rintro _ ⟨U, rfl, hU, hb⟩
      have hub : ∀ c, c < 32 → U.testBit c = usedC E cs v c := by
        intro c hc
        rw [hb c hc, ← hL]
        unfold usedC
        rw [List.any_filter]
        congr 1; funext w; rw [Bool.and_comm]
      obtain ⟨hne, hmx⟩ := ctz_mex (usedC E cs v) hU (show v < 32 by omega) hub (by rw [← hcs]; exact usedC_v E v)
      have hm := mex_le (usedC E cs v) v
      rw [ib_not hU]
      refine Tot.bind (Tot.at_ (fun n => tz_ok (andn_lt _ _) hne n) ?_)
      rw [hmx]
      have e : colors E (v + 1) = cs ++ [mex (usedC E cs v) v] := by rw [colors, hcs]
      generalize hmm : mex (usedC E cs v) v = m at *
      have hll : (ints cs ++ List.replicate (M - v) (0 : Int)).length = M := by rw [List.length_append, ints_len, List.length_replicate]; omega
      refine Tot.idx (by omega) (by rw [hll]; omega) fun x hx => ?_
      refine Tot.idxv (x := (m : Int)) (by rw [idx_nat, upd_get, if_pos ⟨rfl, by omega⟩]) ?_
      refine Tot.ret ?_
      rw [w64 (by omega) (by omega), w64 (by omega) (by omega)]
      refine Tot.ret ⟨⟨v + 1, ?_, by omega⟩, (by first | omega | (dsimp only; omega) | (simp; done) | (simp; omega))⟩
      rw [e, most_app]
      refine Prod.ext ?_ (Prod.ext ?_ ?_)
      · dsimp only
        apply List.ext_getElem?
        intro j
        rw [upd_get, hll]
        by_cases h1 : j = v ∧ v < M
        · rw [if_pos h1, List.getElem?_append_left (by rw [ints_len]; simp; omega), ints_get, List.getElem?_append_right (by omega)]
          simp [h1.1, hcl]
        · rw [if_neg h1]
          rcases Nat.lt_or_ge j v with h2 | h2
          · rw [List.getElem?_append_left (by rw [ints_len]; omega), List.getElem?_append_left (by rw [ints_len]; simp; omega), ints_get, ints_get, List.getElem?_append_left (by omega)]
          · rw [List.getElem?_append_right (by rw [ints_len]; omega), List.getElem?_append_right (by rw [ints_len]; simp; omega), ints_len, ints_len, List.getElem?_replicate, List.getElem?_replicate]
            have : (j - cs.length < M - v) ↔ (j - (cs ++ [m]).length < M - (v + 1)) := by simp; omega
            simp only [this]
      · dsimp only; split <;> omega
      · rfl
    · obtain rfl : v = M := by omega
      refine Tot.ret (Tot.ret ?_)
      simp
end Go.Proofs.YtminclnaelbolaaDoor

namespace Go.Proofs.YtminclnaelbolaaDoor
open Go Go.Proofs.YtminclnaelbolaaDoor.Gw
set_option linter.unusedVariables false

/-- The beginning of a law: awake, and few. -/
theorem law_begin {g : Nat → Bool → Option Bool} {N : Int} {E : List Pair} {Q : Bool → Prop} (h : few N E = false → Tot (fun n => g n true) Q) (k : few N E = true → Tot (fun n => g n false) Q) :
    Tot (fun n => ((law29_awake n).bind fun x => cond (!x) (some true) ((law29_few n (Graph.mk N E)).bind fun y => some (!y))).bind fun b => g n b) Q := by
  refine Tot.bind (Tot.bind (Tot.evt awake_ok ?_))
  refine Tot.cond (fun h => by cases h) fun _ => ?_
  refine Tot.bind (Tot.at_ (fun n => few_ok N E n) (Tot.ret ?_))
  cases hf : few N E
  · exact h hf
  · exact k hf
theorem law_begin2 {c : Bool} {g : Nat → Bool → Option Bool} {N : Int} {E : List Pair} {Q : Bool → Prop} (h : few N E = false ∨ c = true → Tot (fun n => g n true) Q) (k : few N E = true → c = false → Tot (fun n => g n false) Q) :
    Tot (fun n => ((law29_awake n).bind fun x => cond (!x) (some true) ((law29_few n (Graph.mk N E)).bind fun y => cond (!y) (some true) (some c))).bind fun b => g n b) Q := by
  refine Tot.bind (Tot.bind (Tot.evt awake_ok ?_))
  refine Tot.cond (fun h => by cases h) fun _ => ?_
  refine Tot.bind (Tot.at_ (fun n => few_ok N E n) ?_)
  refine Tot.cond (fun hf => Tot.ret ?_) (fun hf => Tot.ret ?_)
  · exact h (.inl (by simpa using hf))
  · cases c
    · exact k (by simpa using hf) rfl
    · exact h (.inr rfl)
theorem asleep : Tot (fun n => (law29_awake n).bind fun x => some x) (· = true) := Tot.bind (Tot.evt awake_ok (Tot.ret rfl))
theorem few_len' {N : Int} {E : List Pair} (h : few N E = true) : E.length ≤ 1000000 := Nat.le_trans (few_len h) (by omega)
theorem law_CliqueColors (g : Graph) (hg : okGraph g) : Evt (fun n => law29_CliqueColors n g) true := by
  obtain ⟨N, E⟩ := g
  apply Tot.of_eq
  dsimp only [law29_CliqueColors]
  refine law_begin (fun _ => ?_) (fun hf => ?_)
  · exact asleep
  · have hE := few_len' hf
    dsimp only [cond_false]
    refine Tot.bind (Tot.evt (color_ok N E hE) ?_)
    refine Tot.bind (Tot.evt (refColor_ok N E hE) ?_)
    refine Tot.bind (Tot.evt (compl_ok N E hE) ?_)
    refine Tot.bind (Tot.evt (refCompl_ok N E hE) ?_)
    cases hv : valid N E
    · refine Tot.bind (Tot.condE (fun _ => ?_) (fun h => absurd rfl h))
      refine Tot.bind (Tot.evt (Ints_refl [] (by simp)) (Tot.cond (fun _ => ?_) (fun h => by cases h)))
      refine Tot.condE (fun _ => ?_) (fun h => absurd rfl h)
      refine Tot.condE (fun _ => ?_) (fun h => absurd rfl h)
      exact Tot.bind (Tot.evt (Pairs_refl [] (by simp)) (Tot.ret (Tot.ret rfl)))
    · have hN := valid_N hv
      refine Tot.bind (Tot.condE (fun _ => ?_) (fun h => absurd rfl h))
      refine Tot.bind (Tot.evt (Ints_refl _ ?_) (Tot.cond (fun _ => ?_) (fun h => by cases h)))
      · rw [if_pos rfl, ints_len, colors_len]; omega
      refine Tot.condE (fun _ => ?_) (fun h => absurd rfl h)
      refine Tot.condE (fun _ => ?_) (fun h => absurd rfl h)
      refine Tot.bind (Tot.evt (Pairs_refl _ ?_) (Tot.ret (Tot.ret rfl)))
      have := missAll_len (E := E) (N := N.toNat) (by omega) N.toNat 0 (by omega)
      rw [if_pos rfl]; dsimp only; omega
end Go.Proofs.YtminclnaelbolaaDoor

namespace Go.Proofs.YtminclnaelbolaaDoor
open Go Go.Proofs.YtminclnaelbolaaDoor.Gw
set_option linter.unusedVariables false

/- ### The number of cliques -/
/-- How many cliques of a size lie among c? -/
def cnt (adj : Nat → Nat → Bool) : Nat → List Nat → Nat
  | 0, _ => 1
  | _ + 1, [] => 0
  | s + 1, v :: c => cnt adj s (c.filter (adj v)) + cnt adj (s + 1) c
termination_by s c => (s, c.length)
theorem cnt_zero {adj : Nat → Nat → Bool} (c : List Nat) : cnt adj 0 c = 1 := by rw [cnt]
theorem cnt_nil {adj : Nat → Nat → Bool} (s : Nat) : cnt adj (s + 1) [] = 0 := by rw [cnt]
theorem cnt_cons {adj : Nat → Nat → Bool} (s v : Nat) (c : List Nat) : cnt adj (s + 1) (v :: c) = cnt adj s (c.filter (adj v)) + cnt adj (s + 1) c := by rw [cnt]
theorem cnt_small {adj : Nat → Nat → Bool} : ∀ (c : List Nat) (s : Nat), c.length < s → cnt adj s c = 0
  | _, 0, h => by omega
  | [], s + 1, _ => cnt_nil s
  | v :: c, s + 1, h => by
    simp only [List.length_cons] at h
    have hf := List.length_filter_le (adj v) c
    rw [cnt_cons, cnt_small c (s + 1) (by omega), cnt_small (c.filter (adj v)) s (by omega)]
termination_by c s => (s, c.length)
theorem cnt_le {adj : Nat → Nat → Bool} : ∀ (c : List Nat) (s : Nat), cnt adj s c ≤ 2 ^ c.length
  | c, 0 => by rw [cnt_zero]; exact Nat.pow_pos (by omega)
  | [], s + 1 => by rw [cnt_nil]; exact Nat.zero_le _
  | v :: c, s + 1 => by
    have hf := List.length_filter_le (adj v) c
    have h1 := cnt_le (adj := adj) c (s + 1)
    have h2 := cnt_le (adj := adj) (c.filter (adj v)) s
    have h3 : 2 ^ (c.filter (adj v)).length ≤ 2 ^ c.length := Nat.pow_le_pow_right (by omega) hf
    rw [cnt_cons, List.length_cons, Nat.pow_succ]; omega
termination_by c s => (s, c.length)
theorem cnt_congr {a b : Nat → Nat → Bool} (M : Nat) (h : ∀ v w, v < M → w < M → a v w = b v w) : ∀ (c : List Nat) (s : Nat), (∀ v ∈ c, v < M) → cnt a s c = cnt b s c
  | c, 0, _ => by rw [cnt_zero, cnt_zero]
  | [], s + 1, _ => by rw [cnt_nil, cnt_nil]
  | v :: c, s + 1, hc => by
    have hv := hc v (by simp)
    have hc' : ∀ w ∈ c, w < M := fun w hw => hc w (by simp [hw])
    have hf : c.filter (a v) = c.filter (b v) := List.filter_congr fun w hw => h v w hv (hc' w hw)
    have hlen := List.length_filter_le (b v) c
    rw [cnt_cons, cnt_cons, hf, cnt_congr M h c (s + 1) hc', cnt_congr M h (c.filter (b v)) s (fun w hw => hc' w (List.mem_filter.1 hw).1)]
termination_by c s => (s, c.length)
theorem bl_len (m : Nat) : (bl m).length ≤ 32 := by
  have := List.length_filter_le m.testBit (List.range 32)
  simpa [bl] using this
theorem pow20 {k : Nat} (h : k ≤ 32) : 2 ^ k ≤ 4294967296 := by
  have : 2 ^ k ≤ 2 ^ 32 := Nat.pow_le_pow_right (by omega) h
  simpa using this
theorem count_ok (g : List Int) (am : Nat → Nat) (hg : rowsOk g am) : ∀ (s free : Nat), s ≤ 1000 → free < 4294967296 → (∀ i ∈ bl free, i < g.length) →
    Evt (fun n => clique_graph_count n g free (s : Int)) ((cnt (fun v => (am v).testBit) s (bl free) : Nat) : Int) := by
  intro s
  induction s with
  | zero =>
    intro free _ hf hb
    apply Tot.of_eq
    refine Tot.succ ?_
    dsimp only [clique_graph_count, clique_graph_count_F]
    refine Tot.condE (fun _ => Tot.ret ?_) (fun h => absurd rfl h)
    rw [cnt_zero]; rfl
  | succ s ih =>
    intro free hs hf hb
    apply Tot.of_eq
    refine Tot.succ ?_
    dsimp only [clique_graph_count, clique_graph_count_F]
    generalize hadj : (fun v => (am v).testBit) = adj at *
    have hbnd := cnt_le (adj := adj) (bl free) (s + 1)
    have hp := pow20 (bl_len free)
    refine Tot.condE (fun h => by omega) (fun _ => Tot.bind ?_)
    refine Tot.loop (fun t : Int × Int => ∃ x c : Nat, t = ((x : Int), (c : Int)) ∧ x < 4294967296 ∧ (∀ i ∈ bl x, i < g.length) ∧ c + cnt adj (s + 1) (bl x) = cnt adj (s + 1) (bl free)) (fun t => (bl t.1.toNat).length) ⟨free, 0, rfl, hf, hb, by omega⟩ ?_
    rintro _ ⟨x, c, rfl, hx, hxb, hsum⟩
    dsimp only [clique_graph_count_L1]
    refine Tot.bind (Tot.at_ (fun n => size_ok hx n) ?_)
    refine Tot.condD (fun hc => ?_) (fun hc => ?_)
    · have h0 : x ≠ 0 := by rintro rfl; rw [bl_zero] at hc; simp at hc; omega
      obtain ⟨l, hl⟩ := ctz_head hx h0
      have hdr := drop_low hx h0 hl
      generalize hv : Lib.ctz 32 x = v at *
      refine Tot.bind (Tot.at_ (fun n => by rw [tz_ok hx h0, hv]) ?_)
      obtain ⟨hgv, hav⟩ := hg v (hxb v (by rw [hl]; simp))
      refine Tot.idxv (x := (am v : Int)) (by rw [idx_nat]; exact hgv) ?_
      have e1 : IntKind.u32.wrap ((x : Int) - 1) = ((x - 1 : Nat) : Int) := by rw [wrap32 (by omega)]; omega
      rw [e1, ib_and hx (by omega), ib_and (and_lt hx) hav, w64 (by omega) (by omega)]
      have hch : bl (x &&& (x - 1) &&& am v) = l.filter (adj v) := by rw [bl_and, hdr, ← hadj]
      have hcall := ih (x &&& (x - 1) &&& am v) (by omega) (and_lt (and_lt hx)) (fun i hi => by
        rw [hch] at hi; exact hxb i (by rw [hl]; exact List.mem_cons_of_mem _ (List.mem_filter.1 hi).1))
      rw [hch] at hcall
      rw [hl, cnt_cons] at hsum
      rw [show ((s + 1 : Nat) : Int) - 1 = (s : Int) by omega]
      refine Tot.bind (Tot.evt hcall ?_)
      rw [w64 (by omega) (by omega)]
      refine Tot.ret ⟨⟨x &&& (x - 1), c + cnt adj s (l.filter (adj v)), by rw [Int.natCast_add], and_lt hx, fun i hi => ?_, ?_⟩, ?_⟩
      · rw [hdr] at hi; exact hxb i (by rw [hl]; exact List.mem_cons_of_mem _ hi)
      · rw [hdr]; omega
      · simp only [Int.toNat_natCast]; rw [hdr, hl]; simp
    · refine Tot.ret (Tot.ret ?_)
      rw [cnt_small (bl x) (s + 1) (by omega)] at hsum
      omega
theorem refcount_ok (E : List Pair) (N : Nat) (hE : E.length ≤ 1000000) (hN : N ≤ 20) : ∀ (s : Nat) (l : List Nat) (i : Nat), s ≤ 1000 → l.length ≤ 20 + i → i ≤ N →
    Evt (fun n => ref29_count n N E (ints l) i (s : Int)) ((cnt (adjE E) s (cand E N l i) : Nat) : Int) := by
  intro s
  induction s with
  | zero =>
    intro l i _ _ _
    apply Tot.of_eq
    refine Tot.succ ?_
    dsimp only [ref29_count, ref29_count_F]
    refine Tot.condE (fun _ => Tot.ret ?_) (fun h => absurd rfl h)
    rw [cnt_zero]; rfl
  | succ s ih =>
    intro l i hs hl hi
    apply Tot.of_eq
    refine Tot.succ ?_
    dsimp only [ref29_count, ref29_count_F]
    have hbnd := cnt_le (adj := adjE E) (cand E N l i) (s + 1)
    have hp := pow20 (show (cand E N l i).length ≤ 32 by have := cand_len (E := E) (N := N) (i := i) (l := l); omega)
    refine Tot.condE (fun h => by omega) (fun _ => Tot.bind ?_)
    refine Tot.loop (fun t : Int × Int => ∃ c j : Nat, t = ((c : Int), (j : Int)) ∧ i ≤ j ∧ j ≤ N ∧ c + cnt (adjE E) (s + 1) (cand E N l j) = cnt (adjE E) (s + 1) (cand E N l i)) (fun t => N - t.2.toNat) ⟨0, i, rfl, by omega, hi, by omega⟩ ?_
    rintro _ ⟨c, j, rfl, hij, hj, hsum⟩
    dsimp only [ref29_count_L21]
    refine Tot.condD (fun hc => ?_) (fun hc => ?_)
    · have hjN : j < N := by omega
      have hfit : Evt (fun n => loopN (ref29_count_L25 n E (ints l) (j : Int)) n (true, 0)) (l.all fun u => adjE E u j) := fits_ok E l j hE (by omega)
      rw [w64 (show -9223372036854775808 ≤ (j : Int) + 1 by omega) (by omega)]
      refine Tot.bind (Tot.bind (Tot.evt hfit ?_))
      have hst := cand_step (E := E) (l := l) hjN
      cases hf : (l.all fun u => adjE E u j)
      · refine Tot.cond (fun h => by cases h) (fun _ => Tot.ret ?_)
        rw [hf] at hst
        refine Tot.ret ⟨⟨c, j + 1, rfl, by omega, by omega, ?_⟩, (by first | omega | (dsimp only; omega) | (simp; done) | (simp; omega))⟩
        rw [← hsum, hst]; rfl
      · refine Tot.cond (fun _ => ?_) (fun h => by cases h)
        rw [hf] at hst
        have hst' : cand E N l j = j :: cand E N l (j + 1) := hst
        rw [hst', cnt_cons] at hsum
        refine Tot.app (by rw [ints_len]; simp; omega) (Tot.app (by rw [List.nil_append, ints_len]; simp; omega) ?_)
        have hcall := ih (l ++ [j]) (j + 1) (by omega) (by simp; omega) (by omega)
        rw [cand_child] at hcall
        rw [w64 (by omega) (by omega), show ((s + 1 : Nat) : Int) - 1 = (s : Int) by omega, List.nil_append, show ints l ++ [(j : Int)] = ints (l ++ [j]) by rw [ints_app]; rfl]
        refine Tot.bind (Tot.evt hcall (Tot.ret ?_))
        rw [w64 (by omega) (by omega)]
        refine Tot.ret ⟨⟨c + cnt (adjE E) s ((cand E N l (j + 1)).filter (adjE E j)), j + 1, by rw [Int.natCast_add]; rfl, by omega, by omega, by omega⟩, (by first | omega | (dsimp only; omega) | (simp; done) | (simp; omega))⟩
    · obtain rfl : j = N := by omega
      refine Tot.ret (Tot.ret ?_)
      rw [cand_end (Nat.le_refl _), cnt_nil] at hsum
      omega
end Go.Proofs.YtminclnaelbolaaDoor

namespace Go.Proofs.YtminclnaelbolaaDoor
open Go Go.Proofs.YtminclnaelbolaaDoor.Gw
set_option linter.unusedVariables false

/-- The number of the cliques of a size. -/
def countV (N : Int) (E : List Pair) (s : Int) : Int × Int :=
  if valid N E then (if s < 0 ∨ s > N then (0, 0) else ((cnt (adjE E) s.toNat (List.range N.toNat) : Nat), 0)) else (0, 1)
theorem full_mask {M : Nat} (h : M ≤ 20) : IntKind.u32.wrap ((IntKind.u32.wrap ((1 : Int) * 2 ^ min M (IntKind.u32).bits)) - 1) = ((2 ^ M - 1 : Nat) : Int) := by
  have := low_mask (v := M) (by omega)
  rwa [Int.toNat_natCast] at this
theorem Count_ok (N : Int) (E : List Pair) (s : Int) (hE : E.length ≤ 1000000) : Evt (fun n => clique_Count n N E s) (countV N E s) := by
  apply Tot.of_eq
  dsimp only [clique_Count, countV]
  obtain ⟨r, h1, h2, h3⟩ := build_any N E hE
  refine Tot.bind (Tot.evt h1 ?_)
  cases hv : valid N E
  · rw [h2 hv]
    exact Tot.ret rfl
  · obtain ⟨hn0, hn1, g, am, rfl, hG⟩ := h3 hv
    obtain ⟨M, rfl⟩ : ∃ M : Nat, N = M := ⟨N.toNat, by omega⟩
    rw [Int.toNat_natCast] at hG ⊢
    rw [if_pos rfl]
    refine Tot.cond (fun h => by cases h) fun _ => ?_
    refine Tot.bind (Tot.condD (fun h => Tot.ret (Tot.cond (fun _ => ?_) (fun h => by cases h))) (fun h => Tot.ret (Tot.condD (fun h => ?_) (fun h => ?_))))
    · rw [if_pos (.inl h)]; exact Tot.ret rfl
    · rw [if_pos (.inr h)]; exact Tot.ret rfl
    · rw [if_neg (by omega)]
      obtain ⟨k, rfl⟩ : ∃ k : Nat, s = k := ⟨s.toNat, by omega⟩
      refine Tot.need (by omega) ?_
      rw [full_mask (by omega), Int.toNat_natCast]
      have hp : 2 ^ M < 4294967296 := two_pow_lt (by omega)
      have hc := count_ok g am hG.rows k (2 ^ M - 1) (by omega) (by omega) (fun i hi => by rw [bl_full (by omega)] at hi; rw [hG.len]; simpa using hi)
      rw [bl_full (by omega)] at hc
      refine Tot.bind (Tot.evt hc (Tot.ret ?_))
      rw [cnt_congr (b := adjE E) M (fun v w hv' hw => ?_) _ _ (fun v hv' => by simpa using hv')]
      rw [hG.bits v w hv', pj_joined fun p hp => (valid_edge hv p hp).2.1]
theorem refCount_ok (N : Int) (E : List Pair) (s : Int) (hE : E.length ≤ 1000000) : Evt (fun n => ref29_Count n N E s) (countV N E s) := by
  apply Tot.of_eq
  dsimp only [ref29_Count, countV]
  refine Tot.bind (Tot.evt (valid_ok N E hE) ?_)
  cases hv : valid N E
  · exact Tot.ret rfl
  · obtain ⟨hn0, hn1⟩ := valid_N hv
    obtain ⟨M, rfl⟩ : ∃ M : Nat, N = M := ⟨N.toNat, by omega⟩
    rw [Int.toNat_natCast]
    rw [if_pos rfl]
    refine Tot.cond (fun h => by cases h) fun _ => ?_
    refine Tot.bind (Tot.condD (fun h => Tot.ret (Tot.cond (fun _ => ?_) (fun h => by cases h))) (fun h => Tot.ret (Tot.condD (fun h => ?_) (fun h => ?_))))
    · rw [if_pos (.inl h)]; exact Tot.ret rfl
    · rw [if_pos (.inr h)]; exact Tot.ret rfl
    · rw [if_neg (by omega)]
      obtain ⟨k, rfl⟩ : ∃ k : Nat, s = k := ⟨s.toNat, by omega⟩
      rw [Int.toNat_natCast]
      have hg := refcount_ok E M hE (by omega) k [] 0 (by omega) (by simp) (by omega)
      have hc : cand E M [] 0 = List.range M := by
        unfold cand
        rw [Nat.sub_zero, ← List.range_eq_range']
        simp
      rw [hc] at hg
      exact Tot.bind (Tot.evt hg (Tot.ret rfl))
theorem law_CliqueCounts (g : Graph) (hg : okGraph g) (s : Int) (hs : inK .i64 s) : Evt (fun n => law29_CliqueCounts n g s) true := by
  obtain ⟨N, E⟩ := g
  apply Tot.of_eq
  dsimp only [law29_CliqueCounts]
  refine law_begin (fun _ => ?_) (fun hf => ?_)
  · exact asleep
  · have hE := few_len' hf
    dsimp only [cond_false]
    refine Tot.bind (Tot.evt (Count_ok N E s hE) ?_)
    refine Tot.bind (Tot.evt (refCount_ok N E s hE) ?_)
    refine Tot.bind (Tot.condE (fun _ => Tot.ret (Tot.ret ?_)) (fun h => absurd rfl h))
    simp
end Go.Proofs.YtminclnaelbolaaDoor

namespace Go.Proofs.YtminclnaelbolaaDoor
open Go Go.Proofs.YtminclnaelbolaaDoor.Gw
set_option linter.unusedVariables false

/- ### Is, Maximal -/
/-- Is the element at i one of a clique, whose elements ahead of it are? -/
def okAt (M : Nat) (E : List Pair) (l : List Int) (i : Nat) : Bool :=
  ((l[i]?).map fun x : Int => decide (0 ≤ x) && (decide (x < M) && ((decide (i = 0) || ((l[i - 1]?).map fun y : Int => decide (y < x)).getD false) && (l.take i).all fun u => joined E u x))).getD false
def isL (M : Nat) (E : List Pair) (l : List Int) : Bool := (List.range l.length).all (okAt M E l)
theorem okAt_lt {M : Nat} {E : List Pair} {l : List Int} {i : Nat} {x : Int} (h : l[i]? = some x) : okAt M E l i = (decide (0 ≤ x) && (decide (x < M) && ((decide (i = 0) || ((l[i - 1]?).map fun y : Int => decide (y < x)).getD false) && (l.take i).all fun u => joined E u x))) := by
  unfold okAt; rw [h]; rfl
theorem isL_false {M : Nat} {E : List Pair} {l : List Int} {i : Nat} (hi : i < l.length) (h : okAt M E l i = false) : isL M E l = false := by
  unfold isL
  rw [List.all_eq_false]
  exact ⟨i, by simpa using hi, by rw [h]; simp⟩
theorem isL_true {M : Nat} {E : List Pair} {l : List Int} (h : ∀ i, i < l.length → okAt M E l i = true) : isL M E l = true := by
  unfold isL
  rw [List.all_eq_true]
  intro i hi; exact h i (by simpa using hi)
theorem take_succ {α : Type} {l : List α} {i : Nat} {x : α} (h : l[i]? = some x) : l.take (i + 1) = l.take i ++ [x] := by
  obtain ⟨hi, rfl⟩ := List.getElem?_eq_some_iff.1 h
  rw [List.take_succ_eq_append_getElem hi]
theorem joined_comm (E : List Pair) (a b : Int) : joined E a b = joined E b a := by
  unfold joined
  congr 1; funext p
  rcases Int.lt_trichotomy a b with h | h | h
  · rw [if_neg (show ¬ b < a by omega), if_pos (show b > a by omega), if_pos h, if_neg (show ¬ a > b by omega)]
  · subst h; rfl
  · rw [if_pos h, if_neg (show ¬ b > a by omega), if_neg (show ¬ a < b by omega), if_pos (show a > b by omega)]
theorem joined_self {E : List Pair} (h : ∀ p ∈ E, p.A < p.B) (a : Int) : joined E a a = false := by
  unfold joined
  rw [List.any_eq_false]
  intro p hp
  have := h p hp
  simp; omega
theorem common_ok {g : List Int} {am : Nat → Nat} {M : Nat} {E : List Pair} (hG : Good g am M E) (hM : M ≤ 20) (hp : ∀ p ∈ E, p.A < p.B) (l : List Int) (hl : l.length ≤ 1000000) :
    ∃ r, Evt (fun n => clique_graph_common n g l) r ∧ (isL M E l = false → r = (0, false)) ∧ (isL M E l = true → ∃ F : Nat, r = ((F : Int), true) ∧ F < 4294967296 ∧ ∀ w, F.testBit w = (decide (w < M) && l.all fun u => joined E u w)) := by
  suffices h : Tot (fun n => clique_graph_common n g l) fun r => (isL M E l = false ∧ r = (0, false)) ∨ (isL M E l = true ∧ ∃ F : Nat, r = ((F : Int), true) ∧ F < 4294967296 ∧ ∀ w, F.testBit w = (decide (w < M) && l.all fun u => joined E u w)) by
    obtain ⟨r, he, hr⟩ := h
    refine ⟨r, he, fun h => ?_, fun h => ?_⟩
    · rcases hr with hr | hr
      · exact hr.2
      · rw [hr.1] at h; cases h
    · rcases hr with hr | hr
      · rw [hr.1] at h; cases h
      · exact hr.2
  dsimp only [clique_graph_common]
  have hgl := hG.len
  refine Tot.need (by omega) (Tot.bind ?_)
  have e0 : IntKind.u32.wrap ((IntKind.u32.wrap ((1 : Int) * 2 ^ min (g.length : Int).toNat (IntKind.u32).bits)) - 1) = ((2 ^ M - 1 : Nat) : Int) := by rw [hgl]; exact low_mask (by omega)
  rw [e0]
  have hp2 := two_pow_lt (show M < 32 by omega)
  refine Tot.loop0 (fun s : Int × Int => ∃ F i : Nat, s = ((F : Int), (i : Int)) ∧ i ≤ l.length ∧ F < 4294967296 ∧ (∀ j, j < i → okAt M E l j = true) ∧ ∀ w, F.testBit w = (decide (w < M) && (l.take i).all fun u => joined E u w)) (fun s => l.length - s.2.toNat)
    ⟨2 ^ M - 1, 0, rfl, by omega, by omega, fun j hj => by omega, fun w => by rw [Nat.testBit_two_pow_sub_one]; simp⟩ ?_
  rintro _ ⟨F, i, rfl, hi, hF, hok, hb⟩
  dsimp only [clique_graph_common_L1]
  refine Tot.condD (fun hc => ?_) (fun hc => ?_)
  · have hil : i < l.length := by omega
    refine Tot.idx (by omega) (by omega) fun x hx => ?_
    rw [Int.toNat_natCast] at hx
    have hat := okAt_lt (M := M) (E := E) hx
    refine Tot.bind (Tot.mono (Q' := fun b => b = !(okAt M E l i)) ?_ ?_)
    · have fin : ∀ k : Nat, x = k → k < M → (decide (i = 0) || ((l[i - 1]?).map fun y : Int => decide (y < x)).getD false) = true →
          Tot (fun n : Nat => (need (decide (0 ≤ x))).bind fun _ => some (((ib .and .u32 ((F : Int).fdiv (2 ^ min x.toNat (IntKind.u32).bits)) 1) == 0))) fun b => b = !(okAt M E l i) := by
        rintro k rfl hkM hprev
        refine Tot.need (by omega) (Tot.ret ?_)
        rw [bit_at hF (by omega), hat, hprev]
        have hbk := hb k
        rw [show decide (k < M) = true by simp [hkM], Bool.true_and] at hbk
        rw [← hbk, show decide (0 ≤ (k : Int)) = true by simp, show decide ((k : Int) < (M : Int)) = true by simp; omega]
        cases F.testBit k <;> rfl
      refine Tot.condD (fun h1 => Tot.ret ?_) (fun h1 => Tot.condD (fun h2 => Tot.ret ?_) (fun h2 => ?_))
      · rw [hat, show decide (0 ≤ x) = false by simp; omega]; rfl
      · rw [hat, show decide (x < (M : Int)) = false by simp; omega]; simp
      refine Tot.condD (fun h3 => ?_) (fun h3 => ?_)
      · rw [w64 (by omega) (by omega)]
        refine Tot.idx (by omega) (by omega) fun y hy => ?_
        have hy' : l[i - 1]? = some y := by rw [← hy]; congr 1; omega
        refine Tot.condD (fun h4 => Tot.ret ?_) (fun h4 => ?_)
        · rw [hat, hy', show decide (i = 0) = false by simp; omega]
          have : decide (y < x) = false := by simp; omega
          simp [this]
        · exact fin x.toNat (by omega) (by omega) (by rw [hy']; simp; omega)
      · exact fin x.toNat (by omega) (by omega) (by simp; omega)
    · rintro _ rfl
      cases hk : okAt M E l i
      · exact Tot.cond (fun _ => Tot.ret (Tot.ret (.inl ⟨isL_false hil hk, rfl⟩))) (fun h => by cases h)
      · refine Tot.cond (fun h => by cases h) (fun _ => ?_)
        have hk2 := hk
        rw [hat, Bool.and_eq_true, Bool.and_eq_true, decide_eq_true_eq, decide_eq_true_eq] at hk2
        obtain ⟨k, rfl⟩ : ∃ k : Nat, x = k := ⟨x.toNat, by omega⟩
        obtain ⟨hga, ham⟩ := hG.rows k (by omega)
        refine Tot.idxv (x := (am k : Int)) (by rw [idx_nat]; exact hga) ?_
        rw [ib_and hF ham, w64 (by omega) (by omega)]
        refine Tot.ret ⟨⟨F &&& am k, i + 1, rfl, by omega, and_lt hF, fun j hj => ?_, fun w => ?_⟩, (by first | omega | (dsimp only; omega) | (simp; done) | (simp; omega))⟩
        · rcases Nat.lt_or_eq_of_le (Nat.lt_succ_iff.1 hj) with h | h
          · exact hok j h
          · subst h; exact hk
        · rw [Nat.testBit_and, hb w, hG.bits k w (by omega), pj_joined hp, take_succ hx, List.all_append]
          simp only [List.all_cons, List.all_nil, Bool.and_true]
          rw [Bool.and_assoc]; rfl
  · obtain rfl : i = l.length := by omega
    refine Tot.ret (Tot.ret (.inr ⟨isL_true hok, F, rfl, hF, ?_⟩))
    rw [List.take_length] at hb
    exact hb
end Go.Proofs.YtminclnaelbolaaDoor

namespace Go.Proofs.YtminclnaelbolaaDoor
open Go Go.Proofs.YtminclnaelbolaaDoor.Gw
set_option linter.unusedVariables false

def isV (N : Int) (E : List Pair) (l : List Int) : Bool := valid N E && isL N.toNat E l
/-- Is there a vertex that is joined with all of l? -/
def more (M : Nat) (E : List Pair) (l : List Int) : Bool := (List.range M).any fun w => l.all fun u => joined E u w
def maxV (N : Int) (E : List Pair) (l : List Int) : Bool := isV N E l && !more N.toNat E l
theorem Is_ok (N : Int) (E : List Pair) (l : List Int) (hE : E.length ≤ 1000000) (hl : l.length ≤ 1000000) : Evt (fun n => clique_Is n N E l) (isV N E l) := by
  apply Tot.of_eq
  dsimp only [clique_Is, isV]
  obtain ⟨r, h1, h2, h3⟩ := build_any N E hE
  refine Tot.bind (Tot.evt h1 ?_)
  cases hv : valid N E
  · rw [h2 hv]; exact Tot.ret rfl
  · obtain ⟨hn0, hn1, g, am, rfl, hG⟩ := h3 hv
    refine Tot.cond (fun h => by cases h) fun _ => ?_
    obtain ⟨r, hc, c1, c2⟩ := common_ok hG (by omega) (fun p hp => (valid_edge hv p hp).2.1) l hl
    refine Tot.bind (Tot.evt hc (Tot.ret ?_))
    cases hi : isL N.toNat E l
    · rw [c1 hi]; rfl
    · obtain ⟨F, rfl, _⟩ := c2 hi; rfl
theorem testBit_zero_iff {F : Nat} (hF : F < 4294967296) : F = 0 ↔ ∀ w, F.testBit w = false := by
  constructor
  · rintro rfl w; simp
  · intro h; apply Nat.eq_of_testBit_eq; intro i; rw [h i]; simp
theorem Maximal_ok (N : Int) (E : List Pair) (l : List Int) (hE : E.length ≤ 1000000) (hl : l.length ≤ 1000000) : Evt (fun n => clique_Maximal n N E l) (maxV N E l) := by
  apply Tot.of_eq
  dsimp only [clique_Maximal, maxV, isV]
  obtain ⟨r, h1, h2, h3⟩ := build_any N E hE
  refine Tot.bind (Tot.evt h1 ?_)
  cases hv : valid N E
  · rw [h2 hv]; exact Tot.ret rfl
  · obtain ⟨hn0, hn1, g, am, rfl, hG⟩ := h3 hv
    refine Tot.cond (fun h => by cases h) fun _ => ?_
    obtain ⟨r, hc, c1, c2⟩ := common_ok hG (by omega) (fun p hp => (valid_edge hv p hp).2.1) l hl
    refine Tot.bind (Tot.evt hc ?_)
    cases hi : isL N.toNat E l
    · rw [c1 hi]
      exact Tot.bind (Tot.ret (Tot.ret rfl))
    · obtain ⟨F, rfl, hF, hb⟩ := c2 hi
      refine Tot.bind (Tot.ret (Tot.ret ?_))
      rw [Bool.true_and, Bool.true_and]
      cases hm : more N.toNat E l
      · have : F = 0 := (testBit_zero_iff hF).2 fun w => by
          rw [hb w]
          unfold more at hm
          rw [List.any_eq_false] at hm
          by_cases hw : w < N.toNat
          · have := hm w (by simpa using hw)
            simp at this
            simp [hw]
            exact this
          · simp [hw]
        rw [this]; rfl
      · have : F ≠ 0 := fun e => by
          have := (testBit_zero_iff hF).1 e
          unfold more at hm
          rw [List.any_eq_true] at hm
          obtain ⟨w, hw, h2⟩ := hm
          have h3 := hb w
          rw [this w, h2] at h3
          simp at h3 hw; omega
        simp; omega
theorem Tot.cut {α β : Type} {f : Nat → Option α} {h : Nat → α → Option β} {Q : β → Prop} (r : α) (k : Tot f (· = r)) (k2 : Tot (fun n => h n r) Q) : Tot (fun n => (f n).bind (h n)) Q := Tot.bind (k.mono fun _ e => by rw [e]; exact k2)
theorem refIs_ok (N : Int) (E : List Pair) (l : List Int) (hE : E.length ≤ 1000000) (hl : l.length ≤ 1000000) : Evt (fun n => ref29_Is n N E l) (isV N E l) := by
  apply Tot.of_eq
  dsimp only [ref29_Is, isV]
  refine Tot.bind (Tot.evt (valid_ok N E hE) ?_)
  cases hv : valid N E
  · exact Tot.ret rfl
  · obtain ⟨hn0, hn1⟩ := valid_N hv
    obtain ⟨M, rfl⟩ : ∃ M : Nat, N = M := ⟨N.toNat, by omega⟩
    rw [Int.toNat_natCast, Bool.true_and]
    refine Tot.cond (fun h => by cases h) fun _ => ?_
    refine Tot.bind ?_
    refine Tot.loop (fun s : Int => ∃ i : Nat, s = (i : Int) ∧ i ≤ l.length ∧ ∀ j, j < i → okAt M E l j = true) (fun s => l.length - s.toNat) ⟨0, rfl, by omega, fun j hj => by omega⟩ ?_
    rintro _ ⟨i, rfl, hi, hok⟩
    dsimp only [ref29_Is_L11]
    refine Tot.condD (fun hc => ?_) (fun hc => ?_)
    · have hil : i < l.length := by omega
      have hx : l[i]? = some l[i] := List.getElem?_eq_getElem hil
      generalize l[i] = x at hx
      have hat := okAt_lt (M := M) (E := E) hx
      have hix : idx l (i : Int) = some x := by rw [idx_nat]; exact hx
      refine Tot.bind ?_
      refine Tot.cut (!(decide (0 ≤ x) && (decide (x < M) && (decide (i = 0) || ((l[i - 1]?).map fun y : Int => decide (y < x)).getD false)))) ?_ ?_
      · refine Tot.idxv hix (Tot.condD (fun h1 => Tot.ret ?_) (fun h1 => Tot.idxv hix (Tot.condD (fun h2 => Tot.ret ?_) (fun h2 => ?_))))
        · rw [show decide (0 ≤ x) = false by simp; omega]; rfl
        · rw [show decide (x < (M : Int)) = false by simp; omega]; simp
        have t1 : decide (0 ≤ x) = true := by simp; omega
        have t2 : decide (x < (M : Int)) = true := by simp; omega
        rw [t1, t2]
        refine Tot.condD (fun h3 => Tot.idxv hix ?_) (fun h3 => Tot.ret ?_)
        · rw [w64 (by omega) (by omega)]
          refine Tot.idx (by omega) (by omega) fun y hy => Tot.ret ?_
          have hy' : l[i - 1]? = some y := by rw [← hy]; congr 1; omega
          rw [hy', show decide (i = 0) = false by simp; omega]
          by_cases h4 : y < x
          · simp [h4]
          · simp [h4]; omega
        · simp; omega
      · cases hcc : (decide (0 ≤ x) && (decide (x < M) && (decide (i = 0) || ((l[i - 1]?).map fun y : Int => decide (y < x)).getD false)))
        · refine Tot.cond (fun _ => Tot.ret (Tot.ret (Tot.ret ?_))) (fun h => by cases h)
          refine (isL_false hil ?_).symm
          rw [hat]
          revert hcc
          cases decide (0 ≤ x) <;> cases decide (x < (M : Int)) <;> cases (decide (i = 0) || ((l[i - 1]?).map fun y : Int => decide (y < x)).getD false) <;> simp
        · refine Tot.cond (fun h => by cases h) (fun _ => ?_)
          have hat2 : okAt M E l i = (l.take i).all fun u => joined E u x := by
            rw [hat]; revert hcc
            cases decide (0 ≤ x) <;> cases decide (x < (M : Int)) <;> cases (decide (i = 0) || ((l[i - 1]?).map fun y : Int => decide (y < x)).getD false) <;> simp
          refine Tot.loop (fun s : Int => ∃ j : Nat, s = (j : Int) ∧ j ≤ i ∧ ((l.take j).all fun u => joined E u x) = true) (fun s => i - s.toNat) ⟨0, rfl, by omega, by simp⟩ ?_
          rintro _ ⟨j, rfl, hj, hall⟩
          dsimp only [ref29_Is_L13]
          refine Tot.condD (fun hc2 => ?_) (fun hc2 => ?_)
          · have hy : l[j]? = some (l[j]'(by omega)) := List.getElem?_eq_getElem (by omega)
            generalize l[j]'(by omega) = y at hy
            refine Tot.idxv (x := y) (by rw [idx_nat]; exact hy) (Tot.idxv hix ?_)
            refine Tot.bind (Tot.evt (joined_ok E y x hE) ?_)
            rw [w64 (by omega) (by omega)]
            cases hjj : joined E y x
            · refine Tot.cond (fun _ => Tot.ret (Tot.ret (Tot.ret ?_))) (fun h => by cases h)
              refine (isL_false hil ?_).symm
              rw [hat2, List.all_eq_false]
              refine ⟨y, ?_, by rw [hjj]; simp⟩
              rw [List.mem_iff_getElem?]
              exact ⟨j, by rw [List.getElem?_take, if_pos (by omega)]; exact hy⟩
            · refine Tot.cond (fun h => by cases h) (fun _ => ?_)
              refine Tot.ret ⟨⟨j + 1, rfl, by omega, ?_⟩, (by first | omega | (dsimp only; omega) | (simp; done) | (simp; omega))⟩
              rw [take_succ hy, List.all_append, hall]; simp [hjj]
          · obtain rfl : j = i := by omega
            refine Tot.ret ?_
            dsimp only
            rw [w64 (by omega) (by omega)]
            refine Tot.ret ⟨⟨j + 1, rfl, by omega, fun q hq => ?_⟩, (by first | omega | (dsimp only; omega) | (simp; done) | (simp; omega))⟩
            rcases Nat.lt_or_eq_of_le (Nat.lt_succ_iff.1 hq) with h | h
            · exact hok q h
            · subst h; rw [hat2]; exact hall
    · obtain rfl : i = l.length := by omega
      exact Tot.ret (Tot.ret (isL_true hok).symm)
theorem refMaximal_ok (N : Int) (E : List Pair) (l : List Int) (hE : E.length ≤ 1000000) (hl : l.length ≤ 1000000) : Evt (fun n => ref29_Maximal n N E l) (maxV N E l) := by
  apply Tot.of_eq
  dsimp only [ref29_Maximal, maxV]
  refine Tot.bind (Tot.evt (refIs_ok N E l hE hl) ?_)
  cases hv : isV N E l
  · exact Tot.ret rfl
  · have hv' := hv
    unfold isV at hv'
    rw [Bool.and_eq_true] at hv'
    have hps : ∀ p ∈ E, p.A < p.B := fun p hp => (valid_edge hv'.1 p hp).2.1
    obtain ⟨hn0, hn1⟩ := valid_N hv'.1
    obtain ⟨M, rfl⟩ : ∃ M : Nat, N = M := ⟨N.toNat, by omega⟩
    rw [Int.toNat_natCast, Bool.true_and]
    refine Tot.cond (fun h => by cases h) fun _ => ?_
    refine Tot.bind ?_
    refine Tot.loop (fun s : Int => ∃ w : Nat, s = (w : Int) ∧ w ≤ M ∧ ∀ v, v < w → (l.all fun u => joined E u v) = false) (fun s => M - s.toNat) ⟨0, rfl, by omega, fun j hj => by omega⟩ ?_
    rintro _ ⟨w, rfl, hw, hno⟩
    dsimp only [ref29_Maximal_L21]
    refine Tot.condD (fun hc => ?_) (fun hc => ?_)
    · have hwM : w < M := by omega
      refine Tot.bind ?_
      refine Tot.cut (l.all fun u => joined E u w) ?_ ?_
      · refine Tot.loop (fun s : Bool × Int => ∃ i : Nat, s = ((l.take i).all fun u => joined E u w, (i : Int)) ∧ i ≤ l.length) (fun s => l.length - s.2.toNat) ⟨0, rfl, by omega⟩ ?_
        rintro _ ⟨i, rfl, hi⟩
        dsimp only [ref29_Maximal_L25]
        refine Tot.condD (fun hc2 => ?_) (fun hc2 => ?_)
        · have hx : l[i]? = some (l[i]'(by omega)) := List.getElem?_eq_getElem (by omega)
          generalize l[i]'(by omega) = x at hx
          have hix : idx l (i : Int) = some x := by rw [idx_nat]; exact hx
          rw [w64 (by omega) (by omega)]
          refine Tot.cut ((l.take (i + 1)).all fun u => joined E u w) ?_ (Tot.ret ⟨⟨i + 1, rfl, by omega⟩, (by first | omega | (dsimp only; omega) | (simp; done) | (simp; omega))⟩)
          rw [take_succ hx, List.all_append]
          refine Tot.cond (fun ha => Tot.idxv hix (Tot.condN (fun hne => Tot.idxv hix (Tot.bind (Tot.evt (joined_ok E w x hE) (Tot.ret ?_)))) (fun he => Tot.ret ?_))) (fun ha => Tot.ret ?_)
          · rw [ha, joined_comm]; simp
          · subst he; rw [ha]; simp [joined_self hps]
          · rw [ha]; rfl
        · obtain rfl : i = l.length := by omega
          exact Tot.ret (by rw [List.take_length])
      · cases hall : l.all fun u => joined E u w
        · refine Tot.cond (fun h => by cases h) (fun _ => Tot.ret ?_)
          dsimp only
          rw [w64 (by omega) (by omega)]
          refine Tot.ret ⟨⟨w + 1, rfl, by omega, fun v hv => ?_⟩, (by first | omega | (dsimp only; omega) | (simp; done) | (simp; omega))⟩
          rcases Nat.lt_or_eq_of_le (Nat.lt_succ_iff.1 hv) with h | h
          · exact hno v h
          · subst h; exact hall
        · refine Tot.cond (fun _ => Tot.ret (Tot.ret (Tot.ret ?_))) (fun h => by cases h)
          have : more M E l = true := by
            unfold more
            rw [List.any_eq_true]
            exact ⟨w, by simpa using hwM, hall⟩
          rw [this]; rfl
    · obtain rfl : w = M := by omega
      refine Tot.ret (Tot.ret ?_)
      have : more w E l = false := by
        unfold more
        rw [List.any_eq_false]
        intro v hv
        rw [hno v (by simpa using hv)]; simp
      rw [this]; rfl
end Go.Proofs.YtminclnaelbolaaDoor

namespace Go.Proofs.YtminclnaelbolaaDoor
open Go Go.Proofs.YtminclnaelbolaaDoor.Gw
set_option linter.unusedVariables false

theorem law_CliqueIs (g : Graph) (hg : okGraph g) (l : List Int) (hl : l.length ≤ maxLen ∧ ∀ y ∈ l, inK .i64 y) : Evt (fun n => law29_CliqueIs n g l) true := by
  obtain ⟨N, E⟩ := g
  apply Tot.of_eq
  dsimp only [law29_CliqueIs]
  refine law_begin2 (fun _ => asleep) (fun hf hc => ?_)
  have hE := few_len' hf
  have hll : l.length ≤ 100 := by have := of_decide_eq_false hc; omega
  dsimp only [cond_false]
  refine Tot.app (by simp; omega) (Tot.app (by simp; omega) ?_)
  rw [List.nil_append, List.nil_append]
  refine Tot.bind (Tot.bind (Tot.evt (Is_ok N E l hE (by omega)) (Tot.bind (Tot.evt (refIs_ok N E l hE (by omega)) ?_))))
  refine Tot.cond (fun _ => ?_) (fun h => by simp at h)
  refine Tot.bind (Tot.evt (Maximal_ok N E l hE (by omega)) (Tot.bind (Tot.evt (refMaximal_ok N E l hE (by omega)) ?_)))
  refine Tot.cond (fun _ => ?_) (fun h => by simp at h)
  refine Tot.bind (Tot.evt (Pairs_refl E hE) (Tot.cond (fun _ => ?_) (fun h => by cases h)))
  exact Tot.bind (Tot.evt (Ints_refl l (by omega)) (Tot.ret (Tot.ret rfl)))
/-- The largest independent set. -/
def indV (N : Int) (E : List Pair) : List Int × Int := if valid N E then (if valid N (missAll E N.toNat 0) then (ints (maxL N (missAll E N.toNat 0)), 0) else ([], 1)) else ([], 1)
theorem miss_le {N : Int} {E : List Pair} (h : valid N E = true) : (missAll E N.toNat 0).length ≤ 400 := by
  have hN := valid_N h
  have := missAll_len (E := E) (N := N.toNat) (by omega) N.toNat 0 (by omega)
  omega
theorem Independent_ok (N : Int) (E : List Pair) (hE : E.length ≤ 1000000) : Evt (fun n => clique_Independent n N E) (indV N E) := by
  apply Tot.of_eq
  dsimp only [clique_Independent, indV]
  refine Tot.bind (Tot.evt (compl_ok N E hE) ?_)
  cases hv : valid N E
  · exact Tot.condN (fun _ => Tot.ret rfl) (fun h => by simp at h)
  · refine Tot.condN (fun h => by simp at h) (fun _ => ?_)
    have := miss_le hv
    exact Tot.bind (Tot.evt (Max_ok N _ (by rw [if_pos rfl]; dsimp only; omega)) (Tot.ret rfl))
theorem refIndependent_ok (N : Int) (E : List Pair) (hE : E.length ≤ 1000000) : Evt (fun n => ref29_Independent n N E) (indV N E) := by
  apply Tot.of_eq
  dsimp only [ref29_Independent, indV]
  refine Tot.bind (Tot.evt (refCompl_ok N E hE) ?_)
  cases hv : valid N E
  · exact Tot.condN (fun _ => Tot.ret rfl) (fun h => by simp at h)
  · refine Tot.condN (fun h => by simp at h) (fun _ => ?_)
    have := miss_le hv
    exact Tot.bind (Tot.evt (refMax_ok N _ (by rw [if_pos rfl]; dsimp only; omega)) (Tot.ret rfl))
theorem indV_len (N : Int) (E : List Pair) : (indV N E).1.length ≤ 1000000 := by
  unfold indV
  cases hv : valid N E
  · simp
  · have hN := valid_N hv
    rw [if_pos rfl]
    split
    · have := maxL_len N (missAll E N.toNat 0)
      dsimp only; rw [ints_len]; omega
    · simp
theorem law_CliqueIndependent (g : Graph) (hg : okGraph g) : Evt (fun n => law29_CliqueIndependent n g) true := by
  obtain ⟨N, E⟩ := g
  apply Tot.of_eq
  dsimp only [law29_CliqueIndependent]
  refine law_begin2 (fun _ => asleep) (fun hf hc => ?_)
  have hE := few_len' hf
  dsimp only [cond_false]
  refine Tot.bind (Tot.evt (Independent_ok N E hE) ?_)
  refine Tot.bind (Tot.evt (refIndependent_ok N E hE) ?_)
  refine Tot.bind (Tot.condE (fun _ => ?_) (fun h => absurd rfl h))
  exact Tot.bind (Tot.evt (Ints_refl _ (indV_len N E)) (Tot.ret (Tot.ret rfl)))

/- ### The best clique is one, and no other is longer -/
/-- A list of vertices of which any two are joined. -/
def Clq (adj : Nat → Nat → Bool) (s : List Nat) : Prop := s.Pairwise fun a b => adj a b = true
theorem over_is {adj : Nat → Nat → Bool} {k : Nat} {f : List Nat → List Nat → List Nat} {l : List Nat} (P : List Nat → Prop) : ∀ (c b : List Nat), P b →
    (∀ v d, (∃ e, c = e ++ v :: d) → P (f (l ++ [v]) (d.filter (adj v)))) → P (best.over adj k f l c b)
  | [], b, h, _ => h
  | v :: c, b, h, hf => by
    simp only [best.over]
    refine over_is P c _ ?_ fun w d ⟨e, he⟩ => hf w d ⟨v :: e, by rw [he]; rfl⟩
    unfold better
    split
    · exact hf v c ⟨[], rfl⟩
    · exact h
theorem best_is {adj : Nat → Nat → Bool} : ∀ (k : Nat) (l c : List Nat), ∃ s, best adj k l c = l ++ s ∧ s.Sublist c ∧ Clq adj s
  | 0, l, c => ⟨[], by simp [best], List.nil_sublist _, List.Pairwise.nil⟩
  | k + 1, l, c => by
    refine over_is (fun b => ∃ s, b = l ++ s ∧ s.Sublist c ∧ Clq adj s) c l ⟨[], by simp, List.nil_sublist _, List.Pairwise.nil⟩ ?_
    rintro v d ⟨e, rfl⟩
    obtain ⟨s, h1, h2, h3⟩ := best_is k (l ++ [v]) (d.filter (adj v))
    refine ⟨v :: s, by rw [h1]; simp, ?_, ?_⟩
    · exact ((h2.trans List.filter_sublist).cons_cons v).trans (List.sublist_append_right _ _)
    · refine List.Pairwise.cons (fun w hw => ?_) h3
      have := h2.subset hw
      rw [List.mem_filter] at this
      exact this.2
theorem over_ge {adj : Nat → Nat → Bool} {k : Nat} {f : List Nat → List Nat → List Nat} {l : List Nat} : ∀ (c b e : List Nat) (v : Nat) (d : List Nat), c = e ++ v :: d → (f (l ++ [v]) (d.filter (adj v))).length ≤ (best.over adj k f l c b).length
  | [], b, e, v, d, h => by simp at h
  | w :: c, b, [], v, d, h => by
    simp only [List.nil_append, List.cons.injEq] at h
    obtain ⟨rfl, rfl⟩ := h
    simp only [best.over]
    exact Nat.le_trans (better_le' _ _) (over_le _ _)
  | w :: c, b, x :: e, v, d, h => by
    simp only [List.cons_append, List.cons.injEq] at h
    simp only [best.over]
    exact over_ge c _ e v d h.2
theorem best_ge {adj : Nat → Nat → Bool} : ∀ (k : Nat) (l c s : List Nat), c.length ≤ k → s.Sublist c → Clq adj s → l.length + s.length ≤ (best adj k l c).length
  | k, l, c, [], _, _, _ => by
    cases k with
    | zero => simp [best]
    | succ k => exact over_le (adj := adj) (k := k) (f := best adj k) (l := l) c l
  | 0, l, c, v :: s, hk, hs, _ => by
    obtain rfl : c = [] := List.length_eq_zero_iff.1 (by omega)
    cases hs
  | k + 1, l, c, v :: s, hk, hs, hc => by
    obtain ⟨e, d, rfl, hd⟩ : ∃ e d, c = e ++ v :: d ∧ s.Sublist d := by
      obtain ⟨e, d, h1, h2, h3⟩ := List.cons_sublist_iff.1 hs
      obtain ⟨p, q, rfl⟩ := List.append_of_mem h2
      exact ⟨p, q ++ d, by rw [h1]; simp, h3.trans (List.sublist_append_right _ _)⟩
    have h1 := over_ge (adj := adj) (k := k) (f := best adj k) (l := l) (e ++ v :: d) l e v d rfl
    unfold Clq at hc
    rw [List.pairwise_cons] at hc
    have hsd : s.Sublist (d.filter (adj v)) := by
      have := hd.filter (adj v)
      rwa [List.filter_eq_self.2 fun w hw => hc.1 w hw] at this
    have hlen : (d.filter (adj v)).length ≤ k := by
      have := List.length_filter_le (adj v) d
      simp at hk; omega
    have h2 := best_ge k (l ++ [v]) (d.filter (adj v)) s hlen hsd hc.2
    simp only [List.length_append, List.length_cons, List.length_nil] at h2 ⊢
    exact Nat.le_trans (by omega) h1
end Go.Proofs.YtminclnaelbolaaDoor

namespace Go.Proofs.YtminclnaelbolaaDoor
open Go Go.Proofs.YtminclnaelbolaaDoor.Gw
set_option linter.unusedVariables false

/- ### Cliques as sublists -/
theorem sub_range {M : Nat} {s : List Nat} (h : s.Pairwise (· < ·)) (hM : ∀ x ∈ s, x < M) : s.Sublist (List.range M) := by
  have : s = (List.range M).filter (fun x => decide (x ∈ s)) := by
    refine sorted_ext h (List.pairwise_lt_range.filter _) fun i => ?_
    rw [List.mem_filter]
    simp only [List.mem_range, decide_eq_true_eq]
    exact ⟨fun hi => ⟨hM i hi, hi⟩, fun hi => hi.2⟩
  rw [this]
  exact List.filter_sublist
theorem sub_sorted {M : Nat} {s : List Nat} (h : s.Sublist (List.range M)) : s.Pairwise (· < ·) ∧ ∀ x ∈ s, x < M :=
  ⟨List.pairwise_lt_range.sublist h, fun x hx => by simpa using h.subset hx⟩
theorem sorted_nodup {s : List Nat} (h : s.Pairwise (· < ·)) : s.Nodup := h.imp fun hab => by omega
theorem adjE_comm (E : List Pair) (a b : Nat) : adjE E a b = adjE E b a := joined_comm E a b
theorem clq_mem {adj : Nat → Nat → Bool} {s : List Nat} (hs : s.Pairwise (· < ·)) (hc : Clq adj s) {a b : Nat} (ha : a ∈ s) (hb : b ∈ s) (hab : a < b) : adj a b = true := by
  obtain ⟨i, hi, rfl⟩ := List.getElem_of_mem ha
  obtain ⟨j, hj, rfl⟩ := List.getElem_of_mem hb
  have h1 := List.pairwise_iff_getElem.1 hs
  have h2 := List.pairwise_iff_getElem.1 hc
  rcases Nat.lt_trichotomy i j with h | h | h
  · exact h2 i j hi hj h
  · subst h; omega
  · have := h1 j i hj hi h; omega
theorem clq_of {adj : Nat → Nat → Bool} {s : List Nat} (hs : s.Pairwise (· < ·)) (h : ∀ a ∈ s, ∀ b ∈ s, a < b → adj a b = true) : Clq adj s :=
  hs.imp_of_mem fun ha hb hab => h _ ha _ hb hab
theorem nodup_len : ∀ (m : Nat) (l : List Nat), l.Nodup → (∀ x ∈ l, x < m) → l.length ≤ m
  | 0, [], _, _ => Nat.le_refl _
  | 0, x :: l, _, h => by have := h x (by simp); omega
  | m + 1, l, hn, h => by
    by_cases hm : m ∈ l
    · have h1 := nodup_len m (l.erase m) (hn.erase m) fun x hx => by
        have h2 := h x (List.mem_of_mem_erase hx)
        have h3 : x ≠ m := by rintro rfl; exact hn.not_mem_erase hx
        omega
      rw [List.length_erase_of_mem hm] at h1
      omega
    · have h1 := nodup_len m l hn fun x hx => by
        have h2 := h x hx
        have h3 : x ≠ m := by rintro rfl; exact hm hx
        omega
      omega
/-- What a valid list of vertices is. -/
theorem isL_nat {M : Nat} {E : List Pair} {l : List Int} (h : isL M E l = true) : ∃ s : List Nat, l = ints s ∧ s.Sublist (List.range M) ∧ Clq (adjE E) s := by
  have hok : ∀ i, i < l.length → okAt M E l i = true := fun i hi => by
    unfold isL at h
    rw [List.all_eq_true] at h
    exact h i (by simpa using hi)
  have key : ∀ i, i ≤ l.length → ∃ s : List Nat, l.take i = ints s ∧ s.Pairwise (· < ·) ∧ (∀ x ∈ s, x < M) ∧ Clq (adjE E) s ∧ (0 < i → ∀ y, l[i - 1]? = some y → ∀ a ∈ s, (a : Int) ≤ y) := by
    intro i
    induction i with
    | zero => intro _; exact ⟨[], by simp [ints], List.Pairwise.nil, by simp, List.Pairwise.nil, fun h => by omega⟩
    | succ i ih =>
      intro hi
      obtain ⟨s, h1, h2, h3, h4, h5⟩ := ih (by omega)
      have hx : l[i]? = some l[i] := List.getElem?_eq_getElem (by omega)
      generalize l[i] = x at hx
      have ho := hok i (by omega)
      rw [okAt_lt hx, Bool.and_eq_true, Bool.and_eq_true, Bool.and_eq_true, decide_eq_true_eq, decide_eq_true_eq] at ho
      obtain ⟨o1, o2, o3, o4⟩ := ho
      obtain ⟨k, rfl⟩ : ∃ k : Nat, x = k := ⟨x.toNat, by omega⟩
      have hlt : ∀ a ∈ s, a < k := by
        intro a ha
        rcases Nat.eq_zero_or_pos i with h0 | h0
        · subst h0
          have : ints s = [] := by rw [← h1]; simp
          have : s = [] := ints_inj (by rw [this]; rfl)
          rw [this] at ha; simp at ha
        · have hy : l[i - 1]? = some (l[i - 1]'(by omega)) := List.getElem?_eq_getElem (by omega)
          generalize l[i - 1]'(by omega) = y at hy
          have := h5 h0 y hy a ha
          rw [hy] at o3
          simp at o3
          omega
      refine ⟨s ++ [k], ?_, ?_, ?_, ?_, ?_⟩
      · rw [take_succ hx, h1, ints_app]; rfl
      · rw [List.pairwise_append]
        exact ⟨h2, by simp, fun a ha b hb => by simp at hb; subst hb; exact hlt a ha⟩
      · intro x hx
        rcases List.mem_append.1 hx with h | h
        · exact h3 x h
        · simp at h; omega
      · unfold Clq
        rw [List.pairwise_append]
        refine ⟨h4, by simp, fun a ha b hb => ?_⟩
        simp at hb; subst hb
        rw [h1, List.all_eq_true] at o4
        exact o4 _ (List.mem_map.2 ⟨a, ha, rfl⟩)
      · intro _ y hy a ha
        have : (k : Int) = y := by
          have hy' : l[i]? = some y := hy
          rw [hx] at hy'; exact Option.some.inj hy'
        subst this
        rcases List.mem_append.1 ha with h | h
        · have := hlt a h; omega
        · simp at h; omega
  obtain ⟨s, h1, h2, h3, h4, _⟩ := key l.length (Nat.le_refl _)
  rw [List.take_length] at h1
  exact ⟨s, h1, sub_range h2 h3, h4⟩
theorem isL_of {M : Nat} {E : List Pair} {s : List Nat} (h : s.Sublist (List.range M)) (hc : Clq (adjE E) s) : isL M E (ints s) = true := by
  obtain ⟨h1, h2⟩ := sub_sorted h
  refine isL_true fun i hi => ?_
  rw [ints_len] at hi
  have hx : (ints s)[i]? = some ((s[i] : Nat) : Int) := by rw [ints_get, List.getElem?_eq_getElem hi]; rfl
  rw [okAt_lt hx]
  have hp := List.pairwise_iff_getElem.1 h1
  have hcp := List.pairwise_iff_getElem.1 hc
  have hM := h2 s[i] (List.getElem_mem hi)
  rw [show decide (0 ≤ ((s[i] : Nat) : Int)) = true by simp, show decide (((s[i] : Nat) : Int) < (M : Int)) = true by simp; omega, Bool.true_and, Bool.true_and, Bool.and_eq_true]
  refine ⟨?_, ?_⟩
  · rcases Nat.eq_zero_or_pos i with h0 | h0
    · simp [h0]
    · have hy : (ints s)[i - 1]? = some ((s[i - 1] : Nat) : Int) := by rw [ints_get, List.getElem?_eq_getElem (by omega)]; rfl
      have := hp (i - 1) i (by omega) hi (by omega)
      rw [hy]; simp; omega
  · rw [List.all_eq_true]
    intro u hu
    obtain ⟨j, hj, rfl⟩ := List.getElem_of_mem hu
    have hj2 : j < i := by
      have : j < ((ints s).take i).length := hj
      rw [List.length_take] at this; omega
    have e : ((ints s).take i)[j] = ((s[j] : Nat) : Int) := by
      rw [List.getElem_take]; simp [ints]
    rw [e]
    exact hcp j i (by omega) hi hj2
theorem maxL_is (N : Int) (E : List Pair) : (maxL N E).Sublist (List.range N.toNat) ∧ Clq (adjE E) (maxL N E) := by
  obtain ⟨s, h1, h2, h3⟩ := best_is (adj := adjE E) (N.toNat + 1) [] (List.range N.toNat)
  unfold maxL
  rw [h1, List.nil_append]
  exact ⟨h2, h3⟩
theorem maxL_ge {N : Int} {E : List Pair} {s : List Nat} (h : s.Sublist (List.range N.toNat)) (hc : Clq (adjE E) s) : s.length ≤ (maxL N E).length := by
  have := best_ge (adj := adjE E) (N.toNat + 1) [] (List.range N.toNat) s (by simp) h hc
  simpa [maxL] using this
/-- One more vertex. -/
theorem clq_add {M : Nat} {E : List Pair} {s : List Nat} {w : Nat} (h : s.Sublist (List.range M)) (hc : Clq (adjE E) s) (hw : w < M) (hall : ∀ u ∈ s, adjE E u w = true) (hn : w ∉ s) :
    ∃ t : List Nat, t.Sublist (List.range M) ∧ Clq (adjE E) t ∧ t.length = s.length + 1 := by
  obtain ⟨h1, h2⟩ := sub_sorted h
  have hm : ∀ x, x ∈ (List.range M).filter (fun x => decide (x ∈ s) || x == w) ↔ x ∈ w :: s := by
    intro x
    rw [List.mem_filter, List.mem_cons]
    simp only [List.mem_range, Bool.or_eq_true, decide_eq_true_eq, beq_iff_eq]
    constructor
    · rintro ⟨_, h | h⟩
      · exact .inr h
      · exact .inl h
    · rintro (h | h)
      · exact ⟨by omega, .inr h⟩
      · exact ⟨h2 x h, .inl h⟩
  refine ⟨(List.range M).filter (fun x => decide (x ∈ s) || x == w), List.filter_sublist, clq_of (List.pairwise_lt_range.filter _) fun a ha b hb hab => ?_, ?_⟩
  · rcases List.mem_cons.1 ((hm a).1 ha) with ea | ea <;> rcases List.mem_cons.1 ((hm b).1 hb) with eb | eb
    · omega
    · subst ea; rw [adjE_comm]; exact hall b eb
    · subst eb; exact hall a ea
    · exact clq_mem h1 hc ea eb hab
  · have hp : ((List.range M).filter (fun x => decide (x ∈ s) || x == w)).Perm (w :: s) :=
      (List.perm_ext_iff_of_nodup (sorted_nodup (List.pairwise_lt_range.filter _)) (List.nodup_cons.2 ⟨hn, sorted_nodup h1⟩)).2 hm
    have := hp.length_eq
    simpa using this
theorem cnt_pos {adj : Nat → Nat → Bool} : ∀ (c s : List Nat), s.Sublist c → Clq adj s → 0 < cnt adj s.length c
  | c, [], _, _ => by rw [List.length_nil, cnt_zero]; omega
  | [], v :: s, h, _ => by cases h
  | w :: c, v :: s, h, hc => by
    have hlen := List.length_filter_le (adj w) c
    rw [List.length_cons, cnt_cons]
    cases h with
    | cons _ h =>
      have := cnt_pos c (v :: s) h hc
      rw [List.length_cons] at this; omega
    | cons_cons _ h =>
      unfold Clq at hc
      rw [List.pairwise_cons] at hc
      have hsd : s.Sublist (c.filter (adj w)) := by
        have := h.filter (adj w)
        rwa [List.filter_eq_self.2 fun x hx => hc.1 x hx] at this
      have := cnt_pos (c.filter (adj w)) s hsd hc.2
      omega
termination_by c s => (s.length, c.length)
theorem cnt_ex {adj : Nat → Nat → Bool} : ∀ (c : List Nat) (k : Nat), 0 < cnt adj k c → ∃ s : List Nat, s.Sublist c ∧ Clq adj s ∧ s.length = k
  | c, 0, _ => ⟨[], List.nil_sublist _, List.Pairwise.nil, rfl⟩
  | [], k + 1, h => by rw [cnt_nil] at h; omega
  | v :: c, k + 1, h => by
    have hlen := List.length_filter_le (adj v) c
    rw [cnt_cons] at h
    rcases Nat.eq_zero_or_pos (cnt adj (k + 1) c) with h0 | h0
    · obtain ⟨s, h1, h2, h3⟩ := cnt_ex (adj := adj) (c.filter (adj v)) k (by omega)
      refine ⟨v :: s, (h1.trans List.filter_sublist).cons_cons v, List.Pairwise.cons (fun w hw => ?_) h2, by simp [h3]⟩
      have := h1.subset hw
      rw [List.mem_filter] at this
      exact this.2
    · obtain ⟨s, h1, h2, h3⟩ := cnt_ex c (k + 1) h0
      exact ⟨s, h1.cons v, h2, h3⟩
termination_by c k => (k, c.length)
end Go.Proofs.YtminclnaelbolaaDoor

namespace Go.Proofs.YtminclnaelbolaaDoor
open Go Go.Proofs.YtminclnaelbolaaDoor.Gw
set_option linter.unusedVariables false

theorem maxL_maximal {N : Int} {E : List Pair} (hv : valid N E = true) : maxV N E (ints (maxL N E)) = true := by
  obtain ⟨h1, h2⟩ := maxL_is N E
  have hs := isL_of h1 h2
  unfold maxV isV
  rw [hv, hs]
  simp only [Bool.true_and, Bool.not_eq_true']
  unfold more
  rw [List.any_eq_false]
  intro w hw hall
  have hw : w < N.toNat := by simpa using hw
  have hps : ∀ p ∈ E, p.A < p.B := fun p hp => (valid_edge hv p hp).2.1
  rw [List.all_eq_true] at hall
  have hall' : ∀ u ∈ maxL N E, adjE E u w = true := fun u hu => hall _ (List.mem_map.2 ⟨u, hu, rfl⟩)
  have hn : w ∉ maxL N E := fun hm => by
    have := hall' w hm
    have h2 := joined_self hps (w : Int)
    unfold adjE at this
    rw [h2] at this; cases this
  obtain ⟨t, t1, t2, t3⟩ := clq_add h1 h2 hw hall' hn
  have := maxL_ge t1 t2
  omega
theorem law_CliqueGreatest (g : Graph) (hg : okGraph g) (l : List Int) (hl : l.length ≤ maxLen ∧ ∀ y ∈ l, inK .i64 y) : Evt (fun n => law29_CliqueGreatest n g l) true := by
  obtain ⟨N, E⟩ := g
  apply Tot.of_eq
  dsimp only [law29_CliqueGreatest]
  refine law_begin2 (fun _ => asleep) (fun hf hc => ?_)
  have hE := few_len' hf
  have hll : l.length ≤ 100 := by have := of_decide_eq_false hc; omega
  dsimp only [cond_false]
  refine Tot.bind (Tot.evt (Max_ok N E hE) ?_)
  cases hv : valid N E
  · refine Tot.condN (fun _ => ?_) (fun h => by simp at h)
    have hi : ∀ k, isV N E k = false := fun k => by unfold isV; rw [hv]; rfl
    refine Tot.bind (Tot.bind (Tot.evt (Is_ok N E l hE (by omega)) ?_))
    rw [hi]
    refine Tot.cond (fun _ => ?_) (fun h => by cases h)
    refine Tot.bind (Tot.evt (Is_ok N E [] hE (by simp)) (Tot.ret (Tot.ret ?_)))
    rw [hi]; rfl
  · have hN := valid_N hv
    obtain ⟨m1, m2⟩ := maxL_is N E
    have hml := maxL_len N E
    refine Tot.condN (fun h => by simp at h) (fun _ => ?_)
    rw [if_pos rfl]
    have hbl : (ints (maxL N E)).length ≤ 1000000 := by rw [ints_len]; omega
    have hisb : isV N E (ints (maxL N E)) = true := by unfold isV; rw [hv, isL_of m1 m2]; rfl
    refine Tot.cut false ?_ ?_
    · refine Tot.bind (Tot.evt (Is_ok N E _ hE hbl) ?_)
      rw [hisb]
      refine Tot.cond (fun h => by cases h) (fun _ => ?_)
      refine Tot.bind (Tot.evt (Maximal_ok N E _ hE hbl) ?_)
      rw [maxL_maximal hv]
      refine Tot.cond (fun h => by cases h) (fun _ => ?_)
      refine Tot.bind (Tot.evt (Is_ok N E l hE (by omega)) ?_)
      refine Tot.cond (fun h => Tot.ret ?_) (fun h => Tot.ret rfl)
      unfold isV at h
      rw [Bool.and_eq_true] at h
      obtain ⟨s, rfl, s1, s2⟩ := isL_nat h.2
      have := maxL_ge s1 s2
      rw [ints_len, ints_len]; simp; omega
    · refine Tot.cond (fun h => by cases h) (fun _ => ?_)
      refine Tot.bind (Tot.evt (Count_ok N E _ hE) ?_)
      refine Tot.bind (Tot.evt (Count_ok N E _ hE) ?_)
      dsimp only
      rw [ints_len, w64 (by omega) (by omega)]
      have c1 : countV N E ((maxL N E).length : Int) = (((cnt (adjE E) (maxL N E).length (List.range N.toNat) : Nat) : Int), 0) := by
        unfold countV
        rw [hv, if_pos rfl, if_neg (by omega), Int.toNat_natCast]
      have c2 : countV N E (((maxL N E).length : Int) + 1) = (0, 0) := by
        unfold countV
        rw [hv, if_pos rfl]
        split
        · rfl
        · have : cnt (adjE E) ((maxL N E).length + 1) (List.range N.toNat) = 0 := by
            rcases Nat.eq_zero_or_pos (cnt (adjE E) ((maxL N E).length + 1) (List.range N.toNat)) with h | h
            · exact h
            · obtain ⟨s, s1, s2, s3⟩ := cnt_ex _ _ h
              have := maxL_ge s1 s2
              omega
          rw [show (((maxL N E).length : Int) + 1).toNat = (maxL N E).length + 1 by omega, this]; rfl
      rw [c1, c2]
      have hp := cnt_pos (adj := adjE E) (List.range N.toNat) (maxL N E) m1 m2
      refine Tot.bind (Tot.condE (fun _ => Tot.condE (fun _ => Tot.condD (fun _ => Tot.ret (Tot.ret rfl)) (fun h => ?_)) (fun h => absurd rfl h)) (fun h => absurd rfl h))
      omega

/- ### Without an edge -/
theorem adjE_iff {E : List Pair} {a b : Nat} (hab : a < b) : adjE E a b = true ↔ ∃ p ∈ E, p.A = a ∧ p.B = b := by
  unfold adjE joined
  rw [List.any_eq_true]
  constructor
  · rintro ⟨p, hp, h⟩
    rw [if_neg (by omega), if_pos (by omega)] at h
    simp at h
    exact ⟨p, hp, h.1, h.2⟩
  · rintro ⟨p, hp, h1, h2⟩
    refine ⟨p, hp, ?_⟩
    rw [if_neg (by omega), if_pos (by omega), h1, h2]; simp
theorem mem_less {E : List Pair} {k : Nat} {p : Pair} (h : p ∈ E.take k ++ E.drop (k + 1)) : p ∈ E := by
  rcases List.mem_append.1 h with h | h
  · exact List.mem_of_mem_take h
  · exact List.mem_of_mem_drop h
theorem mem_less' {E : List Pair} {k : Nat} (hk : k < E.length) {p : Pair} (h : p ∈ E) : p ∈ E.take k ++ E.drop (k + 1) ∨ p = E[k] := by
  rw [← List.take_append_drop k E] at h
  rcases List.mem_append.1 h with h | h
  · exact .inl (List.mem_append.2 (.inl h))
  · rw [List.drop_eq_getElem_cons hk] at h
    rcases List.mem_cons.1 h with h | h
    · exact .inr h
    · exact .inl (List.mem_append.2 (.inr h))
/-- Edges in order. -/
def pl (p q : Pair) : Prop := p.A < q.A ∨ p.A = q.A ∧ p.B < q.B
theorem pl_trans {p q r : Pair} (h : pl p q) (k : pl q r) : pl p r := by unfold pl at *; omega
theorem valid_iff {N : Int} {E : List Pair} : valid N E = true ↔ 0 ≤ N ∧ N ≤ 20 ∧ (∀ p ∈ E, 0 ≤ p.A ∧ p.A < p.B ∧ p.B < N) ∧ E.Pairwise pl := by
  constructor
  · intro h
    have hN := valid_N h
    refine ⟨hN.1, hN.2, valid_edge h, ?_⟩
    unfold valid at h
    rw [Bool.and_eq_true, Bool.not_eq_true'] at h
    have h2 := h.2
    rw [List.any_eq_false] at h2
    have step : ∀ i (hi : i + 1 < E.length), pl (E[i]'(by omega)) E[i + 1] := by
      intro i hi
      have h3 := h2 (i + 1) (by simpa using hi)
      rw [badAt_lt hi, Bool.or_eq_true, not_or] at h3
      have h4 : bad2 (E[i]'(by omega)) E[i + 1] = false := by simpa using h3.2
      unfold bad2 at h4
      unfold pl
      simp at h4
      omega
    rw [List.pairwise_iff_getElem]
    intro i j hi hj hij
    have key : ∀ d (hd : i + d + 1 < E.length), pl E[i] (E[i + d + 1]) := by
      intro d
      induction d with
      | zero => intro hd; exact step i hd
      | succ d ih => intro hd; exact pl_trans (ih (by omega)) (step (i + d + 1) hd)
    have := key (j - i - 1) (by omega)
    have e : i + (j - i - 1) + 1 = j := by omega
    simp only [e] at this
    exact this
  · rintro ⟨h0, h1, h2, h3⟩
    unfold valid
    rw [Bool.and_eq_true, Bool.and_eq_true, Bool.not_eq_true', List.any_eq_false]
    refine ⟨⟨by simp [h0], by simp [h1]⟩, fun i hi => ?_⟩
    have hi : i < E.length := by simpa using hi
    rw [badAt_lt hi]
    have hb := h2 E[i] (List.getElem_mem hi)
    have e1 : bad1 N E[i] = false := by unfold bad1; simp; omega
    rw [e1, Bool.false_or]
    rcases Nat.eq_zero_or_pos i with h | h
    · simp [h]
    · have := List.pairwise_iff_getElem.1 h3 (i - 1) i (by omega) hi (by omega)
      unfold pl at this
      unfold bad2
      simp; omega
theorem valid_less {N : Int} {E : List Pair} (h : valid N E = true) (k : Nat) : valid N (E.take k ++ E.drop (k + 1)) = true := by
  rw [valid_iff] at h ⊢
  refine ⟨h.1, h.2.1, fun p hp => h.2.2.1 p (mem_less hp), ?_⟩
  have : (E.take k ++ E.drop (k + 1)).Sublist E := by
    have h2 : (E.take k ++ E.drop (k + 1)).Sublist (E.take k ++ E.drop k) := List.Sublist.append (List.Sublist.refl _) (by rw [← List.drop_drop]; exact List.drop_sublist _ _)
    rwa [List.take_append_drop] at h2
  exact h.2.2.2.sublist this
theorem law_CliqueRemoves (g : Graph) (hg : okGraph g) (at_ : Int) (ha : inK .u8 at_) : Evt (fun n => law29_CliqueRemoves n g at_) true := by
  obtain ⟨N, E⟩ := g
  apply Tot.of_eq
  dsimp only [law29_CliqueRemoves]
  refine law_begin2 (fun _ => asleep) (fun hf hc => ?_)
  have hE := few_len' hf
  dsimp only [cond_false]
  have hE0 : 0 < E.length := by
    have : ¬ ((E.length : Int) = 0) := by simpa using hc
    omega
  have ha2 : 0 ≤ at_ ∧ at_ ≤ 255 := by simpa [inK, IntKind.min, IntKind.max, IntKind.signed, IntKind.bits] using ha
  refine Tot.need (by omega) ?_
  rw [w64 (by omega) (by omega)]
  obtain ⟨k, hk⟩ : ∃ k : Nat, at_.tmod (E.length : Int) = k := ⟨(at_.tmod (E.length : Int)).toNat, by have := Int.tmod_nonneg (E.length : Int) ha2.1; omega⟩
  have hkl : k < E.length := by
    have := Int.tmod_lt_of_pos at_ (show (0 : Int) < (E.length : Int) by omega)
    omega
  rw [hk, w64 (by omega) (by omega)]
  have c1 : cut E 0 (k : Int) = some (E.take k) := by unfold cut; rw [if_pos (by omega)]; simp
  have c2 : cut E ((k : Int) + 1) (E.length : Int) = some (E.drop (k + 1)) := by unfold cut; rw [if_pos (by omega)]; simp
  refine Tot.bind (Tot.val c1 (Tot.bind (Tot.val c2 ?_)))
  refine Tot.app (by first | omega | (dsimp only; omega) | (simp; done) | (simp; omega)) (Tot.app (by first | omega | (dsimp only; omega) | (simp; done) | (simp; omega)) ?_)
  rw [List.nil_append]
  have hlen : (E.take k ++ E.drop (k + 1)).length ≤ 1000000 := by simp; omega
  refine Tot.bind (Tot.evt (Max_ok N E hE) (Tot.bind (Tot.evt (Max_ok N _ hlen) ?_)))
  cases hv : valid N E
  · exact Tot.condN (fun _ => Tot.ret rfl) (fun h => by simp at h)
  · have hvl := valid_less hv k
    have hN := valid_N hv
    rw [hvl, if_pos rfl, if_pos rfl]
    refine Tot.condN (fun h => by simp at h) (fun _ => ?_)
    obtain ⟨a1, a2⟩ := maxL_is N E
    obtain ⟨b1, b2⟩ := maxL_is N (E.take k ++ E.drop (k + 1))
    have l1 := maxL_len N E
    have l2 := maxL_len N (E.take k ++ E.drop (k + 1))
    have le1 : (maxL N (E.take k ++ E.drop (k + 1))).length ≤ (maxL N E).length := by
      refine maxL_ge b1 ?_
      refine clq_of (sub_sorted b1).1 fun a ha b hb hab => ?_
      have := clq_mem (sub_sorted b1).1 b2 ha hb hab
      rw [adjE_iff hab] at this ⊢
      obtain ⟨p, hp, h⟩ := this
      exact ⟨p, mem_less hp, h⟩
    have le2 : (maxL N E).length - 1 ≤ (maxL N (E.take k ++ E.drop (k + 1))).length := by
      obtain ⟨s1, s2⟩ := sub_sorted a1
      have hsub : ((maxL N E).erase E[k].A.toNat).Sublist (maxL N E) := List.erase_sublist
      have hge := maxL_ge (N := N) (E := E.take k ++ E.drop (k + 1)) (s := (maxL N E).erase E[k].A.toNat) (hsub.trans a1) (by
        refine clq_of (s1.sublist hsub) fun a ha b hb hab => ?_
        have := clq_mem s1 a2 (hsub.subset ha) (hsub.subset hb) hab
        rw [adjE_iff hab] at this ⊢
        obtain ⟨p, hp, h1, h2⟩ := this
        rcases mem_less' hkl hp with h | h
        · exact ⟨p, h, h1, h2⟩
        · subst h
          have : a = E[k].A.toNat := by omega
          rw [this] at ha
          exact absurd ha (sorted_nodup s1).not_mem_erase)
      have : (maxL N E).length - 1 ≤ ((maxL N E).erase E[k].A.toNat).length := by
        by_cases hm : E[k].A.toNat ∈ maxL N E
        · rw [List.length_erase_of_mem hm]; omega
        · rw [List.erase_of_not_mem hm]; omega
      omega
    dsimp only
    rw [ints_len, ints_len, w64 (by omega) (by omega)]
    refine Tot.bind (Tot.condE (fun _ => Tot.condD (fun _ => Tot.ret (Tot.ret ?_)) (fun h => by omega)) (fun h => absurd rfl h))
    simp; omega
end Go.Proofs.YtminclnaelbolaaDoor

namespace Go.Proofs.YtminclnaelbolaaDoor
open Go Go.Proofs.YtminclnaelbolaaDoor.Gw
set_option linter.unusedVariables false

/- ### Colors are different -/
theorem colors_at (E : List Pair) : ∀ (v w : Nat), w < v → (colors E v)[w]? = some (mex (usedC E (colors E w) w) w)
  | 0, w, h => by omega
  | v + 1, w, h => by
    simp only [colors]
    rcases Nat.lt_or_eq_of_le (Nat.lt_succ_iff.1 h) with h1 | h1
    · rw [List.getElem?_append_left (by rw [colors_len]; exact h1)]
      exact colors_at E v w h1
    · subst h1
      rw [List.getElem?_append_right (by rw [colors_len]; exact Nat.le_refl _), colors_len]
      simp
theorem colors_ne {E : List Pair} {v a b : Nat} (hab : a < b) (hb : b < v) (h : adjE E a b = true) : (colors E v)[a]? ≠ (colors E v)[b]? := by
  rw [colors_at E v a (by omega), colors_at E v b hb]
  intro e
  have e := Option.some.inj e
  have hu : usedC E (colors E b) b (mex (usedC E (colors E a) a) a) = true := by
    unfold usedC
    rw [List.any_eq_true]
    exact ⟨a, by simpa using hab, by rw [colors_at E b a hab, h, Bool.and_true]; exact beq_self_eq_true _⟩
  rw [e] at hu
  rw [mex_not _ _ (usedC_v E b)] at hu
  cases hu
theorem most_ge : ∀ (l : List Nat) (m : Nat), m ≤ l.foldl (fun m c => max m (c + 1)) m ∧ ∀ c ∈ l, c < l.foldl (fun m c => max m (c + 1)) m
  | [], m => ⟨Nat.le_refl _, by simp⟩
  | c :: l, m => by
    have h := most_ge l (max m (c + 1))
    simp only [List.foldl_cons]
    refine ⟨by omega, fun d hd => ?_⟩
    rcases List.mem_cons.1 hd with e | e
    · subst e; omega
    · exact h.2 d e
theorem most_lt {l : List Nat} {c : Nat} (h : c ∈ l) : c < most l := (most_ge l 0).2 c h
theorem clq_colors {E : List Pair} {M : Nat} {s : List Nat} (h : s.Sublist (List.range M)) (hc : Clq (adjE E) s) : s.length ≤ most (colors E M) := by
  obtain ⟨h1, h2⟩ := sub_sorted h
  have hn : (s.map fun v => (colors E M)[v]?.getD 0).Nodup := by
    rw [List.Nodup, List.pairwise_map]
    refine h1.imp_of_mem fun {a b} ha hb hab => ?_
    have hne := colors_ne (v := M) hab (h2 b hb) (clq_mem h1 hc ha hb hab)
    rw [colors_at E M a (h2 a ha), colors_at E M b (h2 b hb)] at hne ⊢
    simpa using hne
  have := nodup_len (most (colors E M)) _ hn fun x hx => by
    obtain ⟨v, hv, rfl⟩ := List.mem_map.1 hx
    have e := colors_at E M v (h2 v hv)
    rw [e]
    exact most_lt (List.mem_of_getElem? e)
  simpa using this
theorem law_CliqueDifferent (g : Graph) (hg : okGraph g) : Evt (fun n => law29_CliqueDifferent n g) true := by
  obtain ⟨N, E⟩ := g
  apply Tot.of_eq
  dsimp only [law29_CliqueDifferent]
  refine law_begin (fun _ => asleep) (fun hf => ?_)
  have hE := few_len' hf
  dsimp only [cond_false]
  refine Tot.bind (Tot.evt (color_ok N E hE) ?_)
  cases hv : valid N E
  · refine Tot.condN (fun _ => ?_) (fun h => by simp at h)
    refine Tot.bind (Tot.condE (fun _ => Tot.condE (fun _ => ?_) (fun h => absurd rfl h)) (fun h => absurd rfl h))
    refine Tot.bind (Tot.evt (Is_ok N E [] hE (by simp)) (Tot.ret (Tot.ret ?_)))
    unfold isV; rw [hv]; rfl
  · obtain ⟨hn0, hn1⟩ := valid_N hv
    obtain ⟨M, rfl⟩ : ∃ M : Nat, N = M := ⟨N.toNat, by omega⟩
    rw [if_pos rfl, Int.toNat_natCast]
    have hcl := colors_len E M
    refine Tot.condN (fun h => by simp at h) (fun _ => ?_)
    dsimp only
    refine Tot.condN (fun h => by rw [ints_len] at h; omega) (fun _ => ?_)
    have hget : ∀ v, v < M → idx (ints (colors E M)) (v : Int) = some ((mex (usedC E (colors E v) v) v : Nat) : Int) := fun v hv => by
      rw [idx_nat, ints_get, colors_at E M v hv]; rfl
    refine Tot.bind ?_
    refine Tot.loop0 (fun s : Int => ∃ i : Nat, s = (i : Int) ∧ i ≤ E.length) (fun s => E.length - s.toNat) ⟨0, rfl, by omega⟩ ?_
    rintro _ ⟨i, rfl, hi⟩
    dsimp only [law29_CliqueDifferent_L1]
    refine Tot.condD (fun hc => ?_) (fun hc => ?_)
    · have hx : E[i]? = some (E[i]'(by omega)) := List.getElem?_eq_getElem (by omega)
      have hm : E[i]'(by omega) ∈ E := List.getElem_mem _
      generalize E[i]'(by omega) = p at hx hm
      have hix : idx E (i : Int) = some p := by rw [idx_nat]; exact hx
      have he := valid_edge hv p hm
      obtain ⟨a, ha⟩ : ∃ a : Nat, p.A = a := ⟨p.A.toNat, by omega⟩
      obtain ⟨b, hb⟩ : ∃ b : Nat, p.B = b := ⟨p.B.toNat, by omega⟩
      refine Tot.idxv hix (Tot.idxv hix ?_)
      rw [ints_len, hcl, ha, hb, w64 (by omega) (by omega)]
      refine Tot.cut false ?_ ?_
      · refine Tot.condD (fun h => by omega) (fun _ => Tot.condD (fun h => by omega) (fun _ => Tot.condD (fun h => by omega) (fun _ => Tot.condD (fun h => by omega) (fun _ => ?_))))
        refine Tot.idxv (hget a (by omega)) (Tot.idxv (hget b (by omega)) (Tot.ret ?_))
        have hne := colors_ne (E := E) (v := M) (a := a) (b := b) (by omega) (by omega) ((adjE_iff (by omega)).2 ⟨p, hm, ha, hb⟩)
        rw [colors_at E M a (by omega), colors_at E M b (by omega)] at hne
        simp at hne ⊢
        omega
      · refine Tot.cond (fun h => by cases h) (fun _ => ?_)
        exact Tot.ret ⟨⟨i + 1, rfl, by omega⟩, (by first | omega | (dsimp only; omega) | (simp; done) | (simp; omega))⟩
    · refine Tot.ret (Tot.bind ?_)
      refine Tot.loop0 (fun s : Int => ∃ i : Nat, s = (i : Int) ∧ i ≤ M) (fun s => M - s.toNat) ⟨0, rfl, by omega⟩ ?_
      rintro _ ⟨v, rfl, hvM⟩
      dsimp only [law29_CliqueDifferent_L3]
      rw [ints_len, hcl]
      refine Tot.condD (fun hc => ?_) (fun hc => ?_)
      · rw [w64 (by omega) (by omega)]
        refine Tot.cut false ?_ ?_
        · refine Tot.idxv (hget v (by omega)) (Tot.condD (fun h => by omega) (fun _ => Tot.idxv (hget v (by omega)) (Tot.ret ?_)))
          have := most_lt (List.mem_of_getElem? (colors_at E M v (by omega)))
          simp; omega
        · refine Tot.cond (fun h => by cases h) (fun _ => ?_)
          exact Tot.ret ⟨⟨v + 1, rfl, by omega⟩, (by first | omega | (dsimp only; omega) | (simp; done) | (simp; omega))⟩
      · refine Tot.ret (Tot.bind (Tot.evt (Max_ok _ E hE) ?_))
        rw [hv, if_pos rfl]
        refine Tot.bind (Tot.condE (fun _ => Tot.ret (Tot.ret ?_)) (fun h => absurd rfl h))
        obtain ⟨m1, m2⟩ := maxL_is (M : Int) E
        rw [Int.toNat_natCast] at m1
        have := clq_colors m1 m2
        rw [ints_len]; simp; omega

/- ### The complement of the complement -/
/-- All pairs of which p holds, in order. -/
def pairsOf (p : Nat → Nat → Bool) (N : Nat) : List Pair := (List.range N).flatMap fun i => ((List.range' (i + 1) (N - (i + 1))).filter (p i)).map fun w : Nat => Pair.mk i w
theorem miss_pairs (E : List Pair) (N : Nat) : missAll E N 0 = pairsOf (fun a b => !adjE E a b) N := by
  unfold missAll pairsOf missR
  rw [Nat.sub_zero, ← List.range_eq_range']
theorem mem_pairs {p : Nat → Nat → Bool} {N : Nat} {q : Pair} : q ∈ pairsOf p N ↔ ∃ a b : Nat, q = ⟨a, b⟩ ∧ a < b ∧ b < N ∧ p a b = true := by
  unfold pairsOf
  rw [List.mem_flatMap]
  constructor
  · rintro ⟨i, hi, h⟩
    obtain ⟨w, hw, rfl⟩ := List.mem_map.1 h
    rw [List.mem_filter, List.mem_range'_1] at hw
    exact ⟨i, w, rfl, by omega, by simp at hi; omega, hw.2⟩
  · rintro ⟨a, b, rfl, h1, h2, h3⟩
    exact ⟨a, by simp; omega, List.mem_map.2 ⟨b, by rw [List.mem_filter, List.mem_range'_1]; exact ⟨by omega, h3⟩, rfl⟩⟩
theorem pairs_sorted (p : Nat → Nat → Bool) (N : Nat) : (pairsOf p N).Pairwise pl := by
  unfold pairsOf
  rw [List.pairwise_flatMap]
  constructor
  · intro i _
    rw [List.pairwise_map]
    refine (List.Pairwise.filter (p i) (List.pairwise_lt_range' (s := i + 1) (n := N - (i + 1)))).imp fun hab => ?_
    unfold pl; simp; omega
  · refine List.pairwise_lt_range.imp fun hab x hx y hy => ?_
    obtain ⟨w, _, rfl⟩ := List.mem_map.1 hx
    obtain ⟨z, _, rfl⟩ := List.mem_map.1 hy
    unfold pl; simp; omega
theorem sorted_pl : ∀ {l k : List Pair}, l.Pairwise pl → k.Pairwise pl → (∀ i, i ∈ l ↔ i ∈ k) → l = k
  | [], [], _, _, _ => rfl
  | [], b :: k, _, _, h => by have := (h b).2 (by simp); simp at this
  | a :: l, [], _, _, h => by have := (h a).1 (by simp); simp at this
  | a :: l, b :: k, hl, hk, h => by
    rw [List.pairwise_cons] at hl hk
    have irr : ∀ q : Pair, ¬ pl q q := fun q h => by unfold pl at h; omega
    have asym : ∀ q r : Pair, pl q r → ¬ pl r q := fun q r h h2 => irr q (pl_trans h h2)
    have hab : a = b := by
      rcases List.mem_cons.1 ((h a).1 (by simp)) with e | e
      · exact e
      · rcases List.mem_cons.1 ((h b).2 (by simp)) with e2 | e2
        · exact e2.symm
        · exact absurd (hk.1 a e) (asym _ _ (hl.1 b e2))
    subst hab
    rw [sorted_pl hl.2 hk.2 fun i => ?_]
    constructor
    · intro hi
      rcases List.mem_cons.1 ((h i).1 (List.mem_cons_of_mem _ hi)) with e | e
      · subst e; exact absurd (hl.1 i hi) (irr i)
      · exact e
    · intro hi
      rcases List.mem_cons.1 ((h i).2 (List.mem_cons_of_mem _ hi)) with e | e
      · subst e; exact absurd (hk.1 i hi) (irr i)
      · exact e
theorem valid_pairs (p : Nat → Nat → Bool) {N : Nat} (h : N ≤ 20) : valid (N : Int) (pairsOf p N) = true := by
  rw [valid_iff]
  refine ⟨by omega, by omega, fun q hq => ?_, pairs_sorted p N⟩
  obtain ⟨a, b, rfl, h1, h2, _⟩ := mem_pairs.1 hq
  simp; omega
theorem adj_pairs {p : Nat → Nat → Bool} {N a b : Nat} (hab : a < b) (hb : b < N) : adjE (pairsOf p N) a b = p a b := by
  cases h : p a b
  · cases h2 : adjE (pairsOf p N) a b with
    | false => rfl
    | true =>
      rw [adjE_iff hab] at h2
      obtain ⟨q, hq, h3, h4⟩ := h2
      obtain ⟨c, d, rfl, _, _, h5⟩ := mem_pairs.1 hq
      simp at h3 h4
      obtain rfl : c = a := by omega
      obtain rfl : d = b := by omega
      rw [h] at h5; cases h5
  · rw [adjE_iff hab]
    exact ⟨⟨a, b⟩, mem_pairs.2 ⟨a, b, rfl, hab, hb, h⟩, rfl, rfl⟩
theorem pairs_congr {p q : Nat → Nat → Bool} {N : Nat} (h : ∀ a b, a < b → b < N → p a b = q a b) : pairsOf p N = pairsOf q N := by
  refine sorted_pl (pairs_sorted p N) (pairs_sorted q N) fun r => ?_
  rw [mem_pairs, mem_pairs]
  constructor
  · rintro ⟨a, b, e, h1, h2, h3⟩; exact ⟨a, b, e, h1, h2, by rw [← h a b h1 h2]; exact h3⟩
  · rintro ⟨a, b, e, h1, h2, h3⟩; exact ⟨a, b, e, h1, h2, by rw [h a b h1 h2]; exact h3⟩
theorem valid_is {M : Nat} {E : List Pair} (h : valid (M : Int) E = true) : E = pairsOf (adjE E) M := by
  have hv := valid_iff.1 h
  refine sorted_pl hv.2.2.2 (pairs_sorted _ _) fun r => ?_
  rw [mem_pairs]
  constructor
  · intro hr
    have := hv.2.2.1 r hr
    refine ⟨r.A.toNat, r.B.toNat, ?_, by omega, by omega, ?_⟩
    · cases r; congr 1 <;> simp at * <;> omega
    · rw [adjE_iff (by omega)]
      exact ⟨r, hr, by omega, by omega⟩
  · rintro ⟨a, b, rfl, h1, h2, h3⟩
    rw [adjE_iff h1] at h3
    obtain ⟨q, hq, e1, e2⟩ := h3
    have : q = ⟨a, b⟩ := by cases q; simp at e1 e2; rw [e1, e2]
    rw [← this]; exact hq
theorem filter_both {α : Type} (p : α → Bool) : ∀ l : List α, (l.filter p).length + (l.filter fun x => !p x).length = l.length
  | [] => rfl
  | x :: l => by
    have := filter_both p l
    rw [List.filter_cons, List.filter_cons]
    cases p x <;> simp <;> omega
theorem pairs_len (p : Nat → Nat → Bool) (N : Nat) : 2 * ((pairsOf p N).length + (pairsOf (fun a b => !p a b) N).length) = N * (N - 1) := by
  have key : ∀ k, k ≤ N → 2 * ((((List.range k).flatMap fun i => ((List.range' (i + 1) (N - (i + 1))).filter (p i)).map fun w : Nat => Pair.mk i w)).length + (((List.range k).flatMap fun i => ((List.range' (i + 1) (N - (i + 1))).filter fun w => !p i w).map fun w : Nat => Pair.mk i w)).length) + k * (k + 1) = 2 * k * N := by
    intro k
    induction k with
    | zero => intro _; simp
    | succ k ih =>
      intro hk
      have h1 := ih (by omega)
      have h2 := filter_both (p k) (List.range' (k + 1) (N - (k + 1)))
      rw [List.length_range'] at h2
      simp only [List.range_succ, List.flatMap_append, List.length_append, List.flatMap_cons, List.flatMap_nil, List.append_nil, List.length_map]
      generalize ((List.range k).flatMap fun i => ((List.range' (i + 1) (N - (i + 1))).filter (p i)).map fun w : Nat => Pair.mk i w).length = A at *
      generalize ((List.range k).flatMap fun i => ((List.range' (i + 1) (N - (i + 1))).filter fun w => !p i w).map fun w : Nat => Pair.mk i w).length = B at *
      generalize ((List.range' (k + 1) (N - (k + 1))).filter (p k)).length = C at *
      generalize ((List.range' (k + 1) (N - (k + 1))).filter fun x => !p k x).length = D at *
      have e1 : 2 * (k + 1) * N = 2 * k * N + 2 * N := by rw [Nat.mul_add, Nat.add_mul]
      have e2 : (k + 1) * (k + 1 + 1) = k * (k + 1) + 2 * (k + 1) := by rw [Nat.add_mul, Nat.mul_add]; omega
      rw [e1, e2]
      omega
  have h := key N (Nat.le_refl _)
  have e : N * (N + 1) + N * (N - 1) = 2 * N * N := by
    cases N with
    | zero => rfl
    | succ n => simp only [Nat.add_sub_cancel]; rw [← Nat.mul_add, show n + 1 + 1 + n = 2 * (n + 1) by omega, Nat.mul_comm 2 (n + 1), Nat.mul_assoc, Nat.mul_comm 2]
  unfold pairsOf
  dsimp only
  omega
end Go.Proofs.YtminclnaelbolaaDoor

namespace Go.Proofs.YtminclnaelbolaaDoor
open Go Go.Proofs.YtminclnaelbolaaDoor.Gw
set_option linter.unusedVariables false

theorem law_CliqueComplements (g : Graph) (hg : okGraph g) : Evt (fun n => law29_CliqueComplements n g) true := by
  obtain ⟨N, E⟩ := g
  apply Tot.of_eq
  dsimp only [law29_CliqueComplements]
  refine law_begin2 (fun _ => asleep) (fun hf hc => ?_)
  have hE := few_len' hf
  dsimp only [cond_false]
  refine Tot.bind (Tot.evt (compl_ok N E hE) ?_)
  cases hv : valid N E
  · exact Tot.condN (fun _ => Tot.ret rfl) (fun h => by simp at h)
  · obtain ⟨hn0, hn1⟩ := valid_N hv
    obtain ⟨M, rfl⟩ : ∃ M : Nat, N = M := ⟨N.toNat, by omega⟩
    rw [if_pos rfl, Int.toNat_natCast]
    refine Tot.condN (fun h => by simp at h) (fun _ => ?_)
    dsimp only
    have hml : (missAll E M 0).length ≤ 400 := by
      have := missAll_len (E := E) (N := M) (by omega) M 0 (by omega)
      omega
    have hmp := miss_pairs E M
    have hvm : valid (M : Int) (missAll E M 0) = true := by rw [hmp]; exact valid_pairs _ (by omega)
    have hEp := valid_is hv
    have hback : missAll (missAll E M 0) M 0 = E := by
      rw [miss_pairs]
      refine (pairs_congr fun a b hab hb => ?_).trans hEp.symm
      rw [hmp, adj_pairs hab hb, Bool.not_not]
    refine Tot.bind (Tot.evt (compl_ok _ _ (by omega)) ?_)
    refine Tot.bind (Tot.evt (Independent_ok _ E hE) ?_)
    rw [hvm, if_pos rfl, Int.toNat_natCast, hback]
    have hind : indV (M : Int) E = (ints (maxL M (missAll E M 0)), 0) := by
      unfold indV
      rw [hv, if_pos rfl, Int.toNat_natCast, hvm, if_pos rfl]
    rw [hind]
    have hlen : (missAll E M 0).length + E.length = M * (M - 1) / 2 := by
      have h1 := pairs_len (adjE E) M
      rw [← hEp, ← hmp] at h1
      omega
    have hmm : M * (M - 1) ≤ 20 * 20 := Nat.mul_le_mul (by omega) (by omega)
    have hmi : (M : Int) * ((M : Int) - 1) = ((M * (M - 1) : Nat) : Int) := by
      cases M with
      | zero => rfl
      | succ k => simp
    refine Tot.bind (Tot.condE (fun _ => ?_) (fun h => absurd rfl h))
    refine Tot.bind (Tot.evt (Pairs_refl E hE) (Tot.cond (fun _ => ?_) (fun h => by cases h)))
    refine Tot.condE (fun _ => ?_) (fun h => ?_)
    · refine Tot.condE (fun _ => ?_) (fun h => absurd rfl h)
      have l1 := maxL_len (M : Int) (missAll E M 0)
      refine Tot.bind (Tot.evt (Is_ok _ _ _ (by omega) (by dsimp only; rw [ints_len]; omega)) (Tot.ret (Tot.ret ?_)))
      obtain ⟨m1, m2⟩ := maxL_is (M : Int) (missAll E M 0)
      unfold isV
      rw [hvm, isL_of m1 m2]; rfl
    · exfalso
      apply h
      rw [w64 (by omega) (by omega), w64 (x := (M : Int) - 1) (by omega) (by omega), hmi, w64 (x := ((M * (M - 1) : Nat) : Int)) (by omega) (by omega)]
      rw [Int.tdiv_eq_ediv_of_nonneg (by omega), w64 (by omega) (by omega)]
      omega
end Go.Proofs.YtminclnaelbolaaDoor
