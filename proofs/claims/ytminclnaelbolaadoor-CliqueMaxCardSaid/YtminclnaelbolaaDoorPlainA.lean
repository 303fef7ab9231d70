/-
  Plain laws on the plain functions.
-/
import Derived.Test.YtminclnaelbolaaDoorDataA
import Derived.Lib.TrailingZeros
namespace Go.Proofs.YtminclnaelbolaaDoor
open Go Go.Proofs.YtminclnaelbolaaDoor.Gw

/- ### From some fuel on -/
def Evt {α : Type} (f : Nat → Option α) (r : α) : Prop := ∃ N, ∀ n, N ≤ n → f n = some r
theorem Evt.get {α : Type} {f : Nat → Option α} {r : α} (h : Evt f r) : ∃ n, f n = some r := let ⟨N, h⟩ := h; ⟨N, h N (Nat.le_refl _)⟩
theorem Evt.pure {α : Type} (r : α) : Evt (fun _ => some r) r := ⟨0, fun _ _ => rfl⟩
theorem Evt.of {α : Type} {f : Nat → Option α} {r : α} (N : Nat) (h : ∀ n, f (n + N) = some r) : Evt f r := ⟨N, fun n hn => by have := h (n - N); rwa [Nat.sub_add_cancel hn] at this⟩
theorem Evt.congr {α : Type} {f : Nat → Option α} {r : α} (h : ∀ n, f n = some r) : Evt f r := ⟨0, fun n _ => h n⟩
theorem Evt.bind {α β : Type} {f : Nat → Option α} {a : α} {g : Nat → α → Option β} {b : β} (h : Evt f a) (k : Evt (fun n => g n a) b) : Evt (fun n => (f n).bind (g n)) b := by
  obtain ⟨N, h⟩ := h; obtain ⟨M, k⟩ := k
  exact ⟨max N M, fun n hn => by simp only [h n (by omega), Option.bind_some]; exact k n (by omega)⟩
theorem Evt.bind0 {α β : Type} {x : Option α} {a : α} {g : Nat → α → Option β} {b : β} (h : x = .some a) (k : Evt (fun n => g n a) b) : Evt (fun n => x.bind (g n)) b :=
  Evt.bind (f := fun _ => x) (h ▸ Evt.pure a) k
theorem Evt.cond {α : Type} {c : Bool} {f g : Nat → Option α} {r : α} (h : c = true → Evt f r) (k : c = false → Evt g r) : Evt (fun n => cond c (f n) (g n)) r := by
  cases c
  · exact k rfl
  · exact h rfl
theorem Evt.eq {α : Type} {f : Nat → Option α} {r r' : α} (h : Evt f r) (e : r = r') : Evt f r' := e ▸ h
theorem Evt.ite {α : Type} {c : Bool} {f g : Nat → Option α} {a b : α} (h : c = true → Evt f a) (k : c = false → Evt g b) : Evt (fun n => Bool.rec (g n) (f n) c) (Bool.rec b a c) := by
  cases c
  · exact k rfl
  · exact h rfl
/-- A loop, by a measure. -/
theorem Evt.loop {σ ρ : Type} {body : Nat → σ → Option (Out σ ρ)} (J : σ → ρ → Prop) (μ : σ → Nat)
    (step : ∀ s r, J s r → (∃ s', Evt (fun n => body n s) (.go s') ∧ J s' r ∧ μ s' < μ s) ∨ Evt (fun n => body n s) (.done r)) (s : σ) (r : ρ) (hs : J s r) : Evt (fun n => loopN (body n) n s) r := by
  have key : ∀ (k : Nat) (s : σ), μ s ≤ k → J s r → ∃ N, ∀ n, N ≤ n → ∀ m, N ≤ m → loopN (body n) m s = .some r := by
    intro k
    induction k with
    | zero =>
      intro s hm hj
      rcases step s r hj with ⟨s', _, _, hlt⟩ | ⟨N, h⟩
      · omega
      · refine ⟨N + 1, fun n hn m hm => ?_⟩
        obtain ⟨m, rfl⟩ : ∃ k, m = k + 1 := ⟨m - 1, by omega⟩
        simp [loopN, h n (by omega)]
    | succ k ih =>
      intro s hm hj
      rcases step s r hj with ⟨s', ⟨N, h⟩, hj', hlt⟩ | ⟨N, h⟩
      · obtain ⟨M, h'⟩ := ih s' (by omega) hj'
        refine ⟨max N M + 1, fun n hn m hm => ?_⟩
        obtain ⟨m, rfl⟩ : ∃ k, m = k + 1 := ⟨m - 1, by omega⟩
        simp only [loopN, h n (by omega), Option.bind_some]
        exact h' n (by omega) m (by omega)
      · refine ⟨N + 1, fun n hn m hm => ?_⟩
        obtain ⟨m, rfl⟩ : ∃ k, m = k + 1 := ⟨m - 1, by omega⟩
        simp [loopN, h n (by omega)]
  obtain ⟨N, h⟩ := key (μ s) s (Nat.le_refl _) hs
  exact ⟨N, fun n hn => h n hn n hn⟩
/-- A loop, by a measure; R: what the result is to the state. -/
theorem Evt.loopR {σ ρ : Type} {body : Nat → σ → Option (Out σ ρ)} (J : σ → Prop) (R : σ → ρ → Prop) (μ : σ → Nat)
    (step : ∀ s, J s → (∃ s', Evt (fun n => body n s) (.go s') ∧ J s' ∧ μ s' < μ s ∧ ∀ r, R s' r → R s r) ∨ ∃ r, Evt (fun n => body n s) (.done r) ∧ R s r) (s : σ) (hs : J s) : ∃ r, Evt (fun n => loopN (body n) n s) r ∧ R s r := by
  have ex : ∀ (k : Nat) (s : σ), μ s ≤ k → J s → ∃ r, R s r ∧ ∃ N, ∀ n, N ≤ n → ∀ m, N ≤ m → loopN (body n) m s = .some r := by
    intro k
    induction k with
    | zero =>
      intro s hm hj
      rcases step s hj with ⟨s', _, _, hlt, _⟩ | ⟨r, ⟨N, h⟩, hR⟩
      · omega
      · refine ⟨r, hR, N + 1, fun n hn m hm => ?_⟩
        obtain ⟨m, rfl⟩ : ∃ k, m = k + 1 := ⟨m - 1, by omega⟩
        simp [loopN, h n (by omega)]
    | succ k ih =>
      intro s hm hj
      rcases step s hj with ⟨s', ⟨N, h⟩, hj', hlt, hR⟩ | ⟨r, ⟨N, h⟩, hR⟩
      · obtain ⟨r, hr, M, h'⟩ := ih s' (by omega) hj'
        refine ⟨r, hR r hr, max N M + 1, fun n hn m hm => ?_⟩
        obtain ⟨m, rfl⟩ : ∃ k, m = k + 1 := ⟨m - 1, by omega⟩
        simp only [loopN, h n (by omega), Option.bind_some]
        exact h' n (by omega) m (by omega)
      · refine ⟨r, hR, N + 1, fun n hn m hm => ?_⟩
        obtain ⟨m, rfl⟩ : ∃ k, m = k + 1 := ⟨m - 1, by omega⟩
        simp [loopN, h n (by omega)]
  obtain ⟨r, hr, N, h⟩ := ex (μ s) s (Nat.le_refl _) hs
  exact ⟨r, ⟨N, fun n hn => h n hn n hn⟩, hr⟩
theorem Evt.succ {α : Type} {f : Nat → Option α} {r : α} (h : Evt (fun n => f (n + 1)) r) : Evt f r := by
  obtain ⟨N, h⟩ := h
  refine ⟨N + 1, fun n hn => ?_⟩
  obtain ⟨n, rfl⟩ : ∃ k, n = k + 1 := ⟨n - 1, by omega⟩
  exact h n (by omega)
theorem need_t {c : Bool} (h : c = true) : need c = Option.some () := by subst h; rfl

theorem awake_at (n : Nat) : law29_awake (n + 64) = some true := by kernel_rfl
theorem awake_ok : Evt law29_awake true := Evt.of 64 awake_at

/- ### The words of 64 and 32 bits -/
theorem wrap64 {x : Int} (h : -9223372036854775808 ≤ x ∧ x < 9223372036854775808) : IntKind.i64.wrap x = x := by
  simp [IntKind.wrap, IntKind.signed, IntKind.bits]; omega
theorem wrap32 {x : Int} (h : 0 ≤ x ∧ x < 4294967296) : IntKind.u32.wrap x = x := by
  simp [IntKind.wrap, IntKind.signed, IntKind.bits]; omega
theorem idx_nat {α : Type} (xs : List α) (i : Nat) : idx xs (i : Int) = xs[i]? := by simp [idx]
end Go.Proofs.YtminclnaelbolaaDoor

namespace Go.Proofs.YtminclnaelbolaaDoor
open Go Go.Proofs.YtminclnaelbolaaDoor.Gw

/- ### Sets of small numbers as the bits of a word of 32 -/
/-- The members, ascending. -/
def bl (m : Nat) : List Nat := (List.range 32).filter m.testBit
theorem mem_bl {m i : Nat} : i ∈ bl m ↔ i < 32 ∧ m.testBit i = true := by simp [bl]
theorem bl_sorted (m : Nat) : (bl m).Pairwise (· < ·) := List.pairwise_lt_range.filter _
theorem le_pow {i : Nat} (h : 32 ≤ i) : 4294967296 ≤ 2 ^ i := Nat.pow_le_pow_right (n := 2) (i := 32) (by omega) h
theorem testBit_lt {m i : Nat} (hm : m < 4294967296) (h : m.testBit i = true) : i < 32 := by
  rcases Nat.lt_or_ge i 32 with hi | hi
  · exact hi
  · have : m < 2 ^ i := Nat.lt_of_lt_of_le hm (le_pow hi)
    rw [Nat.testBit_lt_two_pow this] at h; cases h
theorem bl_ext {m k : Nat} (hm : m < 4294967296) (hk : k < 4294967296) (h : bl m = bl k) : m = k := by
  apply Nat.eq_of_testBit_eq
  intro i
  have : i ∈ bl m ↔ i ∈ bl k := by rw [h]
  rw [mem_bl, mem_bl] at this
  rcases Nat.lt_or_ge i 32 with hi | hi
  · simp only [hi, true_and] at this
    cases h1 : m.testBit i <;> cases h2 : k.testBit i <;> simp_all
  · rw [Nat.testBit_lt_two_pow (Nat.lt_of_lt_of_le hm (le_pow hi)), Nat.testBit_lt_two_pow (Nat.lt_of_lt_of_le hk (le_pow hi))]
theorem bl_zero : bl 0 = [] := by simp [bl]
theorem bl_nil {m : Nat} (hm : m < 4294967296) (h : bl m = []) : m = 0 := bl_ext hm (by omega) (by rw [h, bl_zero])
theorem sorted_ext : ∀ {l k : List Nat}, l.Pairwise (· < ·) → k.Pairwise (· < ·) → (∀ i, i ∈ l ↔ i ∈ k) → l = k
  | [], [], _, _, _ => rfl
  | [], b :: k, _, _, h => by have := (h b).2 (by simp); simp at this
  | a :: l, [], _, _, h => by have := (h a).1 (by simp); simp at this
  | a :: l, b :: k, hl, hk, h => by
    rw [List.pairwise_cons] at hl hk
    have hab : a = b := by
      rcases List.mem_cons.1 ((h a).1 (by simp)) with e | e
      · exact e
      · rcases List.mem_cons.1 ((h b).2 (by simp)) with e2 | e2
        · exact e2.symm
        · have := hk.1 a e; have := hl.1 b e2; omega
    subst hab
    rw [sorted_ext hl.2 hk.2 fun i => ?_]
    constructor
    · intro hi
      rcases List.mem_cons.1 ((h i).1 (List.mem_cons_of_mem _ hi)) with e | e
      · subst e; have := hl.1 i hi; omega
      · exact e
    · intro hi
      rcases List.mem_cons.1 ((h i).2 (List.mem_cons_of_mem _ hi)) with e | e
      · subst e; have := hk.1 i hi; omega
      · exact e
theorem bl_and (a b : Nat) : bl (a &&& b) = (bl a).filter b.testBit := by
  simp only [bl, List.filter_filter]
  congr 1; funext i
  rw [Nat.testBit_and, Bool.and_comm]
def andn (a b : Nat) : Nat := (BitVec.ofNat 32 a &&& ~~~ BitVec.ofNat 32 b).toNat
theorem andn_lt (a b : Nat) : andn a b < 4294967296 := (BitVec.ofNat 32 a &&& ~~~ BitVec.ofNat 32 b).isLt
theorem testBit_andn (a b i : Nat) (h : i < 32) : (andn a b).testBit i = (a.testBit i && !b.testBit i) := by
  unfold andn
  rw [← BitVec.getLsbD, BitVec.getLsbD_and, BitVec.getLsbD_not, BitVec.getLsbD_ofNat, BitVec.getLsbD_ofNat]
  simp [h]
theorem bl_andn (a b : Nat) : bl (andn a b) = (bl a).filter (fun i => !b.testBit i) := by
  simp only [bl, List.filter_filter]
  apply List.filter_congr
  intro i hi
  rw [testBit_andn a b i (by simpa using hi), Bool.and_comm]
theorem u32_nat {n : Nat} (h : n < 4294967296) : IntKind.u32.wrap (n : Int) = n := wrap32 (by omega)
theorem ofInt_nat (n : Nat) : BitVec.ofInt 32 (n : Int) = BitVec.ofNat 32 n := by simp
theorem ib_and {a b : Nat} (ha : a < 4294967296) (hb : b < 4294967296) : ib .and .u32 (a : Int) b = ((a &&& b : Nat) : Int) := by
  have h : (BitVec.ofInt 32 (a : Int) &&& BitVec.ofInt 32 (b : Int)).toNat = a &&& b := by
    simp only [ofInt_nat, BitVec.toNat_and, BitVec.toNat_ofNat]
    rw [Nat.mod_eq_of_lt ha, Nat.mod_eq_of_lt hb]
  show IntKind.u32.wrap ((BitVec.ofInt 32 (a : Int) &&& BitVec.ofInt 32 (b : Int)).toNat : Int) = _
  rw [h, u32_nat (Nat.lt_of_le_of_lt Nat.and_le_left ha)]
theorem ib_or {a b : Nat} (ha : a < 4294967296) (hb : b < 4294967296) : ib .or .u32 (a : Int) b = ((a ||| b : Nat) : Int) := by
  have h : (BitVec.ofInt 32 (a : Int) ||| BitVec.ofInt 32 (b : Int)).toNat = a ||| b := by
    simp only [ofInt_nat, BitVec.toNat_or, BitVec.toNat_ofNat]
    rw [Nat.mod_eq_of_lt ha, Nat.mod_eq_of_lt hb]
  show IntKind.u32.wrap ((BitVec.ofInt 32 (a : Int) ||| BitVec.ofInt 32 (b : Int)).toNat : Int) = _
  rw [h, u32_nat (Nat.or_lt_two_pow (n := 32) ha hb)]
theorem ib_andNot {a b : Nat} : ib .andNot .u32 (a : Int) b = (andn a b : Int) := by
  show IntKind.u32.wrap ((BitVec.ofInt 32 (a : Int) &&& ~~~ BitVec.ofInt 32 (b : Int)).toNat : Int) = _
  rw [ofInt_nat, ofInt_nat]
  exact u32_nat (andn_lt a b)
theorem shl1 {v : Nat} (h : v < 32) : IntKind.u32.wrap ((1 : Int) * 2 ^ min (v : Int).toNat (IntKind.u32).bits) = ((2 ^ v : Nat) : Int) := by
  have e : min (v : Int).toNat (IntKind.u32).bits = v := by simp [IntKind.bits]; omega
  rw [e]
  have h2 : 2 ^ v < 4294967296 := Nat.pow_lt_pow_right (a := 2) (by omega) h
  rw [Int.one_mul, show (2 : Int) ^ v = ((2 ^ v : Nat) : Int) by simp]
  exact u32_nat h2
theorem two_pow_lt {v : Nat} (h : v < 32) : 2 ^ v < 4294967296 := Nat.pow_lt_pow_right (a := 2) (by omega) h
theorem or_lt {a b : Nat} (ha : a < 4294967296) (hb : b < 4294967296) : a ||| b < 4294967296 := Nat.or_lt_two_pow (n := 32) ha hb
theorem and_lt {a b : Nat} (ha : a < 4294967296) : a &&& b < 4294967296 := Nat.lt_of_le_of_lt Nat.and_le_left ha
theorem mem_bl_or {a v i : Nat} (hv : v < 32) : i ∈ bl (a ||| 2 ^ v) ↔ i ∈ bl a ∨ i = v := by
  rw [mem_bl, mem_bl, Nat.testBit_or, Nat.testBit_two_pow, Bool.or_eq_true, decide_eq_true_eq]
  constructor
  · rintro ⟨h, h1 | h1⟩
    · exact .inl ⟨h, h1⟩
    · exact .inr h1.symm
  · rintro (⟨h, h1⟩ | rfl)
    · exact ⟨h, .inl h1⟩
    · exact ⟨hv, .inr rfl⟩
theorem bl_or {a v : Nat} (hv : v < 32) (h : ∀ i ∈ bl a, i < v) : bl (a ||| 2 ^ v) = bl a ++ [v] := by
  apply sorted_ext (bl_sorted _)
  · rw [List.pairwise_append]
    exact ⟨bl_sorted _, by simp, fun i hi j hj => by simp at hj; subst hj; exact h i hi⟩
  · intro i; rw [mem_bl_or hv]; simp
/-- The lowest bit. -/
theorem ctz_head {m : Nat} (hm : m < 4294967296) (h0 : m ≠ 0) : ∃ c, bl m = Lib.ctz 32 m :: c := by
  obtain ⟨k, hk, hlt⟩ := Lib.ctzFrom_spec 32 m (by omega) hm
  have e : Lib.ctz 32 m = Lib.ctzFrom 32 m := by simp [Lib.ctz, h0]
  rw [← e] at hk hlt
  generalize Lib.ctz 32 m = t at *
  have hmem : t ∈ bl m := by
    rw [mem_bl, hk, Nat.testBit_two_pow_mul]
    exact ⟨hlt, by simp⟩
  cases hb : bl m with
  | nil => rw [hb] at hmem; simp at hmem
  | cons v c =>
    rw [hb] at hmem
    rcases List.mem_cons.1 hmem with e1 | e1
    · exact ⟨c, by rw [e1]⟩
    · have hs := bl_sorted m
      rw [hb, List.pairwise_cons] at hs
      have hlt2 := hs.1 _ e1
      have hv : v ∈ bl m := by rw [hb]; simp
      rw [mem_bl] at hv
      have hv2 := hv.2
      rw [hk, Nat.testBit_two_pow_mul] at hv2
      simp at hv2
      omega
theorem bl_rest {m v : Nat} {c : List Nat} (h : bl m = v :: c) : bl (andn m (2 ^ v)) = c := by
  rw [bl_andn, h]
  have hs := bl_sorted m
  rw [h, List.pairwise_cons] at hs
  rw [List.filter_cons, Nat.testBit_two_pow]
  simp only [decide_true, Bool.not_true, Bool.false_eq_true, if_false]
  rw [List.filter_eq_self]
  intro i hi
  have := hs.1 i hi
  rw [Nat.testBit_two_pow]
  simp; omega
end Go.Proofs.YtminclnaelbolaaDoor

namespace Go.Proofs.YtminclnaelbolaaDoor
open Go Go.Proofs.YtminclnaelbolaaDoor.Gw

/- ### The number of the members -/
def popTab : ByteArray := ⟨#[0, 1, 1, 2, 1, 2, 2, 3, 1, 2, 2, 3, 2, 3, 3, 4, 1, 2, 2, 3, 2, 3, 3, 4, 2, 3, 3, 4, 3, 4, 4, 5, 1, 2, 2, 3, 2, 3, 3, 4, 2, 3, 3, 4, 3, 4, 4, 5, 2, 3, 3, 4, 3, 4, 4, 5, 3, 4, 4, 5, 4, 5, 5, 6, 1, 2, 2, 3, 2, 3, 3, 4, 2, 3, 3, 4, 3, 4, 4, 5, 2, 3, 3, 4, 3, 4, 4, 5, 3, 4, 4, 5, 4, 5, 5, 6, 2, 3, 3, 4, 3, 4, 4, 5, 3, 4, 4, 5, 4, 5, 5, 6, 3, 4, 4, 5, 4, 5, 5, 6, 4, 5, 5, 6, 5, 6, 6, 7, 1, 2, 2, 3, 2, 3, 3, 4, 2, 3, 3, 4, 3, 4, 4, 5, 2, 3, 3, 4, 3, 4, 4, 5, 3, 4, 4, 5, 4, 5, 5, 6, 2, 3, 3, 4, 3, 4, 4, 5, 3, 4, 4, 5, 4, 5, 5, 6, 3, 4, 4, 5, 4, 5, 5, 6, 4, 5, 5, 6, 5, 6, 6, 7, 2, 3, 3, 4, 3, 4, 4, 5, 3, 4, 4, 5, 4, 5, 5, 6, 3, 4, 4, 5, 4, 5, 5, 6, 4, 5, 5, 6, 5, 6, 6, 7, 3, 4, 4, 5, 4, 5, 5, 6, 4, 5, 5, 6, 5, 6, 6, 7, 4, 5, 5, 6, 5, 6, 6, 7, 5, 6, 6, 7, 6, 7, 7, 8]⟩
/-- The members below 8. -/
def b8 (m : Nat) : List Nat := (List.range 8).filter m.testBit
theorem pop_at : ∀ n : Fin 256, bidx popTab (n.val : Int) = some ((b8 n.val).length : Int) := by decide +kernel
theorem pop_nat {b : Nat} (h : b < 256) : bidx popTab (b : Int) = some ((b8 b).length : Int) := pop_at ⟨b, h⟩
theorem b8_le (m : Nat) : (b8 m).length ≤ 8 := by
  have := List.length_filter_le m.testBit (List.range 8)
  simpa [b8] using this
theorem b8_and (m : Nat) : b8 (m &&& 255) = b8 m := by
  apply List.filter_congr
  intro i hi
  have hi : i < 8 := by simpa using hi
  rw [Nat.testBit_and, show (255 : Nat) = 2 ^ 8 - 1 by rfl, Nat.testBit_two_pow_sub_one]
  simp [hi]
theorem range32 : List.range 32 = List.range 8 ++ ((List.range 8).map (· + 8) ++ ((List.range 8).map (· + 16) ++ (List.range 8).map (· + 24))) := by decide
theorem part8 (m k : Nat) : (((List.range 8).map (· + k)).filter m.testBit).length = (b8 (m / 2 ^ k)).length := by
  rw [List.filter_map, List.length_map]
  unfold b8
  congr 1
  apply List.filter_congr
  intro i _
  simp only [Function.comp, Nat.testBit_div_two_pow]
theorem bl_length (m : Nat) : (bl m).length = (b8 m).length + ((b8 (m / 2 ^ 8)).length + ((b8 (m / 2 ^ 16)).length + (b8 (m / 2 ^ 24)).length)) := by
  unfold bl
  rw [range32]
  simp only [List.filter_append, List.length_append, part8]
  rfl
theorem wrap8 {x : Int} (h : 0 ≤ x ∧ x < 256) : IntKind.u8.wrap x = x := by simp [IntKind.wrap, IntKind.signed, IntKind.bits]; omega
theorem shr_nat (m k : Nat) (K : Int) (hK : K.toNat = k) (hk : k ≤ 32) : ((m : Int).fdiv (2 ^ min K.toNat (IntKind.u32).bits)) = ((m / 2 ^ k : Nat) : Int) := by
  have e : min K.toNat (IntKind.u32).bits = k := by rw [hK]; simp [IntKind.bits]; omega
  rw [e, Int.fdiv_eq_ediv_of_nonneg _ (Int.le_of_lt (Int.pow_pos (by omega)))]
  simp
theorem size_ok {m : Nat} (hm : m < 4294967296) (n : Nat) : clique_set_size n (m : Int) = some ((bl m).length : Int) := by
  unfold clique_set_size bits_OnesCount32
  have h24 := shr_nat m 24 24 rfl (by omega)
  have h16 := shr_nat m 16 16 rfl (by omega)
  have h8 := shr_nat m 8 8 rfl (by omega)
  have l24 : m / 2 ^ 24 < 256 := by omega
  have l16 : m / 2 ^ 16 < 4294967296 := by omega
  have l8 : m / 2 ^ 8 < 4294967296 := by omega
  change (((bidx popTab ((m : Int).fdiv (2 ^ min (24 : Int).toNat (IntKind.u32).bits))).bind fun x => (bidx popTab (ib .and .u32 ((m : Int).fdiv (2 ^ min (16 : Int).toNat (IntKind.u32).bits)) ((255 : Nat) : Int))).bind fun y =>
    (bidx popTab (ib .and .u32 ((m : Int).fdiv (2 ^ min (8 : Int).toNat (IntKind.u32).bits)) ((255 : Nat) : Int))).bind fun z => (bidx popTab (ib .and .u32 (m : Int) ((255 : Nat) : Int))).bind fun u =>
      some ((IntKind.i64.wrap (IntKind.u8.wrap ((IntKind.u8.wrap ((IntKind.u8.wrap (x + y)) + z)) + u)))))).bind (fun x => some x) = _
  rw [h24, h16, h8, ib_and l16 (by omega), ib_and l8 (by omega), ib_and hm (by omega)]
  rw [pop_nat l24, pop_nat (Nat.lt_of_le_of_lt Nat.and_le_right (by omega)), pop_nat (Nat.lt_of_le_of_lt Nat.and_le_right (by omega)), pop_nat (Nat.lt_of_le_of_lt Nat.and_le_right (by omega))]
  simp only [Option.bind_some, b8_and]
  have e := bl_length m
  have := b8_le m; have := b8_le (m / 2 ^ 8); have := b8_le (m / 2 ^ 16); have := b8_le (m / 2 ^ 24)
  generalize (b8 (m / 2 ^ 24)).length = p3 at *
  generalize (b8 (m / 2 ^ 16)).length = p2 at *
  generalize (b8 (m / 2 ^ 8)).length = p1 at *
  generalize (b8 m).length = p0 at *
  rw [wrap8 (x := (p3 : Int) + p2) (by omega), wrap8 (x := (p3 : Int) + p2 + p1) (by omega), wrap8 (x := (p3 : Int) + p2 + p1 + p0) (by omega), wrap64 (by omega), e]
  congr 1
  omega
theorem low_ok {m : Nat} (hm : m < 4294967296) (h0 : m ≠ 0) : ib .and .u32 (m : Int) (IntKind.u32.wrap (0 - (m : Int))) = ((2 ^ Lib.ctz 32 m : Nat) : Int) ∧ Lib.ctz 32 m < 32 := by
  obtain ⟨hl, hk⟩ := Lib.lowest_bit 32 m h0 hm
  refine ⟨?_, hk⟩
  have e1 : IntKind.u32.wrap (0 - (m : Int)) = ((2 ^ 32 - m : Nat) : Int) := by
    have : (2 : Nat) ^ 32 = 4294967296 := rfl
    rw [this]
    simp [IntKind.wrap, IntKind.signed, IntKind.bits]; omega
  have h2 : 2 ^ 32 - m < 4294967296 := by omega
  rw [e1, ib_and hm h2, hl]
theorem tz_at : ∀ t : Fin 32, (idx tab32 ((IntKind.u32.wrap (((2 ^ t.val : Nat) : Int) * 125613361)).fdiv (2 ^ min (27 : Int).toNat (IntKind.u32).bits))).bind (fun x => some (IntKind.i64.wrap x)) = some (t.val : Int) := by decide +kernel
theorem tz_def (n : Nat) (x : Int) : bits_TrailingZeros32 n x = cond (x == 0) (some 32) ((idx tab32 ((IntKind.u32.wrap ((ib .and .u32 x (IntKind.u32.wrap (0 - x))) * 125613361)).fdiv (2 ^ min (27 : Int).toNat (IntKind.u32).bits))).bind fun x => some (IntKind.i64.wrap x)) := by kernel_rfl
theorem tz_ok {m : Nat} (hm : m < 4294967296) (h0 : m ≠ 0) (n : Nat) : bits_TrailingZeros32 n (m : Int) = some (Lib.ctz 32 m : Int) := by
  obtain ⟨hl, hk⟩ := low_ok hm h0
  have hb : ((m : Int) == 0) = false := by simp; omega
  have h1 := tz_at ⟨Lib.ctz 32 m, hk⟩
  rw [tz_def, hb, hl, cond_false]
  generalize Lib.ctz 32 m = t at *
  with_reducible exact h1
end Go.Proofs.YtminclnaelbolaaDoor

namespace Go.Proofs.YtminclnaelbolaaDoor
set_option linter.unusedVariables false
open Go Go.Proofs.YtminclnaelbolaaDoor.Gw

/- ### The best clique, on lists -/
/-- The longer one; at a tie the elder. -/
def better (b x : List Nat) : List Nat := if b.length < x.length then x else b
def bestOf (b : List Nat) (xs : List (List Nat)) : List Nat := xs.foldl better b
/-- The best clique that begins with l, its others among c: k: at least the length of c. -/
def best (adj : Nat → Nat → Bool) : Nat → List Nat → List Nat → List Nat
  | 0, l, _ => l
  | k + 1, l, c => best.over adj k (best adj k) l c l
where
  /-- Over the beginnings: each vertex of c comes next, its others behind it. -/
  over (adj : Nat → Nat → Bool) (k : Nat) (f : List Nat → List Nat → List Nat) (l : List Nat) : List Nat → List Nat → List Nat
    | [], b => b
    | v :: c, b => over adj k f l c (better b (f (l ++ [v]) (c.filter (adj v))))
theorem better_le (b x : List Nat) : b.length ≤ (better b x).length := by unfold better; split <;> omega
theorem better_le' (b x : List Nat) : x.length ≤ (better b x).length := by unfold better; split <;> omega
theorem over_le {adj : Nat → Nat → Bool} {k : Nat} {f : List Nat → List Nat → List Nat} {l : List Nat} : ∀ (c b : List Nat), b.length ≤ (best.over adj k f l c b).length
  | [], b => Nat.le_refl _
  | v :: c, b => Nat.le_trans (better_le _ _) (over_le c _)
theorem over_or {adj : Nat → Nat → Bool} {k : Nat} {f : List Nat → List Nat → List Nat} {l : List Nat} : ∀ (c b : List Nat), best.over adj k f l c b = b ∨ b.length < (best.over adj k f l c b).length
  | [], b => .inl rfl
  | v :: c, b => by
    simp only [best.over]
    generalize f (l ++ [v]) (c.filter (adj v)) = x
    by_cases h1 : b.length < x.length
    · have e1 : better b x = x := by simp [better, h1]
      rw [e1]
      have := over_le (adj := adj) (k := k) (f := f) (l := l) c x
      exact .inr (by omega)
    · have e1 : better b x = b := by simp [better, h1]
      rw [e1]; exact over_or c b
/-- From another beginning that is no shorter. -/
theorem over_from {adj : Nat → Nat → Bool} {k : Nat} {f : List Nat → List Nat → List Nat} {l : List Nat} : ∀ (c a b : List Nat), a.length ≤ b.length → best.over adj k f l c b = better b (best.over adj k f l c a)
  | [], a, b, h => by
    show b = better b a
    unfold better
    rw [if_neg (by omega)]
  | v :: c, a, b, h => by
    simp only [best.over]
    generalize f (l ++ [v]) (c.filter (adj v)) = x
    by_cases h1 : b.length < x.length
    · have e1 : better b x = x := by simp [better, h1]
      have e2 : better a x = x := by simp [better]; omega
      rw [e1, e2]
      have := over_le (adj := adj) (k := k) (f := f) (l := l) c x
      simp [better]; omega
    · have e1 : better b x = b := by simp [better, h1]
      rw [e1]
      exact over_from c (better a x) b (by unfold better; split <;> omega)
/-- No clique that begins with l is longer than l and c together. -/
theorem best_le {adj : Nat → Nat → Bool} : ∀ (k : Nat) (l c : List Nat), (best adj k l c).length ≤ l.length + c.length
  | 0, l, c => by simp [best]
  | k + 1, l, c => by
    have key : ∀ (c b : List Nat) (M : Nat), l.length + c.length ≤ M → b.length ≤ M → (best.over adj k (best adj k) l c b).length ≤ M := by
      intro c
      induction c with
      | nil => intro b M _ h; exact h
      | cons v c ih =>
        intro b M h1 h2
        simp only [List.length_cons] at h1
        refine ih _ M (by omega) ?_
        have h3 := best_le (adj := adj) k (l ++ [v]) (c.filter (adj v))
        have h4 := List.length_filter_le (adj v) c
        simp only [List.length_append, List.length_cons, List.length_nil] at h3
        unfold better; split <;> omega
    exact key c l _ (Nat.le_refl _) (by omega)
theorem over_small {adj : Nat → Nat → Bool} {k : Nat} {l : List Nat} : ∀ (c b : List Nat), l.length + c.length ≤ b.length → best.over adj k (best adj k) l c b = b
  | [], b, _ => rfl
  | v :: c, b, h => by
    simp only [List.length_cons] at h
    have h3 := best_le (adj := adj) k (l ++ [v]) (c.filter (adj v))
    have h4 := List.length_filter_le (adj v) c
    simp only [List.length_append, List.length_cons, List.length_nil] at h3
    have e : better b (best adj k (l ++ [v]) (c.filter (adj v))) = b := by unfold better; split <;> first | omega | rfl
    simp only [best.over, e]
    exact over_small c b (by omega)

/- ### search, on sets -/
theorem Evt.val {α : Type} {x : Option α} {r : α} (h : x = some r) : Evt (fun _ => x) r := Evt.congr fun _ => h
def rowsOk (g : List Int) (am : Nat → Nat) : Prop := ∀ v, v < g.length → g[v]? = some (am v : Int) ∧ am v < 4294967296
theorem search_ok (g : List Int) (am : Nat → Nat) (hg : rowsOk g am) (hl : g.length ≤ 31) : ∀ (k cur rest bst : Nat), (bl rest).length ≤ k → cur < 4294967296 → rest < 4294967296 → bst < 4294967296 →
    (∀ i ∈ bl rest, i < g.length) → (∀ i ∈ bl cur, ∀ j ∈ bl rest, i < j) →
    ∃ r : Nat, Evt (fun n => clique_graph_search n g cur rest bst) (r : Int) ∧ r < 4294967296 ∧ bl r = better (bl bst) (best (fun v => (am v).testBit) (k + 1) (bl cur) (bl rest)) := by
  intro k
  induction k using Nat.strongRecOn with
  | _ k ih =>
    intro cur rest bst hk hc hr hb hlt hord
    generalize hadj : (fun v => (am v).testBit) = adj at *
    -- the loop
    have loop : ∀ b0 : Nat, b0 < 4294967296 → (bl cur).length ≤ (bl b0).length → ∃ r : Int, Evt (fun n => loopN (clique_graph_search_L0 n (clique_graph_search n) g cur) n ((rest : Int), (b0 : Int))) r ∧
        ∃ rm : Nat, r = rm ∧ rm < 4294967296 ∧ bl rm = best.over adj k (best adj k) (bl cur) (bl rest) (bl b0) := by
      intro b0 hb0 hcb
      have := Evt.loopR (body := fun n => clique_graph_search_L0 n (clique_graph_search n) g cur) (fun s : Int × Int => ∃ x b : Nat, s = ((x : Int), (b : Int)) ∧ x < 4294967296 ∧ b < 4294967296 ∧ (bl x).length ≤ k ∧ (∀ i ∈ bl x, i < g.length) ∧ (∀ i ∈ bl cur, ∀ j ∈ bl x, i < j))
        (fun (s : Int × Int) (r : Int) => ∀ x b : Nat, s = ((x : Int), (b : Int)) → ∃ rm : Nat, r = rm ∧ rm < 4294967296 ∧ bl rm = best.over adj k (best adj k) (bl cur) (bl x) (bl b)) (fun s => (bl s.1.toNat).length) ?_ _ ⟨rest, b0, rfl, hr, hb0, hk, hlt, hord⟩
      · exact this.imp fun r h => ⟨h.1, h.2 _ _ rfl⟩
      rintro _ ⟨x, b, rfl, hx, hbb, hxk, hxl, hxo⟩
      unfold clique_graph_search_L0
      dsimp only
      have l1 : (bl cur).length ≤ 32 := by have := List.length_filter_le cur.testBit (List.range 32); simpa [bl] using this
      have l2 : (bl x).length ≤ 32 := by have := List.length_filter_le x.testBit (List.range 32); simpa [bl] using this
      have inj : ∀ y c : Nat, ((x : Int), (b : Int)) = ((y : Int), (c : Int)) → y = x ∧ c = b := fun y c e => by
        simp only [Prod.mk.injEq] at e; omega
      by_cases h0 : x = 0
      · refine .inr ⟨(b : Int), ?_, fun y c e => ?_⟩
        · subst h0
          refine Evt.bind0 (a := false) (by simp) ?_
          exact Evt.congr fun n => rfl
        · obtain ⟨rfl, rfl⟩ := inj y c e
          exact ⟨_, rfl, hbb, by rw [h0, bl_zero]; rfl⟩
      · have hne : ((x : Int) != 0) = true := by simp; omega
        by_cases h1 : (bl cur).length + (bl x).length ≤ (bl b).length
        · refine .inr ⟨(b : Int), ?_, fun y c e => ?_⟩
          · refine Evt.bind (a := false) ?_ (Evt.congr fun n => rfl)
            refine Evt.congr fun n => ?_
            rw [hne, size_ok hc, size_ok hx, size_ok hbb]
            simp only [cond_true, Option.bind_some]
            rw [wrap64 (by omega)]
            simp; omega
          · obtain ⟨rfl, rfl⟩ := inj y c e
            exact ⟨_, rfl, hbb, (over_small _ _ h1).symm⟩
        · obtain ⟨c', hc'⟩ := ctz_head hx h0
          generalize hv : Lib.ctz 32 x = v at *
          have hvl : v < g.length := hxl v (by rw [hc']; simp)
          obtain ⟨hgv, ham⟩ := hg v hvl
          have hv31 : v < 32 := by omega
          obtain ⟨k', rfl⟩ : ∃ j, k = j + 1 := ⟨k - 1, by rw [hc'] at hxk; simp at hxk; omega⟩
          have hrest := bl_rest hc'
          have hchild : bl (andn x (2 ^ v) &&& am v) = c'.filter (am v).testBit := by rw [bl_and, hrest]
          have hlen : c'.length ≤ k' := by rw [hc'] at hxk; simpa using hxk
          have hfl := List.length_filter_le (am v).testBit c'
          have hsx := bl_sorted x
          rw [hc', List.pairwise_cons] at hsx
          have hcv : ∀ i ∈ bl cur, i < v := fun i hi => hxo i hi v (by rw [hc']; simp)
          have hor := bl_or hv31 hcv
          obtain ⟨r, hrE, hr32, hrb⟩ := ih k' (by omega) (cur ||| 2 ^ v) (andn x (2 ^ v) &&& am v) b (by rw [hchild]; omega) (or_lt hc (two_pow_lt hv31)) (and_lt (andn_lt _ _)) hbb
            (fun i hi => by rw [hchild] at hi; exact hxl i (by rw [hc']; exact List.mem_cons_of_mem _ (List.mem_filter.1 hi).1))
            (fun i hi j hj => by
              rw [hchild] at hj
              have hjc := (List.mem_filter.1 hj).1
              rw [hor] at hi
              rcases List.mem_append.1 hi with h | h
              · exact hxo i h j (by rw [hc']; exact List.mem_cons_of_mem _ hjc)
              · simp at h; subst h; exact hsx.1 j hjc)
          refine .inl ⟨((andn x (2 ^ v) : Nat), (r : Int)), ?_, ⟨_, _, rfl, andn_lt _ _, hr32, by rw [hrest]; omega, fun i hi => ?_, fun i hi j hj => ?_⟩, ?_, fun R hR y c e => ?_⟩
          · refine Evt.bind (a := true) ?_ ?_
            · refine Evt.congr fun n => ?_
              rw [hne, size_ok hc, size_ok hx, size_ok hbb]
              simp only [cond_true, Option.bind_some]
              rw [wrap64 (by omega)]
              simp; omega
            · dsimp only [cond_true]
              refine Evt.bind (a := (v : Int)) (Evt.congr fun n => by rw [tz_ok hx h0, hv]) ?_
              refine Evt.bind0 (a := ()) (need_t (by simp)) ?_
              refine Evt.bind0 (a := ()) (need_t (by simp)) ?_
              refine Evt.bind0 (a := (am v : Int)) (by rw [idx_nat]; exact hgv) ?_
              rw [shl1 hv31, ib_or hc (two_pow_lt hv31), ib_andNot, ib_and (andn_lt _ _) ham]
              exact Evt.bind hrE (Evt.congr fun n => rfl)
          · rw [hrest] at hi; exact hxl i (by rw [hc']; exact List.mem_cons_of_mem _ hi)
          · rw [hrest] at hj; exact hxo i hi j (by rw [hc']; exact List.mem_cons_of_mem _ hj)
          · simp only [Int.toNat_natCast]; rw [hrest, hc']; simp
          · obtain ⟨rfl, rfl⟩ := inj y c e
            obtain ⟨rm, h1, h2, h3⟩ := hR _ _ rfl
            refine ⟨rm, h1, h2, ?_⟩
            rw [h3, hrest, hc', hrb, hor, hchild]
            simp only [best.over]
            rw [← hadj]
    -- the beginning
    have hbest : best adj (k + 1) (bl cur) (bl rest) = best.over adj k (best adj k) (bl cur) (bl rest) (bl cur) := rfl
    have fin : ∀ b0 : Nat, b0 < 4294967296 → bl b0 = better (bl bst) (bl cur) → (∀ n, (clique_set_size n (cur : Int)).bind (fun x => (clique_set_size n (bst : Int)).bind fun y => cond (decide (x > y)) (some (cur : Int)) (some (bst : Int))) = some (b0 : Int)) →
        ∃ r : Nat, Evt (fun n => clique_graph_search n g cur rest bst) (r : Int) ∧ r < 4294967296 ∧ bl r = better (bl bst) (best adj (k + 1) (bl cur) (bl rest)) := by
      intro b0 hb0 hbl hsel
      obtain ⟨r, hE, rm, rfl, hrm, hbr⟩ := loop b0 hb0 (by rw [hbl]; exact better_le' _ _)
      refine ⟨rm, Evt.succ ?_, hrm, ?_⟩
      · exact Evt.bind (Evt.congr hsel) hE
      · rw [hbr, hbl, hbest]
        have h1 := over_from (adj := adj) (k := k) (f := best adj k) (l := bl cur) (bl rest) (bl cur) (better (bl bst) (bl cur)) (better_le' _ _)
        rw [h1]
        have h2 := over_le (adj := adj) (k := k) (f := best adj k) (l := bl cur) (bl rest) (bl cur)
        have h3 := over_or (adj := adj) (k := k) (f := best adj k) (l := bl cur) (bl rest) (bl cur)
        generalize best.over adj k (best adj k) (bl cur) (bl rest) (bl cur) = o at *
        unfold better
        by_cases e1 : (bl bst).length < (bl cur).length
        · rw [if_pos e1, if_pos (by omega : (bl bst).length < o.length)]
          by_cases e2 : (bl cur).length < o.length
          · rw [if_pos e2]
          · rw [if_neg e2]; exact (h3.resolve_right e2).symm
        · rw [if_neg e1]
    by_cases e1 : (bl bst).length < (bl cur).length
    · refine fin cur hc (by unfold better; rw [if_pos e1]) fun n => ?_
      rw [size_ok hc, size_ok hb]
      simp only [Option.bind_some]
      rw [show decide (((bl cur).length : Int) > (bl bst).length) = true by simp; omega]; rfl
    · refine fin bst hb (by unfold better; rw [if_neg e1]) fun n => ?_
      rw [size_ok hc, size_ok hb]
      simp only [Option.bind_some]
      rw [show decide (((bl cur).length : Int) > (bl bst).length) = false by simp; omega]; rfl
end Go.Proofs.YtminclnaelbolaaDoor

namespace Go.Proofs.YtminclnaelbolaaDoor
open Go Go.Proofs.YtminclnaelbolaaDoor.Gw
set_option linter.unusedVariables false

/- ### The list of a set -/
theorem drop_low {m v : Nat} {c : List Nat} (hm : m < 4294967296) (h0 : m ≠ 0) (h : bl m = v :: c) : bl (m &&& (m - 1)) = c := by
  obtain ⟨k, hk, hlt⟩ := Lib.ctzFrom_spec 32 m (by omega) hm
  obtain ⟨c', hc'⟩ := ctz_head hm h0
  have e : Lib.ctz 32 m = Lib.ctzFrom 32 m := by simp [Lib.ctz, h0]
  rw [← e] at hk hlt
  generalize Lib.ctz 32 m = t at *
  rw [h] at hc'
  obtain ⟨rfl, rfl⟩ : v = t ∧ c = c' := by simpa using hc'
  rw [← bl_rest h]
  apply sorted_ext (bl_sorted _) (bl_sorted _)
  intro i
  rw [mem_bl, mem_bl]
  constructor
  · rintro ⟨hi, hb⟩
    refine ⟨hi, ?_⟩
    rw [testBit_andn _ _ _ hi, Nat.testBit_two_pow]
    rw [Nat.testBit_and, Bool.and_eq_true] at hb
    refine Bool.and_eq_true_iff.2 ⟨hb.1, ?_⟩
    have hm1 : m - 1 = 2 ^ (v + 1) * k + (2 ^ v - 1) := by
      rw [hk, Nat.pow_succ, Nat.mul_add, Nat.mul_one, ← Nat.mul_assoc]
      have : 0 < 2 ^ v := Nat.pow_pos (by omega)
      omega
    have hp : 0 < 2 ^ v := Nat.pow_pos (by omega)
    have hlt2 : 2 ^ v - 1 < 2 ^ (v + 1) := by rw [Nat.pow_succ]; omega
    have h2 := hb.2
    rw [hm1, Nat.testBit_two_pow_mul_add _ hlt2] at h2
    simp only [Bool.not_eq_true', decide_eq_false_iff_not]
    rintro rfl
    simp [Nat.testBit_two_pow_sub_one] at h2
  · rintro ⟨hi, hb⟩
    refine ⟨hi, ?_⟩
    rw [testBit_andn _ _ _ hi, Nat.testBit_two_pow, Bool.and_eq_true] at hb
    have hne : v ≠ i := by simpa using hb.2
    rw [Nat.testBit_and, Bool.and_eq_true]
    refine ⟨hb.1, ?_⟩
    have hm1 : m - 1 = 2 ^ (v + 1) * k + (2 ^ v - 1) := by
      rw [hk, Nat.pow_succ, Nat.mul_add, Nat.mul_one, ← Nat.mul_assoc]
      have : 0 < 2 ^ v := Nat.pow_pos (by omega)
      omega
    have hp : 0 < 2 ^ v := Nat.pow_pos (by omega)
    have hlt2 : 2 ^ v - 1 < 2 ^ (v + 1) := by rw [Nat.pow_succ]; omega
    rw [hm1, Nat.testBit_two_pow_mul_add _ hlt2]
    have h1 := hb.1
    rw [hk, Nat.testBit_two_pow_mul] at h1
    simp only [Bool.and_eq_true, decide_eq_true_eq] at h1
    obtain ⟨hge, h1⟩ := h1
    rw [if_neg (by omega)]
    obtain ⟨j, hj⟩ : ∃ j, i - v = j + 1 := ⟨i - v - 1, by omega⟩
    rw [hj, Nat.testBit_succ] at h1
    rw [show i - (v + 1) = j by omega]
    rwa [show (2 * k + 1) / 2 = k by omega] at h1
def ints (l : List Nat) : List Int := List.map (fun i : Nat => (i : Int)) l
theorem list_ok {m : Nat} (hm : m < 4294967296) : Evt (fun n => clique_set_list n (m : Int)) (ints (bl m)) := by
  have := Evt.loopR (body := fun n => clique_set_list_L1 n) (fun s : Int × List Int => ∃ x : Nat, s.1 = x ∧ x < 4294967296 ∧ s.2.length + (bl x).length ≤ 32)
    (fun (s : Int × List Int) (r : List Int) => ∀ x : Nat, s.1 = x → r = s.2 ++ ints (bl x)) (fun s => (bl s.1.toNat).length) ?_ ((m : Int), ([] : List Int)) ⟨m, rfl, hm, by
      have := List.length_filter_le m.testBit (List.range 32); simpa [bl] using this⟩
  · obtain ⟨r, hE, hr⟩ := this
    have e := hr m rfl
    simp only [List.nil_append] at e
    subst e
    exact Evt.bind hE (Evt.pure _)
  rintro ⟨_, out⟩ ⟨x, rfl, hx, hlen⟩
  unfold clique_set_list_L1
  dsimp only at hlen ⊢
  by_cases h0 : x = 0
  · refine .inr ⟨out, ?_, fun y e => ?_⟩
    · subst h0; exact Evt.congr fun n => rfl
    · have : y = 0 := by omega
      subst this; simp [bl_zero, ints]
  · obtain ⟨c, hc⟩ := ctz_head hx h0
    have hne : ((x : Int) != 0) = true := by simp; omega
    have hdr := drop_low hx h0 hc
    have hl : (bl x).length = c.length + 1 := by rw [hc]; rfl
    refine .inl ⟨(((x &&& (x - 1) : Nat) : Int), out ++ [(Lib.ctz 32 x : Int)]), ?_, ⟨_, rfl, and_lt hx, by rw [hdr]; simp; omega⟩, ?_, fun r hr y e => ?_⟩
    · rw [hne]
      dsimp only [cond_true]
      refine Evt.bind (a := (Lib.ctz 32 x : Int)) (Evt.congr fun n => tz_ok hx h0 n) ?_
      refine Evt.bind0 (a := out ++ [(Lib.ctz 32 x : Int)]) (by unfold app; rw [if_pos (by simp; omega)]) ?_
      have e1 : IntKind.u32.wrap ((x : Int) - 1) = ((x - 1 : Nat) : Int) := by rw [wrap32 (by omega)]; omega
      rw [e1, ib_and hx (by omega)]
      exact Evt.pure _
    · simp only [Int.toNat_natCast]; rw [hdr, hl]; omega
    · have : y = x := by omega
      subst this
      rw [hr _ rfl, hdr, hc]
      simp [ints]
end Go.Proofs.YtminclnaelbolaaDoor

namespace Go.Proofs.YtminclnaelbolaaDoor
open Go Go.Proofs.YtminclnaelbolaaDoor.Gw
set_option linter.unusedVariables false

/- ### The reference -/
/-- Are two vertices joined? -/
def joined (E : List Pair) (a b : Int) : Bool := E.any fun p => p.A == (if b < a then b else a) && p.B == (if b > a then b else a)
theorem idx_get {α : Type} {xs : List α} {i : Nat} (h : i < xs.length) : idx xs (i : Int) = some xs[i] := by rw [idx_nat]; exact List.getElem?_eq_getElem h
theorem succ64 {i : Nat} {m : Nat} (h : i < m) (hm : m ≤ 1000000) : IntKind.i64.wrap ((i : Int) + 1) = ((i + 1 : Nat) : Int) := by rw [wrap64 (by omega)]; rfl
theorem any_drop {α : Type} (p : α → Bool) (xs : List α) (i : Nat) (h : i < xs.length) : (xs.drop i).any p = (p xs[i] || (xs.drop (i + 1)).any p) := by
  rw [List.drop_eq_getElem_cons h, List.any_cons]
theorem joined_ok (E : List Pair) (a b : Int) (hE : E.length ≤ 1000000) : Evt (fun n => ref29_Joined n E a b) (joined E a b) := by
  let p : Pair → Bool := fun p => p.A == (if b < a then b else a) && p.B == (if b > a then b else a)
  have := Evt.loopR (body := fun n => ref29_Joined_L1 E a b) (fun s : Int => ∃ i : Nat, s = i ∧ i ≤ E.length)
    (fun (s : Int) (r : Out Unit Bool) => ∀ i : Nat, s = i → r = if (E.drop i).any p then .done true else .go ()) (fun s => E.length - s.toNat) ?_ (0 : Int) ⟨0, rfl, by omega⟩
  · obtain ⟨r, hE', hr⟩ := this
    have e := hr 0 rfl
    simp only [List.drop_zero] at e
    have hj : joined E a b = E.any p := rfl
    rw [hj]
    unfold ref29_Joined
    refine Evt.bind hE' ?_
    rw [e]
    cases E.any p
    · exact Evt.pure _
    · exact Evt.pure _
  rintro _ ⟨i, rfl, hi⟩
  unfold ref29_Joined_L1
  dsimp only
  by_cases h : i < E.length
  · have hd : decide ((i : Int) < (E.length : Int)) = true := by simp; omega
    rw [hd]
    have hx := idx_get h
    have step : ∀ c : Bool, p E[i] = c → Evt (fun _ : Nat => cond true (((idx E (i : Int)).bind fun x273 => cond (x273.A == (if b < a then b else a)) ((idx E (i : Int)).bind fun x279 => some ((x279.B == (if b > a then b else a)))) (some (false)) : Option Bool).bind fun x270 =>
        cond x270 (some (Out.done (Out.done true))) (some (Out.go (IntKind.i64.wrap ((i : Int) + 1))))) (some (Out.done (Out.go ())))) (cond c (Out.done (Out.done true)) (Out.go (((i + 1 : Nat) : Int)))) := by
      intro c hc
      refine Evt.congr fun n => ?_
      rw [hx]
      simp only [cond_true, Option.bind_some]
      rw [succ64 h hE]
      simp only [p] at hc
      cases h1 : (E[i].A == (if b < a then b else a))
      · rw [h1] at hc; simp only [Bool.false_and] at hc; subst hc; rfl
      · rw [h1, Bool.true_and] at hc; rw [hc]; cases c <;> rfl
    cases hc : p E[i]
    · refine .inl ⟨((i + 1 : Nat) : Int), step false hc, ⟨i + 1, rfl, h⟩, ?_, fun r hr j e => ?_⟩
      · simp only [Int.toNat_natCast]; omega
      · obtain rfl : j = i := by omega
        rw [hr _ rfl, any_drop p E j h, hc, Bool.false_or]
    · refine .inr ⟨.done true, step true hc, fun j e => ?_⟩
      obtain rfl : j = i := by omega
      rw [any_drop p E j h, hc]; rfl
  · have hd : decide ((i : Int) < (E.length : Int)) = false := by simp; omega
    rw [hd]
    refine .inr ⟨.go (), Evt.congr fun n => rfl, fun j e => ?_⟩
    obtain rfl : j = i := by omega
    rw [List.drop_eq_nil_of_le (by omega)]; rfl
end Go.Proofs.YtminclnaelbolaaDoor

namespace Go.Proofs.YtminclnaelbolaaDoor
open Go Go.Proofs.YtminclnaelbolaaDoor.Gw
set_option linter.unusedVariables false

theorem best_lvl {adj : Nat → Nat → Bool} : ∀ (k k' : Nat) (l c : List Nat), c.length ≤ k → c.length ≤ k' → best adj k l c = best adj k' l c
  | 0, 0, l, c, _, _ => rfl
  | 0, k' + 1, l, c, h, _ => by
    obtain rfl : c = [] := List.length_eq_zero_iff.1 (by omega)
    rfl
  | k + 1, 0, l, c, _, h => by
    obtain rfl : c = [] := List.length_eq_zero_iff.1 (by omega)
    rfl
  | k + 1, k' + 1, l, c, h, h' => by
    have key : ∀ (c b : List Nat), c.length ≤ k + 1 → c.length ≤ k' + 1 → best.over adj k (best adj k) l c b = best.over adj k' (best adj k') l c b := by
      intro c
      induction c with
      | nil => intro b _ _; rfl
      | cons v c ih =>
        intro b h1 h2
        simp only [List.length_cons] at h1 h2
        have hf := List.length_filter_le (adj v) c
        simp only [best.over]
        rw [best_lvl k k' (l ++ [v]) (c.filter (adj v)) (by omega) (by omega)]
        exact ih _ (by omega) (by omega)
    exact key c l h h'
/-- The vertices from i on that are joined with all of l. -/
def adjE (E : List Pair) (a b : Nat) : Bool := joined E a b
def cand (E : List Pair) (N : Nat) (l : List Nat) (i : Nat) : List Nat := (List.range' i (N - i)).filter fun v => l.all fun u => adjE E u v
theorem cand_end {E : List Pair} {N i : Nat} {l : List Nat} (h : N ≤ i) : cand E N l i = [] := by simp [cand, Nat.sub_eq_zero_of_le h]
theorem cand_step {E : List Pair} {N i : Nat} {l : List Nat} (h : i < N) : cand E N l i = (if (l.all fun u => adjE E u i) then [i] else []) ++ cand E N l (i + 1) := by
  unfold cand
  rw [show N - i = (N - (i + 1)) + 1 by omega, List.range'_succ, List.filter_cons]
  split <;> rfl
theorem cand_child {E : List Pair} {N i v : Nat} {l : List Nat} : cand E N (l ++ [v]) i = (cand E N l i).filter (adjE E v) := by
  unfold cand
  rw [List.filter_filter]
  congr 1; funext w
  rw [List.all_append]
  simp [Bool.and_comm]
theorem cand_len {E : List Pair} {N i : Nat} {l : List Nat} : (cand E N l i).length ≤ N - i := by
  have := List.length_filter_le (fun v => l.all fun u => adjE E u v) (List.range' i (N - i))
  simpa [cand] using this
theorem ints_len (l : List Nat) : (ints l).length = l.length := by simp [ints]
theorem idx_ints {l : List Nat} {i : Nat} (h : i < l.length) : idx (ints l) (i : Int) = some ((l[i] : Nat) : Int) := by
  rw [idx_nat]; simp [ints, List.getElem?_eq_getElem h]
theorem all_drop {α : Type} (p : α → Bool) (xs : List α) (i : Nat) (h : i < xs.length) : (xs.drop i).all p = (p xs[i] && (xs.drop (i + 1)).all p) := by
  rw [List.drop_eq_getElem_cons h, List.all_cons]
/-- Does v fit all of l? -/
theorem fits_ok (E : List Pair) (l : List Nat) (v : Nat) (hE : E.length ≤ 1000000) (hl : l.length ≤ 1000000) : Evt (fun n => loopN (ref29_grow_L25 n E (ints l) v) n (true, 0)) (l.all fun u => adjE E u v) := by
  have := Evt.loopR (body := fun n => ref29_grow_L25 n E (ints l) v) (fun s : Bool × Int => ∃ i : Nat, s.2 = i ∧ i ≤ l.length)
    (fun (s : Bool × Int) (r : Bool) => ∀ i : Nat, s.2 = i → r = (s.1 && (l.drop i).all fun u => adjE E u v)) (fun s => l.length - s.2.toNat) ?_ (true, (0 : Int)) ⟨0, rfl, by omega⟩
  · obtain ⟨r, hE', hr⟩ := this
    have e := hr 0 rfl
    simp only [List.drop_zero, Bool.true_and] at e
    subst e; exact hE'
  rintro ⟨t, _⟩ ⟨i, rfl, hi⟩
  unfold ref29_grow_L25
  dsimp only at hi ⊢
  rw [ints_len]
  by_cases h : i < l.length
  · have hd : decide ((i : Int) < (l.length : Int)) = true := by simp; omega
    rw [hd]
    refine .inl ⟨(t && adjE E l[i] v, ((i + 1 : Nat) : Int)), ?_, ⟨i + 1, rfl, h⟩, ?_, fun r hr j e => ?_⟩
    · dsimp only [cond_true]
      refine Evt.bind (a := (t && adjE E l[i] v)) ?_ ?_
      · cases t
        · exact Evt.congr fun n => rfl
        · dsimp only [cond_true]
          refine Evt.bind0 (idx_ints h) ?_
          refine Evt.bind (joined_ok E _ _ hE) ?_
          rw [Bool.true_and]
          exact Evt.pure _
      · rw [succ64 h hl]; exact Evt.pure _
    · simp only [Int.toNat_natCast]; omega
    · obtain rfl : j = i := by omega
      rw [hr _ rfl, all_drop _ l j h, Bool.and_assoc]
  · have hd : decide ((i : Int) < (l.length : Int)) = false := by simp; omega
    rw [hd]
    refine .inr ⟨t, Evt.congr fun n => rfl, fun j e => ?_⟩
    obtain rfl : j = i := by omega
    rw [List.drop_eq_nil_of_le (by omega)]; simp
end Go.Proofs.YtminclnaelbolaaDoor

namespace Go.Proofs.YtminclnaelbolaaDoor
open Go Go.Proofs.YtminclnaelbolaaDoor.Gw
set_option linter.unusedVariables false

theorem ints_inj {a b : List Nat} (h : ints a = ints b) : a = b := by
  have h2 := congrArg (List.map Int.toNat) h
  unfold ints at h2
  have e : (Int.toNat ∘ fun i : Nat => (i : Int)) = id := by funext i; simp
  rw [List.map_map, List.map_map, e, List.map_id, List.map_id] at h2
  exact h2
theorem ints_app (l k : List Nat) : ints (l ++ k) = ints l ++ ints k := by simp [ints]
theorem over_app {adj : Nat → Nat → Bool} {k : Nat} {f : List Nat → List Nat → List Nat} {l : List Nat} (v : Nat) (c b : List Nat) : best.over adj k f l ([v] ++ c) b = best.over adj k f l c (better b (f (l ++ [v]) (c.filter (adj v)))) := rfl
theorem grow_ok (E : List Pair) (N : Nat) (hE : E.length ≤ 1000000) (hN : N ≤ 1000) : ∀ (k : Nat) (l : List Nat) (i : Nat), N - i ≤ k → l.length ≤ 1000 + i → i ≤ N →
    Evt (fun n => ref29_grow n N E (ints l) i) (ints (best (adjE E) (k + 1) l (cand E N l i))) := by
  intro k
  induction k using Nat.strongRecOn with
  | _ k ih =>
    intro l i hk hl hi
    refine Evt.succ ?_
    have happ : app ([] : List Int) (ints l) = some (ints l) := by unfold app; rw [if_pos (by rw [ints_len]; simp; omega)]; rfl
    refine Evt.bind0 happ ?_
    have := Evt.loopR (body := fun n => ref29_grow_L21 n (ref29_grow n) N E (ints l)) (fun s : List Int × Int => ∃ (b : List Nat) (j : Nat), s.1 = ints b ∧ s.2 = j ∧ i ≤ j ∧ j ≤ N)
      (fun (s : List Int × Int) (r : List Int) => ∀ (b : List Nat) (j : Nat), s.1 = ints b → s.2 = j → r = ints (best.over (adjE E) k (best (adjE E) k) l (cand E N l j) b)) (fun s => N - s.2.toNat) ?_ (ints l, (i : Int)) ⟨l, i, rfl, rfl, by omega, hi⟩
    · obtain ⟨r, hE', hr⟩ := this
      have e := hr l i rfl rfl
      subst e
      exact Evt.bind hE' (Evt.pure _)
    rintro ⟨_, _⟩ ⟨b, j, rfl, rfl, hij, hj⟩
    have inj : ∀ (b' : List Nat) (j' : Nat), ints b = ints b' → (j : Int) = j' → b' = b ∧ j' = j := by
      intro b' j' e1 e2
      exact ⟨(ints_inj e1).symm, by omega⟩
    unfold ref29_grow_L21
    dsimp only
    by_cases h : j < N
    · have hd : decide ((j : Int) < (N : Int)) = true := by simp; omega
      rw [hd]
      dsimp only [cond_true]
      have hs := succ64 h (by omega : N ≤ 1000000)
      cases hf : (l.all fun u => adjE E u j)
      · refine .inl ⟨(ints b, ((j + 1 : Nat) : Int)), ?_, ⟨b, j + 1, rfl, rfl, by omega, h⟩, ?_, fun r hr b' j' e1 e2 => ?_⟩
        · refine Evt.bind (a := ints b) ?_ ?_
          · refine Evt.bind ((fits_ok E l j hE (by omega)).eq hf) ?_
            exact Evt.pure _
          · rw [hs]; exact Evt.pure _
        · simp only [Int.toNat_natCast]; omega
        · obtain ⟨rfl, rfl⟩ := inj b' j' e1 e2
          rw [hr _ _ rfl rfl, cand_step h, hf]; rfl
      · obtain ⟨k', rfl⟩ : ∃ q, k = q + 1 := ⟨k - 1, by omega⟩
        have hch := ih k' (by omega) (l ++ [j]) (j + 1) (by omega) (by simp; omega) h
        rw [cand_child] at hch
        generalize hx : best (adjE E) (k' + 1) (l ++ [j]) ((cand E N l (j + 1)).filter (adjE E j)) = x at hch
        refine .inl ⟨(ints (better b x), ((j + 1 : Nat) : Int)), ?_, ⟨_, j + 1, rfl, rfl, by omega, h⟩, ?_, fun r hr b' j' e1 e2 => ?_⟩
        · refine Evt.bind (a := ints (better b x)) ?_ ?_
          · refine Evt.bind ((fits_ok E l j hE (by omega)).eq hf) ?_
            refine Evt.bind0 happ ?_
            refine Evt.bind0 (a := ints (l ++ [j])) (by unfold app; rw [if_pos (by rw [ints_len]; simp; omega), ints_app]; rfl) ?_
            rw [hs]
            refine Evt.bind hch ?_
            rw [ints_len, ints_len]
            by_cases hlt : b.length < x.length
            · rw [show decide ((x.length : Int) > (b.length : Int)) = true by simp; omega, show better b x = x from if_pos hlt]; exact Evt.pure _
            · rw [show decide ((x.length : Int) > (b.length : Int)) = false by simp; omega, show better b x = b from if_neg hlt]; exact Evt.pure _
          · rw [hs]; exact Evt.pure _
        · simp only [Int.toNat_natCast]; omega
        · obtain ⟨rfl, rfl⟩ := inj b' j' e1 e2
          rw [hr _ _ rfl rfl, cand_step h, hf, if_pos rfl, over_app, hx]
    · have hd : decide ((j : Int) < (N : Int)) = false := by simp; omega
      rw [hd]
      refine .inr ⟨ints b, Evt.congr fun n => rfl, fun b' j' e1 e2 => ?_⟩
      obtain ⟨rfl, rfl⟩ := inj b' j' e1 e2
      rw [cand_end (by omega)]; rfl
end Go.Proofs.YtminclnaelbolaaDoor

namespace Go.Proofs.YtminclnaelbolaaDoor
open Go Go.Proofs.YtminclnaelbolaaDoor.Gw
set_option linter.unusedVariables false

/-- A loop that counts up and stops at the first number of which p holds. -/
theorem Evt.scan {ρ : Type} {body : Nat → Int → Option (Out Int ρ)} (m : Nat) (p : Nat → Bool) (X Y : ρ)
    (h1 : ∀ i, i < m → Evt (fun n => body n (i : Int)) (_root_.cond (p i) (.done X) (.go ((i + 1 : Nat) : Int)))) (h2 : Evt (fun n => body n (m : Int)) (.done Y)) :
    Evt (fun n => loopN (body n) n 0) (_root_.cond ((List.range m).any p) X Y) := by
  have := Evt.loopR (body := body) (fun s : Int => ∃ i : Nat, s = i ∧ i ≤ m) (fun (s : Int) (r : ρ) => ∀ i : Nat, s = i → r = _root_.cond ((List.range' i (m - i)).any p) X Y) (fun s => m - s.toNat) ?_ (0 : Int) ⟨0, rfl, by omega⟩
  · obtain ⟨r, hE, hr⟩ := this
    have e := hr 0 rfl
    rw [Nat.sub_zero, ← List.range_eq_range'] at e
    subst e; exact hE
  rintro _ ⟨i, rfl, hi⟩
  by_cases h : i < m
  · have h3 := h1 i h
    have hr' : List.range' i (m - i) = i :: List.range' (i + 1) (m - (i + 1)) := by rw [show m - i = (m - (i + 1)) + 1 by omega, List.range'_succ]
    cases hp : p i
    · rw [hp] at h3
      refine .inl ⟨_, h3, ⟨i + 1, rfl, h⟩, ?_, fun r hr j e => ?_⟩
      · simp only [Int.toNat_natCast]; omega
      · obtain rfl : j = i := by omega
        rw [hr _ rfl, hr', List.any_cons, hp, Bool.false_or]
    · rw [hp] at h3
      refine .inr ⟨X, h3, fun j e => ?_⟩
      obtain rfl : j = i := by omega
      rw [hr', List.any_cons, hp]; rfl
  · obtain rfl : i = m := by omega
    refine .inr ⟨Y, h2, fun j e => ?_⟩
    obtain rfl : j = i := by omega
    rw [Nat.sub_self]; rfl

/- ### Valid graphs -/
/-- Is the edge at i wrong by itself? -/
def bad1 (N : Int) (p : Pair) : Bool := decide (p.A < 0) || (decide (p.A ≥ p.B) || decide (p.B ≥ N))
/-- Does p not come behind q? -/
def bad2 (q p : Pair) : Bool := decide (p.A < q.A) || (p.A == q.A && decide (p.B ≤ q.B))
def badAt (N : Int) (E : List Pair) (i : Nat) : Bool := ((E[i]?).map (bad1 N)).getD false || (decide (0 < i) && ((E[i - 1]?).bind fun q => (E[i]?).map (bad2 q)).getD false)
def valid (N : Int) (E : List Pair) : Bool := (decide (0 ≤ N) && decide (N ≤ 20)) && !(List.range E.length).any (badAt N E)
theorem badAt_lt {N : Int} {E : List Pair} {i : Nat} (h : i < E.length) : badAt N E i = (bad1 N E[i] || (decide (0 < i) && bad2 E[i - 1] E[i])) := by
  unfold badAt
  rw [List.getElem?_eq_getElem h, List.getElem?_eq_getElem (by omega : i - 1 < E.length)]
  rfl
theorem pred64 {i : Nat} {m : Nat} (h : i < m) (hm : m ≤ 1000000) (h0 : 0 < i) : IntKind.i64.wrap ((i : Int) - 1) = ((i - 1 : Nat) : Int) := by rw [wrap64 (by omega)]; omega
theorem valid_ok (N : Int) (E : List Pair) (hE : E.length ≤ 1000000) : Evt (fun n => ref29_Valid n N E) (valid N E) := by
  unfold ref29_Valid valid
  dsimp only
  by_cases hN : 0 ≤ N ∧ N ≤ 20
  · obtain ⟨hn0, hn1⟩ := hN
    refine Evt.bind0 (a := false) (by rw [show decide (N < 0) = false by simp; omega, show decide (N > 20) = false by simp; omega]; rfl) ?_
    have hb : (decide (0 ≤ N) && decide (N ≤ 20)) = true := by simp [hn0, hn1]
    rw [hb, Bool.true_and]
    dsimp only [cond_false]
    refine Evt.bind (Evt.scan (body := fun n => ref29_Valid_L1 N E) E.length (badAt N E) (.done false) (.go ()) (fun i hi => ?_) ?_) ?_
    · unfold ref29_Valid_L1
      refine Evt.congr fun n => ?_
      dsimp only
      have hd : decide ((i : Int) < (E.length : Int)) = true := by simp; omega
      rw [hd, cond_true, idx_get hi, badAt_lt hi, succ64 hi hE]
      generalize hp : E[i] = p
      simp only [Option.bind_some, bad1]
      cases decide (p.A < 0) <;> cases decide (p.A ≥ p.B) <;> cases decide (p.B ≥ N) <;> try rfl
      simp only [cond_false, Option.bind_some, Bool.or_self, Bool.false_or]
      by_cases h0 : 0 < i
      · have hd2 : decide ((i : Int) > 0) = true := by simp; omega
        rw [hd2, cond_true, pred64 hi hE h0, idx_get (by omega : i - 1 < E.length)]
        generalize E[i - 1] = q
        simp only [Option.bind_some, bad2, h0, decide_true, Bool.true_and]
        cases decide (p.A < q.A) <;> cases (p.A == q.A) <;> cases decide (p.B ≤ q.B) <;> rfl
      · have hd2 : decide ((i : Int) > 0) = false := by simp; omega
        rw [hd2, cond_false]
        simp only [h0, decide_false, Bool.false_and, Option.bind_some]
        rfl
    · unfold ref29_Valid_L1
      refine Evt.congr fun n => ?_
      simp
    · cases (List.range E.length).any (badAt N E)
      · exact Evt.pure _
      · exact Evt.pure _
  · refine Evt.bind0 (a := true) ?_ ?_
    · by_cases h : N < 0
      · simp [h]
      · have : N > 20 := by omega
        simp [h, this]
    · dsimp only [cond_true]
      have : (decide (0 ≤ N) && decide (N ≤ 20)) = false := by
        by_cases h : 0 ≤ N
        · have : ¬ N ≤ 20 := fun h2 => hN ⟨h, h2⟩
          simp [this]
        · simp [h]
      rw [this]; exact Evt.pure _
end Go.Proofs.YtminclnaelbolaaDoor

namespace Go.Proofs.YtminclnaelbolaaDoor
open Go Go.Proofs.YtminclnaelbolaaDoor.Gw
set_option linter.unusedVariables false

/- ### The masks of a graph -/
def pj (v w : Nat) (p : Pair) : Bool := (p.A == v && p.B == w) || (p.A == w && p.B == v)
theorem rows_set {g : List Int} {am : Nat → Nat} (h : rowsOk g am) {a x : Nat} (ha : a < g.length) (hx : x < 4294967296) : rowsOk (upd g (a : Int) (x : Int)) (fun v => if v = a then x else am v) := by
  intro v hv
  have hv' : v < g.length := by simpa [upd] using hv
  unfold upd
  by_cases e : v = a
  · subst e
    simp only [if_pos]
    refine ⟨?_, hx⟩
    rw [Int.toNat_natCast, List.getElem?_set_self ha]
  · simp only [if_neg e]
    refine ⟨?_, (h v hv').2⟩
    rw [Int.toNat_natCast, List.getElem?_set_ne (fun e' => e e'.symm)]
    exact (h v hv').1
theorem upd_len (g : List Int) (i x : Int) : (upd g i x).length = g.length := by simp [upd]
structure Good (g : List Int) (am : Nat → Nat) (N : Nat) (F : List Pair) : Prop where
  rows : rowsOk g am
  len : g.length = N
  bits : ∀ v w, v < N → (am v).testBit w = F.any (pj v w)
theorem Good.add {g : List Int} {am : Nat → Nat} {N : Nat} {F : List Pair} (h : Good g am N F) (hN : N ≤ 20) {a b : Nat} (hab : a < b) (hb : b < N) :
    idx g (a : Int) = some (am a : Int) ∧ idx (upd g (a : Int) (ib .or .u32 (am a : Int) (IntKind.u32.wrap ((1 : Int) * 2 ^ min (b : Int).toNat (IntKind.u32).bits)))) (b : Int) = some (am b : Int) ∧
    ∃ am', Good (upd (upd g (a : Int) (ib .or .u32 (am a : Int) (IntKind.u32.wrap ((1 : Int) * 2 ^ min (b : Int).toNat (IntKind.u32).bits)))) (b : Int) (ib .or .u32 (am b : Int) (IntKind.u32.wrap ((1 : Int) * 2 ^ min (a : Int).toNat (IntKind.u32).bits)))) am' N (F ++ [⟨a, b⟩]) := by
  have la : a < g.length := by rw [h.len]; omega
  have lb : b < g.length := by rw [h.len]; omega
  obtain ⟨ga, ha32⟩ := h.rows a la
  obtain ⟨gb, hb32⟩ := h.rows b lb
  rw [shl1 (by omega : b < 32), shl1 (by omega : a < 32), ib_or ha32 (two_pow_lt (by omega)), ib_or hb32 (two_pow_lt (by omega))]
  have r1 := rows_set h.rows la (or_lt ha32 (two_pow_lt (by omega : b < 32)))
  have r2 := rows_set r1 (a := b) (by rw [upd_len]; exact lb) (or_lt hb32 (two_pow_lt (by omega : a < 32)))
  refine ⟨by rw [idx_nat]; exact ga, ?_, _, r2, by rw [upd_len, upd_len]; exact h.len, fun v w hv => ?_⟩
  · rw [idx_nat, (r1 b (by rw [upd_len]; exact lb)).1]
    dsimp only
    rw [if_neg (by omega)]
  · rw [List.any_append, ← h.bits v w hv]
    simp only [List.any_cons, List.any_nil, Bool.or_false, pj]
    by_cases e1 : v = b
    · subst e1
      rw [if_pos rfl, Nat.testBit_or, Nat.testBit_two_pow]
      have e3 : ((a : Int) == (v : Int)) = false := by simp; omega
      have e4 : ((v : Int) == (v : Int)) = true := by simp
      have e5 : ((a : Int) == (w : Int)) = decide (a = w) := by rw [Bool.eq_iff_iff]; simp; omega
      rw [e3, e4, e5, Bool.false_and, Bool.false_or, Bool.and_true]
    · rw [if_neg e1]
      have hvb : ((b : Int) == (v : Int)) = false := by simp; omega
      rw [hvb, Bool.and_false, Bool.or_false]
      by_cases e2 : v = a
      · subst e2
        rw [if_pos rfl, Nat.testBit_or, Nat.testBit_two_pow]
        have e4 : ((v : Int) == (v : Int)) = true := by simp
        have e5 : ((b : Int) == (w : Int)) = decide (b = w) := by rw [Bool.eq_iff_iff]; simp; omega
        rw [e4, e5, Bool.true_and]
      · rw [if_neg e2]
        have : ((a : Int) == (v : Int)) = false := by simp; omega
        rw [this, Bool.false_and, Bool.or_false]
theorem Good.start (N : Nat) : Good (List.replicate N 0) (fun _ => 0) N [] :=
  ⟨fun v hv => ⟨by simp at hv; simp [hv], by omega⟩, by simp, fun v w _ => by simp⟩
theorem ok_edge {N : Int} {p : Pair} (h : bad1 N p = false) : ∃ a b : Nat, p = ⟨a, b⟩ ∧ a < b ∧ (b : Int) < N := by
  obtain ⟨A, B⟩ := p
  simp only [bad1, Bool.or_eq_false_iff, decide_eq_false_iff_not] at h
  exact ⟨A.toNat, B.toNat, by congr 1 <;> omega, by omega, by omega⟩
theorem build_ok (N : Nat) (E : List Pair) (hN : N ≤ 20) (hE : E.length ≤ 1000000) :
    ∃ r, Evt (fun n => clique_build n N E) r ∧ ((List.range E.length).any (badAt N E) = true → r = ([], false)) ∧ ((List.range E.length).any (badAt N E) = false → ∃ g am, r = (g, true) ∧ Good g am N E) := by
  have := Evt.loopR (body := fun n => clique_build_L1 N E) (fun s : List Int × Int => ∃ (am : Nat → Nat) (i : Nat), s.2 = i ∧ i ≤ E.length ∧ Good s.1 am N (E.take i))
    (fun (s : List Int × Int) (r : Out (List Int) (List Int × Bool)) => ∀ i : Nat, s.2 = i → ((List.range' i (E.length - i)).any (badAt N E) = true → r = .done ([], false)) ∧ ((List.range' i (E.length - i)).any (badAt N E) = false → ∃ g am, r = .go g ∧ Good g am N E))
    (fun s => E.length - s.2.toNat) ?_ (List.replicate N 0, (0 : Int)) ⟨_, 0, rfl, by omega, Good.start N⟩
  · obtain ⟨r, hE', hr⟩ := this
    obtain ⟨h1, h2⟩ := hr 0 rfl
    rw [Nat.sub_zero, ← List.range_eq_range'] at h1 h2
    have hmk : mk (N : Int) (0 : Int) = some (List.replicate N 0) := by unfold mk; rw [if_pos (by omega)]; simp
    have hd : cond (decide ((N : Int) < 0)) (some true) (some (decide ((N : Int) > 20))) = some false := by
      rw [show decide ((N : Int) < 0) = false by simp, show decide ((N : Int) > 20) = false by simp; omega]; rfl
    cases hb : (List.range E.length).any (badAt N E)
    · obtain ⟨g, am, rfl, hG⟩ := h2 hb
      refine ⟨(g, true), ?_, (fun h => by cases h), fun _ => ⟨g, am, rfl, hG⟩⟩
      unfold clique_build
      dsimp only
      refine Evt.bind0 hd ?_
      refine Evt.bind0 hmk ?_
      exact Evt.bind hE' (Evt.pure _)
    · have := h1 hb
      subst this
      refine ⟨([], false), ?_, fun _ => rfl, (fun h => by cases h)⟩
      unfold clique_build
      dsimp only
      refine Evt.bind0 hd ?_
      refine Evt.bind0 hmk ?_
      exact Evt.bind hE' (Evt.pure _)
  rintro ⟨g, _⟩ ⟨am, i, rfl, hi, hG⟩
  unfold clique_build_L1
  dsimp only at hi hG ⊢
  by_cases h : i < E.length
  · have hd : decide ((i : Int) < (E.length : Int)) = true := by simp; omega
    have hr' : List.range' i (E.length - i) = i :: List.range' (i + 1) (E.length - (i + 1)) := by rw [show E.length - i = (E.length - (i + 1)) + 1 by omega, List.range'_succ]
    rw [hd, idx_get h, succ64 h hE]
    have hbd := badAt_lt (N := N) h
    have htk : E.take (i + 1) = E.take i ++ [E[i]] := by rw [List.take_succ_eq_append_getElem h]
    generalize hp : E[i] = p at *
    have c1 : ∀ n : Nat, (cond (decide (p.A < 0)) (some true) (cond (decide (p.A ≥ p.B)) (some true) (some (decide (p.B ≥ (N : Int))))) : Option Bool) = some (bad1 N p) := by
      intro n; unfold bad1
      cases decide (p.A < 0) <;> cases decide (p.A ≥ p.B) <;> cases decide (p.B ≥ (N : Int)) <;> rfl
    have c2 : (cond (decide ((i : Int) > 0)) ((idx E (IntKind.i64.wrap ((i : Int) - 1))).bind fun x622 => cond (decide (x622.A > p.A)) (some (true)) ((idx E (IntKind.i64.wrap ((i : Int) - 1))).bind fun x629 => cond (x629.A == p.A) ((idx E (IntKind.i64.wrap ((i : Int) - 1))).bind fun x635 =>
        some ((decide (x635.B ≥ p.B)))) (some (false)))) (some (false)) : Option Bool) = some (decide (0 < i) && bad2 E[i - 1] p) := by
      by_cases h0 : 0 < i
      · rw [show decide ((i : Int) > 0) = true by simp; omega, pred64 h hE h0, idx_get (by omega : i - 1 < E.length)]
        generalize E[i - 1] = q
        simp only [Option.bind_some, bad2, h0, decide_true, Bool.true_and, cond_true]
        have e1 : decide (q.A > p.A) = decide (p.A < q.A) := rfl
        have e2 : (q.A == p.A) = (p.A == q.A) := by rw [Bool.eq_iff_iff]; simp; omega
        have e3 : decide (q.B ≥ p.B) = decide (p.B ≤ q.B) := rfl
        rw [e1, e2, e3]
        cases decide (p.A < q.A) <;> cases (p.A == q.A) <;> cases decide (p.B ≤ q.B) <;> rfl
      · rw [show decide ((i : Int) > 0) = false by simp; omega]
        simp [h0]
    rw [Option.bind_some]
    cases hb : badAt N E i
    · have hb' := hb
      rw [hbd, Bool.or_eq_false_iff] at hb
      obtain ⟨a, b, hpe, hab, hbN⟩ := ok_edge hb.1
      subst hpe
      obtain ⟨e1, e2, am', hG'⟩ := hG.add hN hab (by omega : b < N)
      refine .inl ⟨(upd (upd g (a : Int) (ib .or .u32 (am a : Int) (IntKind.u32.wrap ((1 : Int) * 2 ^ min (b : Int).toNat (IntKind.u32).bits)))) (b : Int) (ib .or .u32 (am b : Int) (IntKind.u32.wrap ((1 : Int) * 2 ^ min (a : Int).toNat (IntKind.u32).bits))), ((i + 1 : Nat) : Int)), ?_, ⟨am', i + 1, rfl, h, by rw [htk]; exact hG'⟩, ?_, fun r hr j e => ?_⟩
      · refine Evt.congr fun n => ?_
        dsimp only [cond_true]
        rw [c1 n, Option.bind_some, hb.1, cond_false, c2, hb.2, Option.bind_some, cond_false, e1, Option.bind_some, need_t (by simp), Option.bind_some, Option.bind_some, e2, Option.bind_some, need_t (by simp), Option.bind_some, Option.bind_some]
      · simp only [Int.toNat_natCast]; omega
      · obtain rfl : j = i := by omega
        rw [hr', List.any_cons, hb', Bool.false_or]
        exact hr _ rfl
    · refine .inr ⟨.done ([], false), ?_, fun j e => ?_⟩
      · refine Evt.congr fun n => ?_
        dsimp only [cond_true]
        rw [c1 n, Option.bind_some]
        rw [hbd, Bool.or_eq_true] at hb
        cases h1 : bad1 N p
        · rw [h1] at hb
          have hb2 : (decide (0 < i) && bad2 E[i - 1] p) = true := by simpa using hb
          rw [cond_false, c2, hb2, Option.bind_some]; rfl
        · rfl
      · obtain rfl : j = i := by omega
        rw [hr', List.any_cons, hb]
        exact ⟨fun _ => rfl, fun h => by simp at h⟩
  · obtain rfl : i = E.length := by omega
    have hd : decide ((E.length : Int) < (E.length : Int)) = false := by simp
    rw [hd]
    refine .inr ⟨.go g, Evt.congr fun n => rfl, fun j e => ?_⟩
    obtain rfl : j = E.length := by omega
    rw [Nat.sub_self]
    refine ⟨fun h => by simp at h, fun _ => ⟨g, am, rfl, ?_⟩⟩
    rw [List.take_length] at hG
    exact hG
end Go.Proofs.YtminclnaelbolaaDoor

namespace Go.Proofs.YtminclnaelbolaaDoor
open Go Go.Proofs.YtminclnaelbolaaDoor.Gw
set_option linter.unusedVariables false

theorem build_any (N : Int) (E : List Pair) (hE : E.length ≤ 1000000) :
    ∃ r, Evt (fun n => clique_build n N E) r ∧ (valid N E = false → r = ([], false)) ∧ (valid N E = true → 0 ≤ N ∧ N ≤ 20 ∧ ∃ g am, r = (g, true) ∧ Good g am N.toNat E) := by
  by_cases hN : 0 ≤ N ∧ N ≤ 20
  · obtain ⟨M, rfl⟩ : ∃ M : Nat, N = M := ⟨N.toNat, by omega⟩
    obtain ⟨r, h1, h2, h3⟩ := build_ok M E (by omega) hE
    have hb : (decide (0 ≤ (M : Int)) && decide ((M : Int) ≤ 20)) = true := by simp; omega
    have hv : valid (M : Int) E = !(List.range E.length).any (badAt M E) := by unfold valid; rw [hb, Bool.true_and]
    refine ⟨r, h1, fun h => h2 ?_, fun h => ⟨by omega, by omega, ?_⟩⟩
    · rw [hv] at h; simpa using h
    · rw [hv] at h
      rw [Int.toNat_natCast]
      exact h3 (by simpa using h)
  · have hv : valid N E = false := by
      unfold valid
      have : (decide (0 ≤ N) && decide (N ≤ 20)) = false := by
        rw [Bool.and_eq_false_iff]
        by_cases h : 0 ≤ N
        · exact .inr (by simp; omega)
        · exact .inl (by simp; omega)
      rw [this, Bool.false_and]
    refine ⟨([], false), ?_, fun _ => rfl, fun h => by rw [hv] at h; cases h⟩
    unfold clique_build
    dsimp only
    refine Evt.bind0 (a := true) ?_ (Evt.pure _)
    by_cases h : N < 0
    · rw [show decide (N < 0) = true by simp; omega]; rfl
    · rw [show decide (N < 0) = false by simp; omega, show decide (N > 20) = true by simp; omega]; rfl
theorem best_congr {a b : Nat → Nat → Bool} (M : Nat) (h : ∀ v w, v < M → w < M → a v w = b v w) : ∀ (k : Nat) (l c : List Nat), (∀ v ∈ c, v < M) → best a k l c = best b k l c
  | 0, l, c, _ => rfl
  | k + 1, l, c, hc => by
    have key : ∀ (c x : List Nat), (∀ v ∈ c, v < M) → best.over a k (best a k) l c x = best.over b k (best b k) l c x := by
      intro c
      induction c with
      | nil => intro x _; rfl
      | cons v c ih =>
        intro x hc
        have hv := hc v (by simp)
        have hc' : ∀ w ∈ c, w < M := fun w hw => hc w (by simp [hw])
        have hf : c.filter (a v) = c.filter (b v) := List.filter_congr fun w hw => h v w hv (hc' w hw)
        simp only [best.over]
        rw [hf, best_congr M h k (l ++ [v]) (c.filter (b v)) fun w hw => hc' w (List.mem_filter.1 hw).1]
        exact ih _ hc'
    exact key c l hc
theorem valid_edge {N : Int} {E : List Pair} (h : valid N E = true) : ∀ p ∈ E, 0 ≤ p.A ∧ p.A < p.B ∧ p.B < N := by
  intro p hp
  obtain ⟨i, hi, rfl⟩ := List.getElem_of_mem hp
  unfold valid at h
  rw [Bool.and_eq_true, Bool.not_eq_true'] at h
  have := h.2
  rw [List.any_eq_false] at this
  have h2 := this i (by simpa using hi)
  rw [badAt_lt hi] at h2
  simp [bad1] at h2
  omega
/-- Of edges that go up, both ways of saying that two vertices are joined agree. -/
theorem pj_joined {E : List Pair} (h : ∀ p ∈ E, p.A < p.B) (v w : Nat) : E.any (pj v w) = adjE E v w := by
  unfold adjE joined
  induction E with
  | nil => rfl
  | cons p E ih =>
    rw [List.any_cons, List.any_cons, ih fun q hq => h q (by simp [hq])]
    congr 1
    have hp := h p (by simp)
    unfold pj
    rw [Bool.eq_iff_iff]
    simp only [Bool.or_eq_true, Bool.and_eq_true, beq_iff_eq]
    by_cases h1 : (w : Int) < v
    · rw [if_pos h1, if_neg (by omega)]
      constructor
      · rintro (⟨e1, e2⟩ | ⟨e1, e2⟩) <;> omega
      · rintro ⟨e1, e2⟩; exact .inr ⟨e1, e2⟩
    · rw [if_neg h1]
      by_cases h2 : (w : Int) > v
      · rw [if_pos h2]
        constructor
        · rintro (⟨e1, e2⟩ | ⟨e1, e2⟩) <;> omega
        · rintro ⟨e1, e2⟩; exact .inl ⟨e1, e2⟩
      · rw [if_neg h2]
        constructor
        · rintro (⟨e1, e2⟩ | ⟨e1, e2⟩) <;> omega
        · rintro ⟨e1, e2⟩; omega
/-- The largest clique. -/
def maxL (N : Int) (E : List Pair) : List Nat := best (adjE E) (N.toNat + 1) [] (List.range N.toNat)
theorem better_nil (x : List Nat) : better [] x = x := by
  unfold better
  split
  · rfl
  · rename_i h; exact (List.length_eq_zero_iff.1 (by simp at h; exact by simp [h])).symm
theorem bl_full {M : Nat} (h : M ≤ 20) : bl (2 ^ M - 1) = List.range M := by
  apply sorted_ext (bl_sorted _) List.pairwise_lt_range
  intro i
  rw [mem_bl, Nat.testBit_two_pow_sub_one]
  simp; omega
theorem Max_ok (N : Int) (E : List Pair) (hE : E.length ≤ 1000000) : Evt (fun n => clique_Max n N E) (if valid N E then (ints (maxL N E), 0) else ([], 1)) := by
  obtain ⟨r, h1, h2, h3⟩ := build_any N E hE
  unfold clique_Max
  dsimp only
  refine Evt.bind h1 ?_
  cases hv : valid N E
  · rw [h2 hv]
    exact Evt.pure _
  · obtain ⟨hn0, hn1, g, am, rfl, hG⟩ := h3 hv
    obtain ⟨M, rfl⟩ : ∃ M : Nat, N = M := ⟨N.toNat, by omega⟩
    rw [Int.toNat_natCast] at hG
    have hM : M ≤ 20 := by omega
    have hp : 2 ^ M < 4294967296 := two_pow_lt (by omega)
    have hp0 : 0 < 2 ^ M := Nat.pow_pos (by omega)
    have hfull : IntKind.u32.wrap ((IntKind.u32.wrap ((1 : Int) * 2 ^ min (M : Int).toNat (IntKind.u32).bits)) - 1) = ((2 ^ M - 1 : Nat) : Int) := by
      rw [shl1 (by omega), wrap32 (by omega)]; omega
    obtain ⟨s, hs, hs32, hsb⟩ := search_ok g am hG.rows (by rw [hG.len]; omega) M 0 (2 ^ M - 1) 0 (by rw [bl_full hM]; simp) (by omega) (by omega) (by omega)
      (fun i hi => by rw [bl_full hM] at hi; rw [hG.len]; simpa using hi) (fun i hi => by rw [bl_zero] at hi; simp at hi)
    rw [bl_zero, better_nil, bl_full hM] at hsb
    have hcg : best (fun v => (am v).testBit) (M + 1) [] (List.range M) = maxL M E := by
      unfold maxL
      rw [Int.toNat_natCast]
      refine best_congr M (fun v w hv' hw => ?_) _ _ _ (fun v hv' => by simpa using hv')
      rw [hG.bits v w hv', pj_joined fun p hp => (valid_edge hv p hp).2.1]
    rw [hcg] at hsb
    rw [if_pos rfl]
    refine Evt.cond (fun h => by cases h) fun _ => ?_
    refine Evt.bind0 (a := ()) (need_t (c := decide (0 ≤ (M : Int))) (by simp)) ?_
    rw [hfull]
    refine Evt.bind hs ?_
    have hl := list_ok hs32
    rw [hsb] at hl
    exact Evt.bind hl (Evt.pure _)
theorem refMax_ok (N : Int) (E : List Pair) (hE : E.length ≤ 1000000) : Evt (fun n => ref29_Max n N E) (if valid N E then (ints (maxL N E), 0) else ([], 1)) := by
  unfold ref29_Max
  dsimp only
  refine Evt.bind (valid_ok N E hE) ?_
  cases hv : valid N E
  · exact Evt.pure _
  · have hv' := hv
    unfold valid at hv'
    rw [Bool.and_eq_true, Bool.and_eq_true] at hv'
    have h1 := of_decide_eq_true hv'.1.1
    have h2 := of_decide_eq_true hv'.1.2
    obtain ⟨M, rfl⟩ : ∃ M : Nat, N = M := ⟨N.toNat, by omega⟩
    have hg := grow_ok E M hE (by omega) M [] 0 (by omega) (by simp) (by omega)
    have hc : cand E M [] 0 = List.range M := by
      unfold cand
      rw [Nat.sub_zero, ← List.range_eq_range']
      simp
    rw [hc] at hg
    rw [if_pos rfl]
    refine Evt.cond (fun h => by cases h) fun _ => ?_
    exact Evt.bind hg (Evt.pure _)
end Go.Proofs.YtminclnaelbolaaDoor

namespace Go.Proofs.YtminclnaelbolaaDoor
open Go Go.Proofs.YtminclnaelbolaaDoor.Gw
set_option linter.unusedVariables false

theorem Ints_refl (l : List Int) (h : l.length ≤ 1000000) : Evt (fun n => base_Ints n l l) true := by
  unfold base_Ints
  dsimp only
  refine Evt.cond (fun e => by simp at e) fun _ => ?_
  have := Evt.scan (body := fun n => base_Ints_L1 l l) (ρ := Out Unit Bool) l.length (fun _ => false) (.done false) (.go ()) (fun i hi => ?_) ?_
  · have e : (List.range l.length).any (fun _ => false) = false := by simp
    rw [e] at this
    exact Evt.bind this (Evt.pure _)
  · refine Evt.congr fun n => ?_
    unfold base_Ints_L1
    dsimp only
    rw [show decide ((i : Int) < (l.length : Int)) = true by simp; omega, idx_get hi, succ64 hi h]
    simp
  · refine Evt.congr fun n => ?_
    unfold base_Ints_L1
    simp
def few (N : Int) (E : List Pair) : Bool := decide ((E.length : Int) ≤ 70) && (decide (N ≤ 11) || decide ((E.length : Int) ≤ 30))
theorem few_ok (N : Int) (E : List Pair) (n : Nat) : law29_few n ⟨N, E⟩ = some (few N E) := by
  unfold law29_few few
  dsimp only
  cases decide ((E.length : Int) ≤ 70) <;> cases decide (N ≤ 11) <;> cases decide ((E.length : Int) ≤ 30) <;> rfl
theorem few_len {N : Int} {E : List Pair} (h : few N E = true) : E.length ≤ 70 := by
  unfold few at h
  rw [Bool.and_eq_true] at h
  have := of_decide_eq_true h.1
  omega
theorem maxL_len (N : Int) (E : List Pair) : (maxL N E).length ≤ N.toNat := by
  have := best_le (adj := adjE E) (N.toNat + 1) [] (List.range N.toNat)
  simpa [maxL] using this
theorem law_CliqueMax (g : Graph) (hg : okGraph g) : Evt (fun n => law29_CliqueMax n g) true := by
  obtain ⟨N, E⟩ := g
  unfold law29_CliqueMax
  dsimp only
  refine Evt.bind (a := !few N E) ?_ ?_
  · refine Evt.bind awake_ok ?_
    refine Evt.cond (fun h => by cases h) fun _ => ?_
    exact Evt.bind (Evt.congr fun n => few_ok N E n) (Evt.pure _)
  · refine Evt.cond (fun _ => Evt.bind awake_ok (Evt.pure _)) fun hf => ?_
    have hfew : few N E = true := by simpa using hf
    have hE : E.length ≤ 1000000 := Nat.le_trans (few_len hfew) (by omega)
    refine Evt.bind (Max_ok N E hE) ?_
    refine Evt.bind (refMax_ok N E hE) ?_
    cases hv : valid N E
    · exact Evt.bind (Evt.bind (Ints_refl [] (by simp)) (Evt.pure _)) (Evt.pure _)
    · have hN : N ≤ 20 := by
        unfold valid at hv
        rw [Bool.and_eq_true, Bool.and_eq_true] at hv
        exact of_decide_eq_true hv.1.2
      have hl := maxL_len N E
      exact Evt.bind (Evt.bind (Ints_refl (ints (maxL N E)) (by rw [ints_len]; omega)) (Evt.pure _)) (Evt.pure _)
end Go.Proofs.YtminclnaelbolaaDoor
