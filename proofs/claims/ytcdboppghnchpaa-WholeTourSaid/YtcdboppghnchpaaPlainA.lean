/-
  Plain laws on the plain functions.
-/
import Derived.Test.YtcdboppghnchpaaDataA
import Derived.Test.YtcdboppghnchpaaWalkA
namespace Go.Proofs.Ytcdboppghnchpaa
open Go Go.Proofs.Ytcdboppghnchpaa.Gw
set_option linter.unusedVariables false

/- ### Plans and their cells -/
instance : DecidableEq Cell := fun a b => if h : a.X = b.X ∧ a.Y = b.Y then isTrue (by cases a; cases b; cases h.1; cases h.2; rfl) else isFalse (fun e => h (by cases e; exact ⟨rfl, rfl⟩))
theorem cell_ext {a b : Cell} (h1 : a.X = b.X) (h2 : a.Y = b.Y) : a = b := by cases a; cases b; cases h1; cases h2; rfl
structure Ok (p : Plan) : Prop where
  w1 : 1 ≤ p.W
  w2 : p.W ≤ 64
  h1 : 1 ≤ p.H
  h2 : p.H ≤ 64
  len : (p.Cells.length : Int) = p.W * p.H
  vals : ∀ x ∈ p.Cells, x ≤ 2
instance (p : Plan) : Decidable (Ok p) := if h : 1 ≤ p.W ∧ p.W ≤ 64 ∧ 1 ≤ p.H ∧ p.H ≤ 64 ∧ (p.Cells.length : Int) = p.W * p.H ∧ ∀ x ∈ p.Cells, x ≤ 2 then isTrue ⟨h.1, h.2.1, h.2.2.1, h.2.2.2.1, h.2.2.2.2.1, h.2.2.2.2.2⟩ else isFalse (fun k => h ⟨k.w1, k.w2, k.h1, k.h2, k.len, k.vals⟩)
theorem mul_bound {a b A B : Int} (h1 : 0 ≤ a) (h2 : a ≤ A) (h3 : 0 ≤ b) (h4 : b ≤ B) : 0 ≤ a * b ∧ a * b ≤ A * B :=
  ⟨Int.mul_nonneg h1 h3, Int.le_trans (Int.mul_le_mul_of_nonneg_right h2 h3) (Int.mul_le_mul_of_nonneg_left h4 (Int.le_trans h1 h2))⟩
theorem Ok.small {p : Plan} (h : Ok p) : 1 ≤ p.Cells.length ∧ p.Cells.length ≤ 4096 := by
  have h1 := mul_bound (by have := h.w1; omega) h.w2 (by have := h.h1; omega) h.h2
  have h2 : 1 * 1 ≤ p.W * p.H := Int.mul_le_mul h.w1 h.h1 (by omega) (by have := h.w1; omega)
  have := h.len
  omega
/-- A cell is in a plan. -/
def Ins (p : Plan) (c : Cell) : Prop := 0 ≤ c.X ∧ c.X < p.W ∧ 0 ≤ c.Y ∧ c.Y < p.H
instance (p : Plan) (c : Cell) : Decidable (Ins p c) := by unfold Ins; infer_instance
/-- Its number. -/
def ix (p : Plan) (c : Cell) : Nat := (c.Y * p.W + c.X).toNat
theorem ix_lin {p : Plan} (h : Ok p) {c : Cell} (hc : Ins p c) : 0 ≤ c.Y * p.W ∧ c.Y * p.W + c.X < p.Cells.length ∧ c.Y * p.W ≤ 4096 := by
  obtain ⟨h1, h2, h3, h4⟩ := hc
  have hw := h.w1
  have a1 : 0 ≤ c.Y * p.W := Int.mul_nonneg h3 (by omega)
  have a2 : (c.Y + 1) * p.W ≤ p.H * p.W := Int.mul_le_mul_of_nonneg_right (by omega) (by omega)
  rw [Int.add_mul, Int.one_mul, Int.mul_comm p.H, ← h.len] at a2
  have := h.small
  refine ⟨a1, by omega, by omega⟩
theorem ix_cast {p : Plan} (h : Ok p) {c : Cell} (hc : Ins p c) : ((ix p c : Nat) : Int) = c.Y * p.W + c.X := by
  have := ix_lin h hc
  have := hc.1
  unfold ix; omega
theorem ix_lt {p : Plan} (h : Ok p) {c : Cell} (hc : Ins p c) : ix p c < p.Cells.length := by
  have := ix_lin h hc; have := ix_cast h hc; omega
theorem ix_wrap {p : Plan} (h : Ok p) {c : Cell} (hc : Ins p c) : IntKind.i64.wrap (IntKind.i64.wrap (c.Y * p.W) + c.X) = (ix p c : Int) := by
  have := ix_lin h hc; have h0 := h.small; have h1 := hc.1; have h2 := hc.2.1; have h3 := h.w2
  rw [w64 (x := c.Y * p.W) (by omega) (by omega), w64 (by omega) (by omega), ix_cast h hc]
theorem ix_inj {p : Plan} (h : Ok p) {c d : Cell} (hc : Ins p c) (hd : Ins p d) (e : ix p c = ix p d) : c = d := by
  have h1 := ix_cast h hc; have h2 := ix_cast h hd
  have hw := h.w1
  have key : ∀ (y x : Int), 0 ≤ x → x < p.W → (y * p.W + x) / p.W = y := fun y x h0 h1 => by
    rw [Int.add_comm, Int.add_mul_ediv_right _ _ (by omega), Int.ediv_eq_zero_of_lt h0 h1, Int.zero_add]
  have e2 : c.Y * p.W + c.X = d.Y * p.W + d.X := by omega
  have ey : c.Y = d.Y := by rw [← key c.Y c.X hc.1 hc.2.1, ← key d.Y d.X hd.1 hd.2.1, e2]
  rw [ey] at e2
  exact cell_ext (by omega) ey
/-- Each number is one of a cell. -/
theorem ix_surj {p : Plan} (h : Ok p) {i : Nat} (hi : i < p.Cells.length) : ∃ c, Ins p c ∧ ix p c = i := by
  have hw := h.w1
  have hh := h.len
  have hc : Ins p ⟨(i : Int) % p.W, (i : Int) / p.W⟩ := by
    refine ⟨Int.emod_nonneg _ (by omega), Int.emod_lt_of_pos _ (by omega), Int.ediv_nonneg (by omega) (by omega), ?_⟩
    refine Int.ediv_lt_of_lt_mul (by omega) ?_
    rw [Int.mul_comm]; omega
  refine ⟨_, hc, ?_⟩
  have h1 := ix_cast h hc
  have h2 : (i : Int) / p.W * p.W + (i : Int) % p.W = i := Int.mul_comm .. ▸ Int.mul_ediv_add_emod _ _
  have h3 : ((ix p ⟨(i : Int) % p.W, (i : Int) / p.W⟩ : Nat) : Int) = i := h1.trans h2
  omega
/-- What a list with one entry for each cell has for a cell. -/
def vl (p : Plan) (o : List Int) (c : Cell) : Int := (o[ix p c]?).getD (-1)
/-- A cell has a value. -/
def Has (p : Plan) (c : Cell) (v : Int) : Prop := Ins p c ∧ p.Cells[ix p c]? = some v
instance (p : Plan) (c : Cell) (v : Int) : Decidable (Has p c v) := by unfold Has; infer_instance
abbrev Fr (p : Plan) (c : Cell) : Prop := Has p c 1
theorem Has.get {p : Plan} (h : Ok p) {c : Cell} (hc : Ins p c) : ∃ x, p.Cells[ix p c]? = some x := ⟨_, List.getElem?_eq_getElem (ix_lt h hc)⟩
theorem idx_ix {α : Type} {p : Plan} (h : Ok p) {c : Cell} (hc : Ins p c) (l : List α) : idx l (IntKind.i64.wrap (IntKind.i64.wrap (c.Y * p.W) + c.X)) = l[ix p c]? := by rw [ix_wrap h hc, idx_nat]
theorem tfree_eq {p : Plan} (h : Ok p) (n : Nat) (c : Cell) : tour_free n p c = some (decide (Fr p c)) := by
  dsimp only [tour_free]
  by_cases h1 : c.X ≥ 0
  · by_cases h2 : c.Y ≥ 0
    · by_cases h3 : c.X < p.W
      · by_cases h4 : c.Y < p.H
        · have hc : Ins p c := ⟨h1, h3, h2, h4⟩
          obtain ⟨x, hx⟩ := Has.get h hc
          simp only [h1, h2, h3, h4, decide_true, cond_true, idx_ix h hc, hx, Option.bind_some, Has, hc, true_and, Option.some.injEq]
          by_cases e : x = 1 <;> simp [e]
        · simp [h1, h2, h3, h4, Has, Ins]
      · simp [h1, h2, h3, Has, Ins]
    · simp [h1, h2, Has, Ins]
  · simp [h1, Has, Ins]
theorem pfree_eq {p : Plan} (h : Ok p) (n : Nat) (c : Cell) : path_free n p c = some (decide (Fr p c)) := tfree_eq h n c
theorem is_eq {p : Plan} (h : Ok p) (n : Nat) (c : Cell) (v : Int) : frontier_is n p c v = some (decide (Has p c v)) := by
  dsimp only [frontier_is]
  by_cases h1 : c.X ≥ 0
  · by_cases h2 : c.X < p.W
    · by_cases h3 : c.Y ≥ 0
      · by_cases h4 : c.Y < p.H
        · have hc : Ins p c := ⟨h1, h2, h3, h4⟩
          obtain ⟨x, hx⟩ := Has.get h hc
          simp only [h1, h2, h3, h4, decide_true, cond_true, idx_ix h hc, hx, Option.bind_some, Has, hc, true_and, Option.some.injEq]
          by_cases e : x = v <;> simp [e]
        · simp [h1, h2, h3, h4, Has, Ins]
      · simp [h1, h2, h3, Has, Ins]
    · simp [h1, h2, Has, Ins]
  · simp [h1, Has, Ins]
theorem inside_eq (p : Plan) (n : Nat) (c : Cell) : base_Inside n p c = some (decide (Ins p c)) := by
  dsimp only [base_Inside]
  by_cases h1 : c.X ≥ 0
  · by_cases h2 : c.X < p.W
    · by_cases h3 : c.Y ≥ 0
      · by_cases h4 : c.Y < p.H <;> simp [h1, h2, h3, h4, Ins]
      · simp [h1, h2, h3, Ins]
    · simp [h1, h2, Ins]
  · simp [h1, Ins]
theorem at_eq {p : Plan} (h : Ok p) (n : Nat) (c : Cell) : ∃ x, base_At n p c = some x ∧ (x = 0 ↔ Has p c 0) := by
  dsimp only [base_At]
  rw [show base_Inside n (Plan.mk p.W p.H p.Cells) (Cell.mk c.X c.Y) = some (decide (Ins p c)) from inside_eq p n c]
  by_cases hc : Ins p c
  · obtain ⟨x, hx⟩ := Has.get h hc
    refine ⟨x, ?_, ?_⟩
    · simp only [hc, decide_true, Option.bind_some, Bool.not_true, cond_false]
      rw [idx_ix h hc, hx]; rfl
    · simp [Has, hc, hx]
  · exact ⟨2, by simp [hc], by simp [Has, hc]⟩
theorem ins_bound {p : Plan} (h : Ok p) {c : Cell} (hc : Ins p c) : 0 ≤ c.X ∧ c.X ≤ 63 ∧ 0 ≤ c.Y ∧ c.Y ≤ 63 := by
  have := h.w2; have := h.h2; obtain ⟨h1, h2, h3, h4⟩ := hc; omega
/-- The numbers of different cells are not too many. -/
theorem fewC {p : Plan} (h : Ok p) {l : List Cell} (hn : l.Nodup) (hl : ∀ c ∈ l, Ins p c) : l.length ≤ p.Cells.length := by
  have h1 : (l.map (ix p)).Nodup := by
    unfold List.Nodup at *
    rw [List.pairwise_map]
    exact hn.imp_of_mem fun {a b} ha hb hab e => hab (ix_inj h (hl a ha) (hl b hb) e)
  have h2 := h1.length_le_of_subset (l₂ := List.range p.Cells.length) (fun i hi => by
    obtain ⟨c, hc, rfl⟩ := List.mem_map.1 hi
    exact List.mem_range.2 (ix_lt h (hl c hc)))
  simpa using h2

/- ### The greatest value -/
theorem max_ok {l : List Int} (h0 : 1 ≤ l.length) (hl : l.length ≤ maxLen) : Tot (fun n => slices_Maxbyte_byte_ n l) (fun m => m ≤ 2 ↔ ∀ x ∈ l, x ≤ 2) := by
  have hml : maxLen = 9223372036854775807 := rfl
  dsimp only [slices_Maxbyte_byte_]
  refine Tot.bind (Tot.condD (fun hc => by omega) (fun hc => Tot.ret ?_))
  refine Tot.idx (by omega) (by omega) (fun x hx => ?_)
  refine Tot.bind (Tot.mono (Q' := fun m => m ≤ 2 ↔ ∀ x ∈ l, x ≤ 2) ?_ (fun m hm => Tot.ret hm))
  refine Tot.loop0 (fun s : Int × Int => ∃ i : Nat, s.2 = (i : Int) ∧ i ≤ l.length ∧ (s.1 ≤ 2 ↔ ∀ x ∈ l.take i, x ≤ 2)) (fun s => l.length - s.2.toNat) ⟨1, rfl, h0, ?_⟩ ?_
  · have : l.take 1 = [x] := by
      cases l with
      | nil => simp at h0
      | cons y l => simp at hx; simp [hx]
    rw [this]; simp
  · rintro ⟨m, _⟩ ⟨i, rfl, hi, hm⟩
    dsimp only [slices_Maxbyte_byte__L1]
    refine Tot.condD (fun hc => ?_) (fun hc => Tot.ret ?_)
    · refine Tot.idx (by omega) hc (fun y hy => Tot.ret ⟨⟨i + 1, ?_, by omega, ?_⟩, ?_⟩)
      · rw [w64 (by omega) (by omega)]; rfl
      · rw [Int.toNat_natCast] at hy
        rw [List.take_add_one, hy]
        simp only [Option.toList_some, List.mem_append, List.mem_singleton]
        constructor
        · intro h x hx
          rcases hx with hx | rfl
          · exact hm.1 (by split at h <;> omega) x hx
          · split at h <;> omega
        · intro h
          have h1 := hm.2 (fun x hx => h x (.inl hx))
          have h2 := h y (.inr rfl)
          split <;> omega
      · rw [w64 (by omega) (by omega)]
        simp only [Int.toNat_natCast]; omega
    · rw [List.take_of_length_le (by omega)] at hm; exact hm
theorem size_eq (n : Nat) (x : Int) : plan_size n x = some (decide (1 ≤ x ∧ x ≤ 64)) := by
  dsimp only [plan_size]
  by_cases h1 : x ≥ 1
  · simp [h1]
  · simp [h1]
theorem lenw {p : Plan} (h1 : 1 ≤ p.W ∧ p.W ≤ 64) (h2 : 1 ≤ p.H ∧ p.H ≤ 64) : IntKind.i64.wrap (p.W * p.H) = p.W * p.H := by
  have := mul_bound (show 0 ≤ p.W by omega) h1.2 (show 0 ≤ p.H by omega) h2.2
  exact w64 (by omega) (by omega)
theorem valid_ok {p : Plan} (hp : p.Cells.length ≤ maxLen) : Tot (fun n => plan_Valid n p) (· = decide (Ok p)) := by
  dsimp only [plan_Valid]
  refine Tot.bind (Tot.mono (Q' := fun b => b = decide (¬ (1 ≤ p.W ∧ p.W ≤ 64 ∧ 1 ≤ p.H ∧ p.H ≤ 64 ∧ (p.Cells.length : Int) = p.W * p.H))) ?_ ?_)
  · refine Tot.bind (Tot.at_ (fun n => size_eq n _) ?_)
    refine Tot.cond (fun hc => Tot.ret ?_) (fun hc => ?_)
    · simp at hc; symm; rw [decide_eq_true_eq]; omega
    · have h1 : 1 ≤ p.W ∧ p.W ≤ 64 := by simpa using hc
      refine Tot.bind (Tot.at_ (fun n => size_eq n _) (Tot.cond (fun hc => Tot.ret ?_) (fun hc => Tot.ret ?_)))
      · simp at hc; symm; rw [decide_eq_true_eq]; omega
      · have h2 : 1 ≤ p.H ∧ p.H ≤ 64 := by simpa using hc
        rw [lenw h1 h2, Bool.eq_iff_iff, bne_iff_ne, decide_eq_true_eq]; omega
  · rintro _ rfl
    refine Tot.condD (fun hc => Tot.ret ?_) (fun hc => ?_)
    · symm; rw [decide_eq_false_iff_not]; exact fun h => hc ⟨h.w1, h.w2, h.h1, h.h2, h.len⟩
    · have hc := Decidable.not_not.1 hc
      obtain ⟨a1, a2, a3, a4, a5⟩ := hc
      have hlen : 1 * 1 ≤ p.W * p.H := Int.mul_le_mul a1 a3 (by omega) (by omega)
      refine Tot.bind (Tot.mono (Q' := fun b => b = decide (∀ x ∈ p.Cells, x ≤ 2)) (Tot.condE (fun h => by omega) (fun h => ?_)) ?_)
      · refine Tot.bind (Tot.mono (max_ok (by omega) hp) (fun m hm => Tot.ret ?_))
        rw [decide_eq_decide]; exact hm
      · rintro _ rfl
        refine Tot.ret ?_
        rw [decide_eq_decide]
        exact ⟨fun h => ⟨a1, a2, a3, a4, a5, h⟩, fun h => h.vals⟩
theorem basePlan_ok {p : Plan} (hp : p.Cells.length ≤ maxLen) : Tot (fun n => base_Plan n p) (· = decide (Ok p)) := by
  have hml : maxLen = 9223372036854775807 := rfl
  dsimp only [base_Plan]
  refine Tot.bind (Tot.mono (Q' := fun b => b = decide (¬ (1 ≤ p.W ∧ p.W ≤ 64 ∧ 1 ≤ p.H ∧ p.H ≤ 64 ∧ (p.Cells.length : Int) = p.W * p.H))) ?_ ?_)
  · refine Tot.condD (fun hc => Tot.ret ?_) (fun hc => Tot.condD (fun hc2 => Tot.ret ?_) (fun hc2 => Tot.condD (fun hc3 => Tot.ret ?_) (fun hc3 => Tot.condD (fun hc4 => Tot.ret ?_) (fun hc4 => Tot.ret ?_))))
    · symm; rw [decide_eq_true_eq]; omega
    · symm; rw [decide_eq_true_eq]; omega
    · symm; rw [decide_eq_true_eq]; omega
    · symm; rw [decide_eq_true_eq]; omega
    · rw [lenw ⟨by omega, by omega⟩ ⟨by omega, by omega⟩, Bool.eq_iff_iff, bne_iff_ne, decide_eq_true_eq]; omega
  · rintro _ rfl
    refine Tot.condD (fun hc => Tot.ret ?_) (fun hc => ?_)
    · symm; rw [decide_eq_false_iff_not]; exact fun h => hc ⟨h.w1, h.w2, h.h1, h.h2, h.len⟩
    · have hc := Decidable.not_not.1 hc
      obtain ⟨a1, a2, a3, a4, a5⟩ := hc
      refine Tot.bind (Tot.mono (Q' := fun o => (o = .go () ∧ ∀ x ∈ p.Cells, x ≤ 2) ∨ (o = .done false ∧ ¬ ∀ x ∈ p.Cells, x ≤ 2)) ?_ ?_)
      · refine Tot.loop0 (fun s : Int => ∃ i : Nat, s = (i : Int) ∧ i ≤ p.Cells.length ∧ ∀ x ∈ p.Cells.take i, x ≤ 2) (fun s => p.Cells.length - s.toNat) ⟨0, rfl, by omega, by simp⟩ ?_
        rintro _ ⟨i, rfl, hi, hm⟩
        dsimp only [base_Plan_L1]
        refine Tot.condD (fun hc => ?_) (fun hc => Tot.ret ?_)
        · refine Tot.idx (by omega) hc (fun y hy => Tot.condD (fun h => Tot.ret ?_) (fun h => Tot.ret ⟨⟨i + 1, ?_, by omega, ?_⟩, ?_⟩))
          · exact .inr ⟨rfl, fun h2 => by have := h2 y (List.mem_of_getElem? hy); omega⟩
          · rw [w64 (by omega) (by omega)]; rfl
          · rw [Int.toNat_natCast] at hy
            rw [List.take_add_one, hy]
            intro x hx
            simp only [Option.toList_some, List.mem_append, List.mem_singleton] at hx
            rcases hx with hx | rfl
            · exact hm x hx
            · omega
          · rw [w64 (by omega) (by omega)]
            simp only [Int.toNat_natCast]; omega
        · rw [List.take_of_length_le (by omega)] at hm; exact .inl ⟨rfl, hm⟩
      · rintro o (⟨rfl, h⟩ | ⟨rfl, h⟩)
        · refine Tot.ret ?_
          symm; rw [decide_eq_true_eq]; exact ⟨a1, a2, a3, a4, a5, h⟩
        · refine Tot.ret ?_
          symm; rw [decide_eq_false_iff_not]; exact fun k => h k.vals

/- ### Steps -/
/-- The four sides. -/
def sidesL (c : Cell) : List Cell := [⟨c.X + 1, c.Y⟩, ⟨c.X, c.Y + 1⟩, ⟨c.X - 1, c.Y⟩, ⟨c.X, c.Y - 1⟩]
theorem sides_eq {p : Plan} (h : Ok p) {c : Cell} (hc : Ins p c) (n : Nat) : tour_sides n c = some (sidesL c) := by
  have := ins_bound h hc
  dsimp only [tour_sides, sidesL]
  rw [w64 (x := c.X + 1) (by omega) (by omega), w64 (x := c.Y + 1) (by omega) (by omega), w64 (x := c.X - 1) (by omega) (by omega), w64 (x := c.Y - 1) (by omega) (by omega)]
/-- Cells to which paths over sides lead. -/
inductive Rch (p : Plan) (s : Cell) : Cell → Prop
  | base : Fr p s → Rch p s s
  | step {c d : Cell} : Rch p s c → d ∈ sidesL c → Fr p d → Rch p s d
theorem Rch.fr {p : Plan} {s c : Cell} (h : Rch p s c) : Fr p c := by cases h <;> assumption
/-- The steps of package path, with their costs. -/
def Ed (p : Plan) (c d : Cell) (k : Int) : Prop :=
  Fr p c ∧ Fr p d ∧ ((((d.X = c.X ∧ (d.Y = c.Y + 1 ∨ d.Y = c.Y - 1)) ∨ (d.Y = c.Y ∧ (d.X = c.X + 1 ∨ d.X = c.X - 1))) ∧ k = 70) ∨
    (((d.X = c.X + 1 ∨ d.X = c.X - 1) ∧ (d.Y = c.Y + 1 ∨ d.Y = c.Y - 1)) ∧ k = 99 ∧ Fr p ⟨d.X, c.Y⟩ ∧ Fr p ⟨c.X, d.Y⟩))
theorem Ed.symm {p : Plan} {c d : Cell} {k : Int} (h : Ed p c d k) : Ed p d c k := by
  obtain ⟨h1, h2, h3⟩ := h
  refine ⟨h2, h1, ?_⟩
  rcases h3 with ⟨h3, hk⟩ | ⟨h3, hk, h4, h5⟩
  · exact .inl ⟨by omega, hk⟩
  · exact .inr ⟨by omega, hk, h5, h4⟩
theorem Ed.pos {p : Plan} {c d : Cell} {k : Int} (h : Ed p c d k) : 70 ≤ k ∧ k ≤ 99 := by
  obtain ⟨_, _, h3⟩ := h
  rcases h3 with ⟨_, hk⟩ | ⟨_, hk, _⟩ <;> omega
theorem Ed.side {p : Plan} {c d : Cell} (hc : Fr p c) (hd : Fr p d) (h : d ∈ sidesL c) : Ed p c d 70 := by
  refine ⟨hc, hd, .inl ⟨?_, rfl⟩⟩
  simp only [sidesL, List.mem_cons, List.not_mem_nil, or_false] at h
  rcases h with rfl | rfl | rfl | rfl <;> simp
theorem mem_sides {c d : Cell} (h : (d.X = c.X ∧ (d.Y = c.Y + 1 ∨ d.Y = c.Y - 1)) ∨ (d.Y = c.Y ∧ (d.X = c.X + 1 ∨ d.X = c.X - 1))) : d ∈ sidesL c := by
  obtain ⟨x, y⟩ := d
  simp only [sidesL, List.mem_cons, List.not_mem_nil, or_false, Cell.mk.injEq] at *
  omega
theorem Ed.rch {p : Plan} {s c d : Cell} {k : Int} (h : Ed p c d k) (hr : Rch p s c) : Rch p s d := by
  obtain ⟨h1, h2, h3⟩ := h
  rcases h3 with ⟨h3, hk⟩ | ⟨h3, hk, h4, h5⟩
  · exact hr.step (mem_sides h3) h2
  · exact (hr.step (d := ⟨d.X, c.Y⟩) (mem_sides (by dsimp only; omega)) h4).step (mem_sides (by dsimp only; omega)) h2
/-- The ways to the neighbours. -/
def dirs : List Cell := [⟨1, 0⟩, ⟨1, 1⟩, ⟨0, 1⟩, ⟨-1, 1⟩, ⟨-1, 0⟩, ⟨-1, -1⟩, ⟨0, -1⟩, ⟨1, -1⟩]
theorem turns_eq (n : Nat) : path_turns n = some dirs := rfl
theorem dirs_get {i : Nat} {d : Cell} (h : dirs[i]? = some d) : -1 ≤ d.X ∧ d.X ≤ 1 ∧ -1 ≤ d.Y ∧ d.Y ≤ 1 ∧ (d.X ≠ 0 ∨ d.Y ≠ 0) := by
  have := List.mem_of_getElem? h
  simp only [dirs, List.mem_cons, List.not_mem_nil, or_false] at this
  rcases this with rfl | rfl | rfl | rfl | rfl | rfl | rfl | rfl <;> decide
theorem Ed.dir {p : Plan} {c d : Cell} {k : Int} (h : Ed p c d k) : ∃ i, i < 8 ∧ dirs[i]? = some ⟨d.X - c.X, d.Y - c.Y⟩ := by
  have hm : (⟨d.X - c.X, d.Y - c.Y⟩ : Cell) ∈ dirs := by
    obtain ⟨_, _, h3⟩ := h
    simp only [dirs, List.mem_cons, List.not_mem_nil, or_false, Cell.mk.injEq]
    rcases h3 with ⟨h3, _⟩ | ⟨h3, _⟩ <;> omega
  obtain ⟨i, hi, he⟩ := List.getElem_of_mem hm
  exact ⟨i, hi, by rw [List.getElem?_eq_getElem hi, he]⟩
theorem cost_eq {p : Plan} (h : Ok p) {c : Cell} (hc : Ins p c) {i : Nat} {d : Cell} (hd : dirs[i]? = some d) (n : Nat) :
    ∃ k b, path_cost n p c d = some (⟨c.X + d.X, c.Y + d.Y⟩, k, b) ∧ (b = true → Ed p c ⟨c.X + d.X, c.Y + d.Y⟩ k) ∧ ∀ k', Ed p c ⟨c.X + d.X, c.Y + d.Y⟩ k' → b = true ∧ k = k' := by
  have hb := ins_bound h hc
  obtain ⟨d1, d2, d3, d4, d5⟩ := dirs_get hd
  have e1 : IntKind.i64.wrap (c.X + d.X) = c.X + d.X := w64 (by omega) (by omega)
  have e2 : IntKind.i64.wrap (c.Y + d.Y) = c.Y + d.Y := w64 (by omega) (by omega)
  have f1 : path_free n (Plan.mk p.W p.H p.Cells) (Cell.mk c.X c.Y) = some (decide (Fr p c)) := pfree_eq h n c
  have f2 : ∀ x y, path_free n (Plan.mk p.W p.H p.Cells) (Cell.mk x y) = some (decide (Fr p ⟨x, y⟩)) := fun x y => pfree_eq h n ⟨x, y⟩
  dsimp only [path_cost]
  rw [f1, e1, e2]
  simp only [f2, Option.bind_some]
  by_cases a1 : Fr p c
  · by_cases a2 : Fr p ⟨c.X + d.X, c.Y + d.Y⟩
    · simp only [a1, a2, decide_true, Bool.not_true, cond_false, Option.bind_some]
      by_cases a3 : d.X = 0
      · refine ⟨70, true, by simp [a3], fun _ => ⟨a1, a2, .inl ⟨by dsimp only; omega, rfl⟩⟩, fun k' hk => ⟨rfl, ?_⟩⟩
        obtain ⟨_, _, h3⟩ := hk
        dsimp only at h3
        rcases h3 with ⟨_, h3⟩ | ⟨h3, _⟩ <;> omega
      · by_cases a4 : d.Y = 0
        · refine ⟨70, true, by simp [a4], fun _ => ⟨a1, a2, .inl ⟨by dsimp only; omega, rfl⟩⟩, fun k' hk => ⟨rfl, ?_⟩⟩
          obtain ⟨_, _, h3⟩ := hk
          dsimp only at h3
          rcases h3 with ⟨_, h3⟩ | ⟨h3, _⟩ <;> omega
        · have a3' : (d.X == 0) = false := by simp [a3]
          have a4' : (d.Y == 0) = false := by simp [a4]
          simp only [a3', a4', cond_false, Option.bind_some]
          by_cases a5 : Fr p ⟨c.X + d.X, c.Y⟩
          · by_cases a6 : Fr p ⟨c.X, c.Y + d.Y⟩
            · refine ⟨99, true, by simp [a5, a6], fun _ => ⟨a1, a2, .inr ⟨by dsimp only; omega, rfl, a5, a6⟩⟩, fun k' hk => ⟨rfl, ?_⟩⟩
              obtain ⟨_, _, h3⟩ := hk
              dsimp only at h3
              rcases h3 with ⟨h3, _⟩ | ⟨_, h3, _⟩ <;> omega
            · refine ⟨0, false, by simp [a5, a6], fun e => (by cases e), fun k' hk => ?_⟩
              obtain ⟨_, _, h3⟩ := hk
              dsimp only at h3
              rcases h3 with ⟨h3, _⟩ | ⟨_, _, _, h3⟩
              · omega
              · exact absurd h3 a6
          · refine ⟨0, false, by simp [a5], fun e => (by cases e), fun k' hk => ?_⟩
            obtain ⟨_, _, h3⟩ := hk
            dsimp only at h3
            rcases h3 with ⟨h3, _⟩ | ⟨_, _, h3, _⟩
            · omega
            · exact absurd h3 a5
    · exact ⟨0, false, by simp [a1, a2], fun e => (by cases e), fun k' hk => absurd hk.2.1 a2⟩
  · exact ⟨0, false, by simp [a1], fun e => (by cases e), fun k' hk => absurd hk.1 a1⟩
end Go.Proofs.Ytcdboppghnchpaa

namespace Go.Proofs.Ytcdboppghnchpaa
open Go Go.Proofs.Ytcdboppghnchpaa.Gw
set_option linter.unusedVariables false

/- ### Maps that hold true alone -/
def tr (S : List Cell) : List (Cell × Bool) := S.map fun c => (c, true)
theorem ke_iff {a b : Cell} : ke48 a b = true ↔ a = b := by
  unfold ke48
  simp only [Bool.and_true, Bool.and_eq_true, beq_iff_eq]
  exact ⟨fun h => cell_ext h.1 h.2, fun h => by subst h; exact ⟨rfl, rfl⟩⟩
theorem mget_tr (d : Cell) : ∀ S : List Cell, (mget ke48 d (tr S)).getD false = decide (d ∈ S)
  | [] => by simp [tr, mget]
  | c :: S => by
    have ih := mget_tr d S
    simp only [tr, List.map_cons, mget] at *
    by_cases h : d = c
    · subst h
      have : ke48 d d = true := ke_iff.2 rfl
      simp [this]
    · have : ke48 d c = false := by
        cases hk : ke48 d c
        · rfl
        · exact absurd (ke_iff.1 hk) h
      rw [this, cond_false, ih]; simp [h]
theorem mput_tr (d : Cell) : ∀ S : List Cell, d ∉ S → mput ke48 d true (tr S) = tr (S ++ [d])
  | [], _ => rfl
  | c :: S, hd => by
    have ih := mput_tr d S (fun h => hd (by simp [h]))
    simp only [tr, List.map_cons, mput, List.cons_append] at *
    have : ke48 d c = false := by
      cases hk : ke48 d c
      · rfl
      · exact absurd (by simp [ke_iff.1 hk]) hd
    rw [this, cond_false, ih]
theorem mdel_tr (d : Cell) : ∀ S : List Cell, mdel ke48 d (tr S) = tr (S.erase d)
  | [] => rfl
  | c :: S => by
    have ih := mdel_tr d S
    by_cases h : c = d
    · subst h
      have : ke48 c c = true := ke_iff.2 rfl
      simp only [tr, List.map_cons, mdel, this, cond_true]
      rw [List.erase_cons_head]
    · have : ke48 d c = false := by
        cases hk : ke48 d c
        · rfl
        · exact absurd (ke_iff.1 hk).symm h
      rw [List.erase_cons_tail (by simp [h])]
      simp only [tr, List.map_cons, mdel, this, cond_false] at *
      rw [ih]

/- ### The tour -/
/-- What the tour knows. -/
structure TI (p : Plan) (st : Cell) (S out trail : List Cell) : Prop where
  nd : S.Nodup
  rch : ∀ c ∈ S, Rch p st c
  out : ∀ c, c ∈ out ↔ c ∈ S
  tr : ∀ c ∈ trail, c ∈ S
  fin : ∀ c ∈ S, c ∉ trail → ∀ d ∈ sidesL c, Fr p d → d ∈ S
  st : st ∈ S
theorem TI.few {p : Plan} (h : Ok p) {st : Cell} {S out trail : List Cell} (k : TI p st S out trail) : S.length ≤ p.Cells.length := fewC h k.nd fun c hc => (k.rch c hc).fr.1
theorem TI.all {p : Plan} {st : Cell} {S out : List Cell} (k : TI p st S out []) (c : Cell) : c ∈ out ↔ Rch p st c := by
  rw [k.out]
  refine ⟨k.rch c, fun h => ?_⟩
  induction h with
  | base _ => exact k.st
  | step _ hd hf ih => exact k.fin _ ih (by simp) _ hd hf
theorem tour_ok {p : Plan} (h : Ok p) {st : Cell} (hst : Fr p st) : Tot (fun n => loopN (tour_Tour_L11 n p) n (tr [st], [st], [st])) (fun out => out.length ≤ 2 * p.Cells.length + 2 ∧ ∀ c, c ∈ out ↔ Rch p st c) := by
  have hsm := h.small
  refine Tot.loop (fun s : List (Cell × Bool) × List Cell × List Cell => ∃ S, s.1 = tr S ∧ TI p st S s.2.1 s.2.2 ∧ s.2.1.length + (2 * (p.Cells.length - S.length) + s.2.2.length) ≤ 2 * p.Cells.length + 2)
    (fun s => 2 * (p.Cells.length - s.1.length) + s.2.2.length) ⟨[st], rfl, ⟨by simp, fun c hc => by simp at hc; subst hc; exact .base hst, fun c => Iff.rfl, fun c hc => hc, fun c hc hn => absurd hc hn, by simp⟩, by simp; omega⟩ ?_
  rintro ⟨_, out, trail⟩ ⟨S, rfl, k, hb⟩
  have hS := k.few h
  have htl : (tr S).length = S.length := by simp [tr]
  dsimp only [tour_Tour_L11] at *
  refine Tot.condD (fun hc => ?_) (fun hc => Tot.ret ?_)
  · have hpos : 0 < trail.length := by omega
    rw [w64 (by omega) (by omega)]
    refine Tot.idx (by omega) (by omega) (fun c hcx => ?_)
    have hcl : trail[trail.length - 1]? = some c := by
      have : ((trail.length : Int) - 1).toNat = trail.length - 1 := by omega
      rwa [this] at hcx
    have hct : c ∈ trail := List.mem_of_getElem? hcl
    have hcS := k.tr c hct
    have hci := (k.rch c hcS).fr.1
    refine Tot.bind (Tot.mono (Q' := fun r : Int × Int × Bool => (r.2.2 = true ∧ (⟨r.1, r.2.1⟩ : Cell) ∈ sidesL c ∧ Fr p ⟨r.1, r.2.1⟩ ∧ (⟨r.1, r.2.1⟩ : Cell) ∉ S) ∨ (r.2.2 = false ∧ ∀ d ∈ sidesL c, Fr p d → d ∈ S)) ?_ ?_)
    · refine Tot.bind (Tot.at_ (fun n => sides_eq h hci n) ?_)
      refine Tot.loop (fun s : Int => ∃ i : Nat, s = (i : Int) ∧ i ≤ 4 ∧ ∀ j d, j < i → (sidesL c)[j]? = some d → Fr p d → d ∈ S) (fun s => 4 - s.toNat) ⟨0, rfl, by omega, fun j d hj => by omega⟩ ?_
      rintro _ ⟨i, rfl, hi, hall⟩
      dsimp only [tour_Tour_L13]
      refine Tot.condD (fun hc4 => ?_) (fun hc4 => Tot.ret ?_)
      · have hl4 : (sidesL c).length = 4 := rfl
        refine Tot.idx (by omega) (by omega) (fun d hd => ?_)
        rw [Int.toNat_natCast] at hd
        refine Tot.bind (Tot.mono (Q' := fun b => b = (decide (Fr p d) && !decide (d ∈ S))) ?_ ?_)
        · refine Tot.bind (Tot.at_ (fun n => tfree_eq h n d) (Tot.cond (fun hf => Tot.ret ?_) (fun hf => Tot.ret ?_)))
          · have := mget_tr d S
            rw [hf, Bool.true_and, ← this]
          · rw [hf]; rfl
        · rintro _ rfl
          refine Tot.cond (fun hb2 => Tot.ret ?_) (fun hb2 => Tot.ret ?_)
          · simp only [Bool.and_eq_true, decide_eq_true_eq, Bool.not_eq_true', decide_eq_false_iff_not] at hb2
            exact .inl ⟨rfl, List.mem_of_getElem? hd, hb2.1, hb2.2⟩
          · refine ⟨⟨i + 1, ?_, by omega, fun j e hj he hf => ?_⟩, ?_⟩
            · rw [w64 (by omega) (by omega)]; rfl
            · rcases Nat.lt_or_ge j i with hji | hji
              · exact hall j e hji he hf
              · obtain rfl : j = i := by omega
                rw [hd] at he
                obtain rfl := Option.some.inj he
                simp only [hf, decide_true, Bool.true_and, Bool.not_eq_false', decide_eq_true_eq] at hb2
                exact hb2
            · rw [w64 (by omega) (by omega)]; simp only [Int.toNat_natCast]; omega
      · refine .inr ⟨rfl, fun d hd hf => ?_⟩
        obtain ⟨j, hj, he⟩ := List.getElem_of_mem hd
        have hl4 : (sidesL c).length = 4 := rfl
        exact hall j d (by omega) (by rw [List.getElem?_eq_getElem hj, he]) hf
    · rintro ⟨x, y, b⟩ hr
      dsimp only at *
      refine Tot.cond (fun hbt => ?_) (fun hbf => ?_)
      · subst hbt
        rcases hr with ⟨_, hd, hf, hns⟩ | ⟨hx, _⟩
        · refine Tot.app (by simp; omega) (Tot.app (by simp; omega) (Tot.ret ?_))
          rw [mput_tr _ _ hns]
          have k' : TI p st (S ++ [⟨x, y⟩]) (out ++ [⟨x, y⟩]) (trail ++ [⟨x, y⟩]) := by
            refine ⟨?_, fun e he => ?_, fun e => ?_, fun e he => ?_, fun e he hn f hfs hff => ?_, by simp [k.st]⟩
            · rw [List.nodup_append]
              exact ⟨k.nd, by simp, fun a ha b hb => by simp at hb; subst hb; rintro rfl; exact hns ha⟩
            · simp only [List.mem_append, List.mem_singleton] at he
              rcases he with he | rfl
              · exact k.rch e he
              · exact (k.rch c hcS).step hd hf
            · simp only [List.mem_append, List.mem_singleton, k.out]
            · simp only [List.mem_append, List.mem_singleton] at he ⊢
              exact he.imp (k.tr e) id
            · simp only [List.mem_append, List.mem_singleton, not_or] at he hn ⊢
              rcases he with he | rfl
              · exact .inl (k.fin e he hn.1 f hfs hff)
              · exact absurd rfl hn.2
          have hS2 := k'.few h
          have htl2 : (tr (S ++ [(⟨x, y⟩ : Cell)])).length = S.length + 1 := by simp [tr]
          simp only [List.length_append, List.length_singleton] at hS2 ⊢
          exact ⟨⟨_, rfl, k', by simp only [List.length_append, List.length_singleton]; omega⟩, by rw [htl2, htl]; omega⟩
        · cases hx
      · subst hbf
        rcases hr with ⟨hx, _⟩ | ⟨_, hno⟩
        · cases hx
        · have hcut : Gw.cut trail 0 ((trail.length : Int) - 1) = some (trail.take (trail.length - 1)) := by
            unfold Gw.cut
            rw [if_pos (by omega)]
            simp only [show (0 : Int).toNat = 0 from rfl, List.drop_zero, show ((trail.length : Int) - 1).toNat = trail.length - 1 by omega]
          refine Tot.bind (Tot.val hcut ?_)
          have hsplit : trail = trail.take (trail.length - 1) ++ [c] := by
            have h1 := List.take_append_drop (trail.length - 1) trail
            rw [← h1]
            congr 1
            · rw [h1]
            · rw [List.drop_eq_getElem_cons (by omega), List.drop_of_length_le (by omega)]
              rw [List.getElem?_eq_getElem (by omega)] at hcl
              rw [Option.some.inj hcl]
          have hlen : (trail.take (trail.length - 1)).length = trail.length - 1 := by rw [List.length_take]; omega
          generalize trail.take (trail.length - 1) = t at hsplit hlen
          subst hsplit
          have k2 : TI p st S out t := by
            refine ⟨k.nd, k.rch, k.out, fun e he => k.tr e (by simp [he]), fun e he hn f hfs hff => ?_, k.st⟩
            by_cases hec : e = c
            · subst hec; exact hno f hfs hff
            · exact k.fin e he (by simp [hn, hec]) f hfs hff
          refine Tot.condD (fun hc2 => ?_) (fun hc2 => Tot.ret ?_)
          · rw [w64 (by omega) (by omega)]
            refine Tot.idx (by omega) (by omega) (fun e he => ?_)
            have het : e ∈ t := List.mem_of_getElem? he
            simp only [List.length_append, List.length_singleton] at *
            refine Tot.app (by simp only [List.length_singleton]; omega) (Tot.ret ⟨⟨S, rfl, ⟨k2.nd, k2.rch, fun f => ?_, k2.tr, k2.fin, k2.st⟩, ?_⟩, ?_⟩)
            · simp only [List.mem_append, List.mem_singleton]
              rw [k2.out]
              exact ⟨fun hf => hf.elim id (fun hf => hf ▸ k2.tr e het), .inl⟩
            · simp only [List.length_append, List.length_singleton]; omega
            · dsimp only; omega
          · simp only [List.length_append, List.length_singleton] at *
            exact ⟨⟨S, rfl, k2, by omega⟩, by omega⟩
  · have h0 : trail = [] := List.eq_nil_of_length_eq_zero (by omega)
    subst h0
    exact ⟨by omega, k.all⟩
/-- Tour, whole. -/
theorem Tour_ok {p : Plan} (hp : p.Cells.length ≤ maxLen) (st : Cell) : Tot (fun n => tour_Tour n p st) (fun r => (¬ Ok p ∧ r = ([], 1)) ∨ (Ok p ∧ ¬ Fr p st ∧ r = ([], 7)) ∨ (Ok p ∧ Fr p st ∧ r.2 = 0 ∧ r.1.length ≤ 2 * p.Cells.length + 2 ∧ ∀ c, c ∈ r.1 ↔ Rch p st c)) := by
  dsimp only [tour_Tour]
  refine Tot.bind (Tot.mono (valid_ok hp) ?_)
  rintro _ rfl
  refine Tot.cond (fun hc => Tot.ret ?_) (fun hc => ?_)
  · exact .inl ⟨by simpa using hc, rfl⟩
  · have h : Ok p := by simpa using hc
    refine Tot.bind (Tot.at_ (fun n => tfree_eq h n st) ?_)
    refine Tot.cond (fun hc => Tot.ret ?_) (fun hc => ?_)
    · exact .inr (.inl ⟨h, by simpa using hc, rfl⟩)
    · have hst : Fr p st := by simpa using hc
      refine Tot.bind (Tot.ret ?_)
      refine Tot.bind (Tot.mono (tour_ok h hst) (fun out ho => Tot.ret ?_))
      exact .inr (.inr ⟨h, hst, rfl, ho⟩)
end Go.Proofs.Ytcdboppghnchpaa

namespace Go.Proofs.Ytcdboppghnchpaa
open Go Go.Proofs.Ytcdboppghnchpaa.Gw
set_option linter.unusedVariables false

/- ### The heap -/
/-- The cost at a place. -/
def key (l : List Visit) (j : Nat) : Int := ((l[j]?).map (·.n_)).getD 0
theorem key_of {l : List Visit} {j : Nat} {v : Visit} (h : l[j]? = some v) : key l j = v.n_ := by simp [key, h]
/-- Each place costs no more than the two behind it. -/
def HO (l : List Visit) : Prop := ∀ j, 0 < j → j < l.length → key l ((j - 1) / 2) ≤ key l j
theorem HO.root {l : List Visit} (h : HO l) : ∀ (n j : Nat), j ≤ n → j < l.length → key l 0 ≤ key l j
  | 0, j, hn, hj => by obtain rfl : j = 0 := by omega
                       exact Int.le_refl _
  | n + 1, j, hn, hj => by
    rcases Nat.eq_zero_or_pos j with rfl | h0
    · exact Int.le_refl _
    · exact Int.le_trans (h.root n ((j - 1) / 2) (by omega) (by omega)) (h j h0 hj)
theorem upd_nat {α : Type} (l : List α) (i : Nat) (x : α) : upd l (i : Int) x = l.set i x := by simp [upd]
theorem swap_key {l : List Visit} {i p : Nat} (hi : i < l.length) (hp : p < l.length) (x y : Visit) (j : Nat) : key ((l.set i x).set p y) j = if j = p then y.n_ else if j = i then x.n_ else key l j := by
  unfold key
  rw [List.getElem?_set]
  by_cases h1 : p = j
  · subst h1; rw [if_pos rfl, if_pos rfl, if_pos (by simpa using hp)]; rfl
  · rw [if_neg h1, if_neg (fun e => h1 e.symm), List.getElem?_set]
    by_cases h2 : i = j
    · subst h2; rw [if_pos rfl, if_pos rfl, if_pos hi]; rfl
    · rw [if_neg h2, if_neg (fun e => h2 e.symm)]
theorem swap_perm {l : List Visit} {i p : Nat} {x y : Visit} (hx : l[p]? = some x) (hy : l[i]? = some y) : ((l.set i x).set p y).Perm l := by
  obtain ⟨h1, e1⟩ := List.getElem?_eq_some_iff.1 hx
  obtain ⟨h2, e2⟩ := List.getElem?_eq_some_iff.1 hy
  rw [← e1, ← e2]
  exact List.set_set_perm h2 h1
theorem half {i : Nat} (h0 : 0 < i) (h1 : i ≤ 1000000000000) : IntKind.i64.wrap ((IntKind.i64.wrap ((i : Int) - 1)).tdiv 2) = (((i - 1) / 2 : Nat) : Int) := by
  rw [w64 (x := (i : Int) - 1) (by omega) (by omega)]
  have e : ((i : Int) - 1) = ((i - 1 : Nat) : Int) := by omega
  rw [e]
  have e2 : ((i - 1 : Nat) : Int).tdiv 2 = (((i - 1) / 2 : Nat) : Int) := by
    rw [show (2 : Int) = ((2 : Nat) : Int) from rfl, ← Int.ofNat_tdiv]
  rw [e2, w64 (by omega) (by omega)]
/-- On the way up: all but place i stand right. -/
structure Up (l : List Visit) (i : Nat) : Prop where
  rest : ∀ j, 0 < j → j < l.length → j ≠ i → key l ((j - 1) / 2) ≤ key l j
  over : 0 < i → ∀ j, 0 < j → j < l.length → (j - 1) / 2 = i → key l ((i - 1) / 2) ≤ key l j
theorem Up.swap {l : List Visit} {i : Nat} {x y : Visit} (h : Up l i) (h0 : 0 < i) (hx : l[(i - 1) / 2]? = some x) (hy : l[i]? = some y) (hlt : y.n_ < x.n_) : Up ((l.set i x).set ((i - 1) / 2) y) ((i - 1) / 2) := by
  have hi := (List.getElem?_eq_some_iff.1 hy).1
  have hp := (List.getElem?_eq_some_iff.1 hx).1
  have kx := key_of hx
  have ky := key_of hy
  generalize hpe : (i - 1) / 2 = p at *
  have hpi : p < i := by omega
  have hlen : ((l.set i x).set p y).length = l.length := by simp
  refine ⟨fun j j0 jl jp => ?_, fun p0 j j0 jl je => ?_⟩
  · rw [hlen] at jl
    rw [swap_key hi hp, swap_key hi hp, if_neg jp]
    by_cases ji : j = i
    · subst ji
      rw [if_pos (by omega), if_pos rfl]; omega
    · rw [if_neg ji]
      have hr := h.rest j j0 jl ji
      by_cases e1 : (j - 1) / 2 = p
      · rw [if_pos e1]; rw [e1] at hr; omega
      · rw [if_neg e1]
        by_cases e2 : (j - 1) / 2 = i
        · rw [if_pos e2]
          have := h.over h0 j j0 jl e2
          rw [hpe] at this; omega
        · rw [if_neg e2]; exact hr
  · rw [hlen] at jl
    rw [swap_key hi hp, swap_key hi hp, if_neg (by omega), if_neg (by omega), if_neg (by omega)]
    have hpp := h.rest p p0 hp (by omega)
    by_cases ji : j = i
    · rw [if_pos ji]; omega
    · rw [if_neg ji]
      have := h.rest j j0 jl ji
      rw [je] at this; omega
theorem push_ok {l : List Visit} (h : HO l) (hl : l.length ≤ 1000000) (v : Visit) : Tot (fun n => path_heap_push n l v) (fun r => r.Perm (l ++ [v]) ∧ HO r) := by
  dsimp only [path_heap_push]
  rw [show [Visit.mk (Cell.mk v.c.X v.c.Y) v.n_] = [v] from rfl]
  refine Tot.app (by simp; omega) ?_
  refine Tot.bind (Tot.mono (Q' := fun r : List Visit => r.Perm (l ++ [v]) ∧ HO r) ?_ (fun r hr => Tot.ret hr))
  have hsl : (l ++ [v]).length = l.length + 1 := by simp
  refine Tot.loop0 (fun s : List Visit × Int => ∃ i : Nat, s.2 = (i : Int) ∧ i < s.1.length ∧ s.1.Perm (l ++ [v]) ∧ Up s.1 i) (fun s => s.2.toNat) ⟨l.length, ?_, by dsimp only; omega, List.Perm.refl _, ⟨fun j j0 jl ji => ?_, fun _ j j0 jl je => ?_⟩⟩ ?_
  · dsimp only
    rw [w64 (by omega) (by omega), hsl]; omega
  · dsimp only at *
    have hjl : j < l.length := by omega
    have hk : ∀ q, q < l.length → key (l ++ [v]) q = key l q := fun q hq => by unfold key; rw [List.getElem?_append_left hq]
    rw [hk _ (by omega), hk _ hjl]
    exact h j j0 hjl
  · dsimp only at *; omega
  rintro ⟨l, _⟩ ⟨i, rfl, hi, hperm, hup⟩
  have hll := hperm.length_eq
  dsimp only [path_heap_push_L1] at *
  refine Tot.bind (Tot.mono (Q' := fun b => (b = true ∧ 0 < i ∧ ∃ x y, l[(i - 1) / 2]? = some x ∧ l[i]? = some y ∧ y.n_ < x.n_) ∨ (b = false ∧ HO l)) ?_ ?_)
  · refine Tot.condD (fun hc => ?_) (fun hc => Tot.ret ?_)
    · have h0 : 0 < i := by omega
      rw [half h0 (by omega)]
      refine Tot.idx (by omega) (by omega) (fun x hx => Tot.idx (by omega) (by omega) (fun y hy => Tot.ret ?_))
      rw [Int.toNat_natCast] at hx hy
      by_cases hlt : y.n_ < x.n_
      · exact .inl ⟨by simpa using hlt, h0, x, y, hx, hy, hlt⟩
      · refine .inr ⟨by simpa using hlt, fun j j0 jl => ?_⟩
        by_cases ji : j = i
        · subst ji; rw [key_of hx, key_of hy]; omega
        · exact hup.rest j j0 jl ji
    · refine .inr ⟨rfl, fun j j0 jl => hup.rest j j0 jl (by omega)⟩
  · rintro b (⟨rfl, h0, x, y, hx, hy, hlt⟩ | ⟨rfl, hh⟩)
    · refine Tot.cond (fun _ => ?_) (fun e => by cases e)
      rw [half h0 (by omega)]
      have hp := (List.getElem?_eq_some_iff.1 hx).1
      refine Tot.bind (Tot.mono (Q' := fun r => r = (l.set i x).set ((i - 1) / 2) y) ?_ ?_)
      · refine Tot.idxv (x := x) (by rw [idx_nat, hx]) (Tot.idxv (x := y) (by rw [idx_nat, hy]) (Tot.idxv (x := y) (by rw [idx_nat, hy]) ?_))
        rw [upd_nat, upd_nat]
        refine Tot.idx (by omega) (by rw [List.length_set]; omega) (fun z hz => Tot.ret rfl)
      · rintro _ rfl
        refine Tot.ret ⟨⟨(i - 1) / 2, rfl, by simp; omega, (swap_perm hx hy).trans hperm, hup.swap h0 hx hy hlt⟩, ?_⟩
        simp only [Int.toNat_natCast]; omega
    · exact Tot.cond (fun e => by cases e) (fun _ => Tot.ret ⟨hperm, hh⟩)

/-- On the way down: all but what hangs below place i stands right. -/
structure Dn (l : List Visit) (i : Nat) : Prop where
  rest : ∀ j, 0 < j → j < l.length → (j - 1) / 2 ≠ i → key l ((j - 1) / 2) ≤ key l j
  over : 0 < i → ∀ j, 0 < j → j < l.length → (j - 1) / 2 = i → key l ((i - 1) / 2) ≤ key l j
theorem Dn.swap {l : List Visit} {i k : Nat} {x y : Visit} (h : Dn l i) (hk : k = 2 * i + 1 ∨ k = 2 * i + 2) (hx : l[k]? = some x) (hy : l[i]? = some y) (h1 : x.n_ ≤ y.n_) (h2 : ∀ j, (j = 2 * i + 1 ∨ j = 2 * i + 2) → j < l.length → x.n_ ≤ key l j) : Dn ((l.set i x).set k y) k := by
  have hi := (List.getElem?_eq_some_iff.1 hy).1
  have hkl := (List.getElem?_eq_some_iff.1 hx).1
  have kx := key_of hx
  have ky := key_of hy
  have hlen : ((l.set i x).set k y).length = l.length := by simp
  refine ⟨fun j j0 jl jp => ?_, fun k0 j j0 jl je => ?_⟩
  · rw [hlen] at jl
    rw [swap_key hi hkl, swap_key hi hkl, if_neg jp]
    by_cases e1 : (j - 1) / 2 = i
    · rw [if_pos e1]
      by_cases jk : j = k
      · rw [if_pos jk]; exact h1
      · rw [if_neg jk, if_neg (by omega)]; exact h2 j (by omega) jl
    · rw [if_neg e1]
      have hr := h.rest j j0 jl e1
      rw [if_neg (by omega)]
      by_cases ji : j = i
      · rw [if_pos ji]
        have := h.over (by omega) k (by omega) hkl (by omega)
        rw [kx] at this
        rw [ji]; exact this
      · rw [if_neg ji]; exact hr
  · rw [hlen] at jl
    have e : (k - 1) / 2 = i := by omega
    rw [swap_key hi hkl, swap_key hi hkl, e, if_neg (by omega), if_pos rfl, if_neg (by omega), if_neg (by omega)]
    have := h.rest j j0 jl (by omega)
    rw [je, kx] at this; exact this
theorem least_ok {l : List Visit} (hl : l.length ≤ 1000000) {i : Nat} (hi : i ≤ 1000000) : Tot (fun n => loopN (path_heap_pop_L13 l (i : Int)) n ((i : Int), 0))
    (fun r => ∃ k : Nat, r = (k : Int) ∧ (k = i ∨ (k < l.length ∧ (k = 2 * i + 1 ∨ k = 2 * i + 2))) ∧ key l k ≤ key l i ∧ ∀ j, (j = 2 * i + 1 ∨ j = 2 * i + 2) → j < l.length → key l k ≤ key l j) := by
  refine Tot.loop0 (fun s : Int × Int => ∃ k t : Nat, s = ((k : Int), (t : Int)) ∧ t ≤ 2 ∧ (k = i ∨ (k < l.length ∧ (k = 2 * i + 1 ∨ k = 2 * i + 2))) ∧ key l k ≤ key l i ∧ ∀ u, u < t → 2 * i + 1 + u < l.length → key l k ≤ key l (2 * i + 1 + u)) (fun s => 2 - s.2.toNat)
    ⟨i, 0, rfl, by omega, .inl rfl, Int.le_refl _, fun u hu => by omega⟩ ?_
  rintro _ ⟨k, t, rfl, ht, hk, hki, hall⟩
  dsimp only [path_heap_pop_L13]
  refine Tot.condD (fun hc => ?_) (fun hc => Tot.ret ?_)
  · have e1 : IntKind.i64.wrap ((IntKind.i64.wrap (2 * (i : Int))) + 1) = ((2 * i + 1 : Nat) : Int) := by
      rw [w64 (x := 2 * (i : Int)) (by omega) (by omega), w64 (by omega) (by omega)]; omega
    have e2 : IntKind.i64.wrap ((IntKind.i64.wrap (2 * (i : Int))) + 2) = ((2 * i + 2 : Nat) : Int) := by
      rw [w64 (x := 2 * (i : Int)) (by omega) (by omega), w64 (by omega) (by omega)]; omega
    rw [e1, e2]
    have hidx : idx [((2 * i + 1 : Nat) : Int), ((2 * i + 2 : Nat) : Int)] (t : Int) = some ((2 * i + 1 + t : Nat) : Int) := by
      rw [idx_nat]
      have : t = 0 ∨ t = 1 := by omega
      rcases this with rfl | rfl <;> rfl
    refine Tot.bind (Tot.mono (Q' := fun r => ∃ k' : Nat, r = (k' : Int) ∧ (k' = i ∨ (k' < l.length ∧ (k' = 2 * i + 1 ∨ k' = 2 * i + 2))) ∧ key l k' ≤ key l k ∧ (2 * i + 1 + t < l.length → key l k' ≤ key l (2 * i + 1 + t))) ?_ ?_)
    · refine Tot.idxv hidx ?_
      refine Tot.bind (Tot.mono (Q' := fun b => b = decide (2 * i + 1 + t < l.length ∧ key l (2 * i + 1 + t) < key l k)) ?_ ?_)
      · refine Tot.condD (fun hc => ?_) (fun hc => Tot.ret ?_)
        · refine Tot.idx (by omega) hc (fun x hx => Tot.idx (by omega) (by omega) (fun y hy => Tot.ret ?_))
          rw [Int.toNat_natCast] at hx hy
          rw [decide_eq_decide, key_of hx, key_of hy]
          exact ⟨fun h => ⟨by omega, h⟩, fun h => h.2⟩
        · symm; rw [decide_eq_false_iff_not]; omega
      · rintro _ rfl
        refine Tot.condD (fun hc => Tot.ret ?_) (fun hc => Tot.ret ?_)
        · exact ⟨2 * i + 1 + t, rfl, .inr ⟨hc.1, by omega⟩, by omega, fun _ => Int.le_refl _⟩
        · exact ⟨k, rfl, hk, Int.le_refl _, fun h => by omega⟩
    · rintro _ ⟨k', rfl, h1, h2, h3⟩
      refine Tot.ret ⟨⟨k', t + 1, ?_, by omega, h1, by omega, fun u hu hul => ?_⟩, ?_⟩
      · rw [w64 (by omega) (by omega)]; rfl
      · rcases Nat.lt_or_ge u t with hut | hut
        · have := hall u hut hul; omega
        · obtain rfl : u = t := by omega
          exact h3 hul
      · rw [w64 (by omega) (by omega)]; simp only [Int.toNat_natCast]; omega
  · refine ⟨k, rfl, hk, hki, fun j hj hjl => ?_⟩
    obtain ⟨u, rfl⟩ : ∃ u, j = 2 * i + 1 + u := ⟨j - (2 * i + 1), by omega⟩
    exact hall u (by omega) hjl
theorem down_ok {l0 : List Visit} (hl : l0.length ≤ 1000000) (h : Dn l0 0) : Tot (fun n => loopN (path_heap_pop_L11 n) n (l0, 0)) (fun r => r.Perm l0 ∧ HO r) := by
  refine Tot.loop (fun s : List Visit × Int => ∃ i : Nat, s.2 = (i : Int) ∧ i ≤ s.1.length ∧ s.1.Perm l0 ∧ Dn s.1 i) (fun s => s.1.length - s.2.toNat) ⟨0, rfl, by omega, List.Perm.refl _, h⟩ ?_
  rintro ⟨l, _⟩ ⟨i, rfl, hi, hperm, hd⟩
  have hll := hperm.length_eq
  dsimp only [path_heap_pop_L11] at *
  refine Tot.bind (Tot.mono (least_ok (by omega) (by omega)) ?_)
  rintro _ ⟨k, rfl, hk, hki, hmin⟩
  refine Tot.condE (fun he => Tot.ret ⟨hperm, fun j j0 jl => ?_⟩) (fun he => ?_)
  · obtain rfl : k = i := by omega
    by_cases e1 : (j - 1) / 2 = k
    · rw [e1]; exact hmin j (by omega) jl
    · exact hd.rest j j0 jl e1
  · have hk2 : k < l.length ∧ (k = 2 * i + 1 ∨ k = 2 * i + 2) := hk.resolve_left (by omega)
    obtain ⟨hkl, hkc⟩ := hk2
    have hx : l[k]? = some l[k] := List.getElem?_eq_getElem hkl
    have hy : l[i]? = some (l[i]'(by omega)) := List.getElem?_eq_getElem (by omega)
    generalize l[k] = x at hx
    generalize l[i]'(by omega) = y at hy
    refine Tot.bind (Tot.mono (Q' := fun r => r = (l.set i x).set k y) ?_ ?_)
    · refine Tot.idxv (x := x) (by rw [idx_nat, hx]) (Tot.idxv (x := y) (by rw [idx_nat, hy]) (Tot.idxv (x := y) (by rw [idx_nat, hy]) ?_))
      rw [upd_nat, upd_nat]
      exact Tot.idx (by omega) (by rw [List.length_set]; omega) (fun z hz => Tot.ret rfl)
    · rintro _ rfl
      rw [key_of hx] at hki hmin
      rw [key_of hy] at hki
      refine Tot.ret ⟨⟨k, rfl, by simp; omega, (swap_perm hx hy).trans hperm, hd.swap hkc hx hy hki hmin⟩, ?_⟩
      simp only [List.length_set, Int.toNat_natCast]; omega
theorem pop_ok {l : List Visit} (h : HO l) (h0 : 0 < l.length) (hl : l.length ≤ 1000000) : Tot (fun n => path_heap_pop n l) (fun r => (r.1 :: r.2).Perm l ∧ HO r.2 ∧ ∀ v ∈ l, r.1.n_ ≤ v.n_) := by
  dsimp only [path_heap_pop]
  refine Tot.idx (by omega) (by omega) (fun a ha => ?_)
  rw [w64 (by omega) (by omega)]
  refine Tot.idx (by omega) (by omega) (fun z hz => Tot.idx (by omega) (by omega) (fun b hb => ?_))
  have e0 : (0 : Int) = ((0 : Nat) : Int) := rfl
  have ha : l[0]? = some a := ha
  have hz : l[l.length - 1]? = some z := by
    have : ((l.length : Int) - 1).toNat = l.length - 1 := by omega
    rwa [this] at hz
  have hu : upd l 0 z = l.set 0 z := upd_nat l 0 z
  rw [hu, List.length_set, w64 (by omega) (by omega)]
  have hcut : Gw.cut (l.set 0 z) 0 ((l.length : Int) - 1) = some ((l.set 0 z).take (l.length - 1)) := by
    unfold Gw.cut
    rw [if_pos (by rw [List.length_set]; omega)]
    simp only [show (0 : Int).toNat = 0 from rfl, List.drop_zero, show ((l.length : Int) - 1).toNat = l.length - 1 by omega]
  refine Tot.bind (Tot.val hcut ?_)
  have hkt : ∀ j, 0 < j → j < l.length - 1 → key ((l.set 0 z).take (l.length - 1)) j = key l j := fun j j0 jl => by
    unfold key
    rw [List.getElem?_take, if_pos jl, List.getElem?_set_ne (by omega)]
  have htl : ((l.set 0 z).take (l.length - 1)).length = l.length - 1 := by rw [List.length_take, List.length_set]; omega
  have hperm : (a :: (l.set 0 z).take (l.length - 1)).Perm l := by
    cases l with
    | nil => simp at h0
    | cons c t =>
      obtain rfl : c = a := by simpa using ha
      rcases List.eq_nil_or_concat t with rfl | ⟨m, y, rfl⟩
      · simp
      · have : y = z := by simpa using hz
        subst this
        simp only [List.concat_eq_append, List.set_cons_zero, List.length_cons, List.length_append, List.length_nil, Nat.zero_add, Nat.add_sub_cancel]
        rw [List.take_succ_cons, List.take_append_of_le_length (Nat.le_refl _), List.take_length]
        exact List.Perm.cons _ (List.perm_append_singleton y m).symm
  refine Tot.bind (Tot.mono (down_ok (by rw [htl]; omega) ⟨fun j j0 jl je => ?_, fun h0 => absurd h0 (by omega)⟩) (fun r hr => Tot.ret ⟨(List.Perm.cons _ hr.1).trans hperm, hr.2, fun v hv => ?_⟩))
  · rw [htl] at jl
    have : 0 < (j - 1) / 2 := by omega
    rw [hkt j j0 jl, hkt _ this (by omega)]
    exact h j j0 (by omega)
  · obtain ⟨j, hj, rfl⟩ := List.getElem_of_mem hv
    have := h.root j j (Nat.le_refl _) hj
    rw [key_of ha, key_of (List.getElem?_eq_getElem hj)] at this
    exact this
end Go.Proofs.Ytcdboppghnchpaa

namespace Go.Proofs.Ytcdboppghnchpaa
open Go Go.Proofs.Ytcdboppghnchpaa.Gw
set_option linter.unusedVariables false

/- ### Least costs -/
/-- How many cells have no cost yet. -/
def open_ (o : List Int) : Nat := o.countP fun x => decide (x < 0)
theorem vl_set {p : Plan} (h : Ok p) {o : List Int} (hl : o.length = p.Cells.length) {c d : Cell} (hc : Ins p c) (hd : Ins p d) (n : Int) : vl p (o.set (ix p c) n) d = if d = c then n else vl p o d := by
  unfold vl
  rw [List.getElem?_set]
  by_cases e : d = c
  · subst e; rw [if_pos rfl, if_pos rfl, if_pos (by rw [hl]; exact ix_lt h hd)]; rfl
  · rw [if_neg e, if_neg (fun e2 => e (ix_inj h hd hc e2.symm))]
/-- What is known between two steps. -/
structure DJ (p : Plan) (st : Cell) (o : List Int) (h : List Visit) (M : Int) : Prop where
  len : o.length = p.Cells.length
  ho : HO h
  m0 : 0 ≤ M
  fr : ∀ v ∈ h, Fr p v.c ∧ M ≤ v.n_
  src : ∀ v ∈ h, (v.c = st ∧ v.n_ = 0) ∨ ∃ d k, Ed p d v.c k ∧ 0 ≤ vl p o d ∧ v.n_ = vl p o d + k
  setl : ∀ c, Ins p c → 0 ≤ vl p o c → Fr p c ∧ vl p o c ≤ M ∧ ((c = st ∧ vl p o c = 0) ∨ ∃ d k, Ed p d c k ∧ 0 ≤ vl p o d ∧ vl p o c = vl p o d + k)
  edge : ∀ c d k, 0 ≤ vl p o c → Ed p c d k → (0 ≤ vl p o d ∧ vl p o d ≤ vl p o c + k) ∨ ∃ v ∈ h, v.c = d ∧ v.n_ ≤ vl p o c + k
  st0 : vl p o st = 0 ∨ (vl p o st < 0 ∧ ∃ v ∈ h, v.c = st ∧ v.n_ = 0)
theorem DJ.skip {p : Plan} {st : Cell} {o : List Int} {h h1 : List Visit} {M : Int} {a : Visit} (k : DJ p st o h M) (hp : (a :: h1).Perm h) (hh : HO h1) (hmin : ∀ v ∈ h, a.n_ ≤ v.n_) (hs : 0 ≤ vl p o a.c) : DJ p st o h1 a.n_ := by
  have ha : a ∈ h := hp.mem_iff.1 (by simp)
  have hsub : ∀ v ∈ h1, v ∈ h := fun v hv => hp.mem_iff.1 (by simp [hv])
  have hM := (k.fr a ha).2
  have h0 := k.m0
  refine ⟨k.len, hh, by omega, fun v hv => ⟨(k.fr v (hsub v hv)).1, hmin v (hsub v hv)⟩, fun v hv => k.src v (hsub v hv), fun c hc hv => ?_, fun c d j hc he => ?_, ?_⟩
  · obtain ⟨s1, s2, s3⟩ := k.setl c hc hv
    exact ⟨s1, by omega, s3⟩
  · rcases k.edge c d j hc he with h1 | ⟨v, hv, hvd, hvn⟩
    · exact .inl h1
    · rcases List.mem_cons.1 (hp.mem_iff.2 hv) with rfl | hv1
      · subst hvd
        have := (k.setl v.c (k.fr v hv).1.1 hs).2.1
        exact .inl ⟨hs, by omega⟩
      · exact .inr ⟨v, hv1, hvd, hvn⟩
  · rcases k.st0 with h1 | ⟨h1, v, hv, hvd, hvn⟩
    · exact .inl h1
    · rcases List.mem_cons.1 (hp.mem_iff.2 hv) with rfl | hv1
      · rw [hvd] at hs; omega
      · exact .inr ⟨h1, v, hv1, hvd, hvn⟩
theorem DJ.settle {p : Plan} (hok : Ok p) {st : Cell} (hst : Ins p st) {o : List Int} {h h1 h2 : List Visit} {M : Int} {a : Visit} (k : DJ p st o h M) (hp : (a :: h1).Perm h) (hmin : ∀ v ∈ h, a.n_ ≤ v.n_) (hs : vl p o a.c < 0)
    (hh : HO h2) (hsub2 : ∀ v ∈ h1, v ∈ h2) (hnew : ∀ v ∈ h2, v ∈ h1 ∨ ∃ k, Ed p a.c v.c k ∧ v.n_ = a.n_ + k) (hall : ∀ d k, Ed p a.c d k → 0 ≤ vl p (o.set (ix p a.c) a.n_) d ∨ ∃ v ∈ h2, v.c = d ∧ v.n_ = a.n_ + k) :
    DJ p st (o.set (ix p a.c) a.n_) h2 a.n_ := by
  have ha : a ∈ h := hp.mem_iff.1 (by simp)
  have hsub : ∀ v ∈ h1, v ∈ h := fun v hv => hp.mem_iff.1 (by simp [hv])
  obtain ⟨hfa, hM⟩ := k.fr a ha
  have hci := hfa.1
  have h0 := k.m0
  have hvs : ∀ d, Ins p d → vl p (o.set (ix p a.c) a.n_) d = if d = a.c then a.n_ else vl p o d := fun d hd => vl_set hok k.len hci hd _
  have hva : vl p (o.set (ix p a.c) a.n_) a.c = a.n_ := by rw [hvs _ hci, if_pos rfl]
  have hold : ∀ d, Ins p d → 0 ≤ vl p o d → vl p (o.set (ix p a.c) a.n_) d = vl p o d := fun d hd h0 => by
    rw [hvs d hd, if_neg]; rintro rfl; omega
  refine ⟨by rw [List.length_set]; exact k.len, hh, by omega, fun v hv => ?_, fun v hv => ?_, fun c hc hv => ?_, fun c d j hc he => ?_, ?_⟩
  · rcases hnew v hv with h3 | ⟨j, he, hn⟩
    · exact ⟨(k.fr v (hsub v h3)).1, hmin v (hsub v h3)⟩
    · exact ⟨he.2.1, by have := he.pos; omega⟩
  · rcases hnew v hv with h3 | ⟨j, he, hn⟩
    · rcases k.src v (hsub v h3) with h4 | ⟨d, j, he, hd0, hn⟩
      · exact .inl h4
      · exact .inr ⟨d, j, he, by rw [hold d he.1.1 hd0]; exact hd0, by rw [hold d he.1.1 hd0]; exact hn⟩
    · exact .inr ⟨a.c, j, he, by rw [hva]; omega, by rw [hva]; exact hn⟩
  · by_cases e : c = a.c
    · subst e
      rw [hva] at hv ⊢
      refine ⟨hfa, Int.le_refl _, ?_⟩
      rcases k.src a ha with h4 | ⟨d, j, he, hd0, hn⟩
      · exact .inl h4
      · exact .inr ⟨d, j, he, by rw [hold d he.1.1 hd0]; exact hd0, by rw [hold d he.1.1 hd0]; exact hn⟩
    · rw [hvs c hc, if_neg e] at hv ⊢
      obtain ⟨s1, s2, s3⟩ := k.setl c hc hv
      refine ⟨s1, by omega, s3.imp id ?_⟩
      rintro ⟨d, j, he, hd0, hn⟩
      exact ⟨d, j, he, by rw [hold d he.1.1 hd0]; exact hd0, by rw [hold d he.1.1 hd0]; exact hn⟩
  · by_cases e : c = a.c
    · subst e
      rw [hva]
      rcases hall d j he with h4 | ⟨v, hv, hvd, hvn⟩
      · refine .inl ⟨h4, ?_⟩
        have hpos := he.pos
        rw [hvs d he.2.1.1] at h4 ⊢
        split
        · omega
        · rename_i hne
          rw [if_neg hne] at h4
          have := (k.setl d he.2.1.1 h4).2.1
          omega
      · exact .inr ⟨v, hv, hvd, by omega⟩
    · rw [hvs c he.1.1, if_neg e] at hc ⊢
      rcases k.edge c d j hc he with ⟨h4, h5⟩ | ⟨v, hv, hvd, hvn⟩
      · exact .inl (by rw [hold d he.2.1.1 h4]; exact ⟨h4, h5⟩)
      · rcases List.mem_cons.1 (hp.mem_iff.2 hv) with rfl | hv1
        · subst hvd
          exact .inl (by rw [hva]; exact ⟨by omega, hvn⟩)
        · exact .inr ⟨v, hsub2 v hv1, hvd, hvn⟩
  · by_cases e : st = a.c
    · left
      rw [e, hva]
      rcases k.st0 with h1 | ⟨h1, v, hv, hvd, hvn⟩
      · rw [e] at h1; omega
      · have := hmin v hv; omega
    · rw [hvs st hst, if_neg e]
      rcases k.st0 with h1 | ⟨h1, v, hv, hvd, hvn⟩
      · exact .inl h1
      · rcases List.mem_cons.1 (hp.mem_iff.2 hv) with rfl | hv1
        · exact absurd hvd.symm e
        · exact .inr ⟨h1, v, hsub2 v hv1, hvd, hvn⟩
/-- What the costs to a cell are. -/
structure CostOk (p : Plan) (st : Cell) (o : List Int) : Prop where
  len : o.length = p.Cells.length
  st0 : vl p o st = 0
  fr : ∀ c, Ins p c → 0 ≤ vl p o c → Fr p c
  back : ∀ c, Ins p c → 0 ≤ vl p o c → c = st ∨ ∃ d k, Ed p d c k ∧ 0 ≤ vl p o d ∧ vl p o c = vl p o d + k
  edge : ∀ c d k, 0 ≤ vl p o c → Ed p c d k → 0 ≤ vl p o d ∧ vl p o d ≤ vl p o c + k
  small : ∀ c, Ins p c → vl p o c ≤ 10000000
theorem near_ok {p : Plan} (hok : Ok p) {a : Visit} (ha : Fr p a.c) (hn : 0 ≤ a.n_ ∧ a.n_ ≤ 10000000) {o : List Int} (ho : o.length = p.Cells.length) {h1 : List Visit} (hh : HO h1) (hl : h1.length ≤ 100000) :
    Tot (fun n => loopN (path_costs_L7 n p o a dirs) n (h1, 0)) (fun r => ∃ h2, r = .go (o.set (ix p a.c) a.n_, h2) ∧ HO h2 ∧ h2.length ≤ h1.length + 8 ∧ (∀ v ∈ h1, v ∈ h2) ∧ (∀ v ∈ h2, v ∈ h1 ∨ ∃ k, Ed p a.c v.c k ∧ v.n_ = a.n_ + k) ∧
      ∀ d k, Ed p a.c d k → 0 ≤ vl p (o.set (ix p a.c) a.n_) d ∨ ∃ v ∈ h2, v.c = d ∧ v.n_ = a.n_ + k) := by
  have hsm := hok.small
  have hup : upd o (IntKind.i64.wrap ((IntKind.i64.wrap (a.c.Y * p.W)) + a.c.X)) a.n_ = o.set (ix p a.c) a.n_ := by rw [ix_wrap hok ha.1, upd_nat]
  refine Tot.loop (fun s : List Visit × Int => ∃ i : Nat, s.2 = (i : Int) ∧ i ≤ 8 ∧ HO s.1 ∧ s.1.length ≤ h1.length + i ∧ (∀ v ∈ h1, v ∈ s.1) ∧ (∀ v ∈ s.1, v ∈ h1 ∨ ∃ k, Ed p a.c v.c k ∧ v.n_ = a.n_ + k) ∧
      ∀ j d k, j < i → dirs[j]? = some d → Ed p a.c ⟨a.c.X + d.X, a.c.Y + d.Y⟩ k → 0 ≤ vl p (o.set (ix p a.c) a.n_) ⟨a.c.X + d.X, a.c.Y + d.Y⟩ ∨ ∃ v ∈ s.1, v.c = ⟨a.c.X + d.X, a.c.Y + d.Y⟩ ∧ v.n_ = a.n_ + k) (fun s => 8 - s.2.toNat)
    ⟨0, rfl, by omega, hh, by dsimp only; omega, fun v hv => hv, fun v hv => .inl hv, fun j d k hj => by omega⟩ ?_
  rintro ⟨h, _⟩ ⟨i, rfl, hi, hho, hlen, hsub, hnew, hall⟩
  dsimp only [path_costs_L7] at *
  have hd8 : dirs.length = 8 := rfl
  refine Tot.condD (fun hc => ?_) (fun hc => Tot.ret ?_)
  · refine Tot.bind (Tot.mono (Q' := fun r : List Visit => HO r ∧ r.length ≤ h.length + 1 ∧ (∀ v ∈ h, v ∈ r) ∧ (∀ v ∈ r, v ∈ h ∨ ∃ k, Ed p a.c v.c k ∧ v.n_ = a.n_ + k) ∧
      ∀ d k, dirs[i]? = some d → Ed p a.c ⟨a.c.X + d.X, a.c.Y + d.Y⟩ k → 0 ≤ vl p (o.set (ix p a.c) a.n_) ⟨a.c.X + d.X, a.c.Y + d.Y⟩ ∨ ∃ v ∈ r, v.c = ⟨a.c.X + d.X, a.c.Y + d.Y⟩ ∧ v.n_ = a.n_ + k) ?_ ?_)
    · refine Tot.idx (by omega) (by omega) (fun d hd => ?_)
      rw [Int.toNat_natCast] at hd
      obtain ⟨k, b, he, hb1, hb2⟩ := cost_eq hok ha.1 hd 0
      refine Tot.bind (Tot.at_ (r := ((⟨a.c.X + d.X, a.c.Y + d.Y⟩ : Cell), k, b)) (fun n => he) ?_)
      dsimp only
      rw [hup]
      refine Tot.bind (Tot.mono (Q' := fun t => t = (b && decide (vl p (o.set (ix p a.c) a.n_) ⟨a.c.X + d.X, a.c.Y + d.Y⟩ < 0))) ?_ ?_)
      · refine Tot.cond (fun hbt => ?_) (fun hbf => Tot.ret (by rw [hbf]; rfl))
        have hdi := (hb1 hbt).2.1.1
        obtain ⟨x, hx⟩ : ∃ x, (o.set (ix p a.c) a.n_)[ix p ⟨a.c.X + d.X, a.c.Y + d.Y⟩]? = some x := ⟨_, List.getElem?_eq_getElem (by rw [List.length_set, ho]; exact ix_lt hok hdi)⟩
        refine Tot.idxv (x := x) ((idx_ix hok hdi _).trans hx) (Tot.ret ?_)
        rw [hbt, Bool.true_and]; unfold vl; rw [hx]; rfl
      · rintro _ rfl
        refine Tot.cond (fun ht => ?_) (fun ht => Tot.ret ?_)
        · simp only [Bool.and_eq_true, decide_eq_true_eq] at ht
          have hed := hb1 ht.1
          have hpos := hed.pos
          rw [w64 (x := a.n_ + k) (by omega) (by omega)]
          refine Tot.bind (Tot.mono (push_ok hho (by omega) _) (fun r hr => Tot.ret ⟨hr.2, ?_, fun v hv => hr.1.mem_iff.2 (by simp [hv]), fun v hv => ?_, fun d' k' hd' he' => ?_⟩))
          · have := hr.1.length_eq; simp at this; omega
          · have := hr.1.mem_iff.1 hv
            simp only [List.mem_append, List.mem_singleton] at this
            rcases this with h3 | rfl
            · exact .inl h3
            · exact .inr ⟨k, hed, rfl⟩
          · rw [hd] at hd'
            obtain rfl := Option.some.inj hd'
            obtain ⟨_, rfl⟩ := hb2 k' he'
            exact .inr ⟨⟨⟨a.c.X + d.X, a.c.Y + d.Y⟩, a.n_ + k⟩, hr.1.mem_iff.2 (by simp), rfl, rfl⟩
        · refine ⟨hho, by omega, fun v hv => hv, fun v hv => .inl hv, fun d' k' hd' he' => ?_⟩
          rw [hd] at hd'
          obtain rfl := Option.some.inj hd'
          obtain ⟨hbt, _⟩ := hb2 k' he'
          rw [hbt, Bool.true_and, decide_eq_false_iff_not] at ht
          exact .inl (by omega)
    · rintro r ⟨r1, r2, r3, r4, r5⟩
      refine Tot.ret ⟨⟨i + 1, ?_, by omega, r1, by dsimp only; omega, fun v hv => r3 v (hsub v hv), fun v hv => (r4 v hv).elim (hnew v) .inr, fun j d k hj hd he => ?_⟩, ?_⟩
      · rw [w64 (by omega) (by omega)]; rfl
      · rcases Nat.lt_or_ge j i with hji | hji
        · exact (hall j d k hji hd he).imp id fun ⟨v, hv, h3⟩ => ⟨v, r3 v hv, h3⟩
        · obtain rfl : j = i := by omega
          exact r5 d k hd he
      · rw [w64 (by omega) (by omega)]; simp only [Int.toNat_natCast]; omega
  · refine ⟨h, by rw [hup], hho, by omega, hsub, hnew, fun d k he => ?_⟩
    obtain ⟨j, hj, hjd⟩ := he.dir
    have e : (⟨a.c.X + (d.X - a.c.X), a.c.Y + (d.Y - a.c.Y)⟩ : Cell) = d := cell_ext (by dsimp only; omega) (by dsimp only; omega)
    have := hall j _ k (by omega) hjd (by dsimp only; rw [e]; exact he)
    dsimp only at this
    rwa [e] at this
theorem costs_ok {p : Plan} (hok : Ok p) {st : Cell} (hst : Fr p st) : Tot (fun n => path_costs n p st) (CostOk p st) := by
  have hsm := hok.small
  dsimp only [path_costs]
  rw [lenw ⟨hok.w1, hok.w2⟩ ⟨hok.h1, hok.h2⟩, ← hok.len]
  have hrep : ∀ n, slices_Repeatint_int_ n [-1] (p.Cells.length : Int) = some (List.replicate p.Cells.length (-1)) := fun n => by
    unfold slices_Repeatint_int_
    rw [if_pos ⟨rfl, by omega, by omega⟩]; rfl
  refine Tot.bind (Tot.at_ hrep ?_)
  refine Tot.bind (Tot.mono (Q' := CostOk p st) ?_ (fun o ho => Tot.ret ho))
  have hv0 : ∀ c, vl p (List.replicate p.Cells.length (-1)) c = -1 := fun c => by
    unfold vl
    rw [List.getElem?_replicate]
    split <;> rfl
  have hop : open_ (List.replicate p.Cells.length (-1)) = p.Cells.length := by simp [open_, List.countP_replicate]
  refine Tot.loop (fun s : List Int × List Visit => ∃ M : Int, DJ p st s.1 s.2 M ∧ 9 * open_ s.1 + s.2.length ≤ 9 * p.Cells.length + 1 ∧ M ≤ 99 * ((9 * p.Cells.length + 1 - (9 * open_ s.1 + s.2.length) : Nat) : Int) ∧ ∀ v ∈ s.2, v.n_ ≤ 99 * ((9 * p.Cells.length + 1 - (9 * open_ s.1 + s.2.length) : Nat) : Int))
    (fun s => 9 * open_ s.1 + s.2.length) ⟨0, ⟨by simp, fun j j0 jl => by simp at jl; omega, Int.le_refl _, fun v hv => ?_, fun v hv => ?_, fun c hc hv => ?_, fun c d k hc => ?_, ?_⟩, ?_, ?_, fun v hv => ?_⟩ ?_
  · simp at hv; subst hv; exact ⟨hst, Int.le_refl _⟩
  · simp at hv; subst hv; exact .inl ⟨rfl, rfl⟩
  · dsimp only at hv; rw [hv0] at hv; omega
  · dsimp only at hc; rw [hv0] at hc; omega
  · exact .inr ⟨by dsimp only; rw [hv0]; omega, ⟨st, 0⟩, by simp, rfl, rfl⟩
  · dsimp only; rw [hop]; simp
  · dsimp only; omega
  · simp at hv; subst hv; dsimp only; omega
  rintro ⟨o, h⟩ ⟨M, k, hmu, hM, hb⟩
  dsimp only [path_costs_L6] at *
  refine Tot.condD (fun hc => ?_) (fun hc => Tot.ret ?_)
  · refine Tot.bind (Tot.mono (pop_ok k.ho (by omega) (by omega)) ?_)
    rintro ⟨a, h1⟩ ⟨hp, hh1, hmin⟩
    dsimp only at *
    have ha : a ∈ h := hp.mem_iff.1 (by simp)
    have hfa := (k.fr a ha).1
    have hna := hb a ha
    have hM0 := k.m0
    have hMa := (k.fr a ha).2
    have hl1 : h.length = h1.length + 1 := by have := hp.length_eq; simp at this; omega
    obtain ⟨x, hx⟩ : ∃ x, o[ix p a.c]? = some x := ⟨_, List.getElem?_eq_getElem (by rw [k.len]; exact ix_lt hok hfa.1)⟩
    have hvx : vl p o a.c = x := by unfold vl; rw [hx]; rfl
    refine Tot.idxv (x := x) ((idx_ix hok hfa.1 _).trans hx) ?_
    refine Tot.condD (fun hx0 => Tot.ret ?_) (fun hx0 => ?_)
    · have k' := k.skip hp hh1 hmin (by omega)
      refine ⟨⟨a.n_, k', by dsimp only; omega, by dsimp only; omega, fun v hv => ?_⟩, by dsimp only; omega⟩
      have := hb v (hp.mem_iff.1 (by simp [hv]))
      dsimp only; omega
    · refine Tot.bind (Tot.at_ (fun n => turns_eq n) ?_)
      refine Tot.mono (near_ok (h1 := h1) hok hfa ⟨by omega, by omega⟩ k.len hh1 (by omega)) ?_
      rintro _ ⟨h2, rfl, q1, q2, q3, q4, q5⟩
      have k' := k.settle hok hst.1 hp hmin (by omega) q1 q3 q4 q5
      have hil := ix_lt hok hfa.1
      have hop2 : open_ (o.set (ix p a.c) a.n_) + 1 = open_ o := by
        unfold open_
        rw [List.countP_set (by rw [k.len]; exact hil)]
        have e1 : o[ix p a.c]'(by rw [k.len]; exact hil) = x := by
          rw [List.getElem?_eq_getElem (by rw [k.len]; exact hil)] at hx; exact Option.some.inj hx
        have hpos : 0 < o.countP fun x => decide (x < 0) := List.countP_pos_iff.2 ⟨x, List.mem_of_getElem? hx, by simpa using hx0⟩
        rw [e1, if_pos (by simpa using hx0), if_neg (by simp; omega)]
        omega
      refine ⟨⟨a.n_, k', by dsimp only; omega, by dsimp only; omega, fun v hv => ?_⟩, by dsimp only; omega⟩
      dsimp only at *
      rcases q4 v hv with h3 | ⟨j, he, hn⟩
      · have := hb v (hp.mem_iff.1 (by simp [h3]))
        omega
      · have := he.pos; omega
  · have h0 : h = [] := List.eq_nil_of_length_eq_zero (by omega)
    subst h0
    refine ⟨k.len, ?_, fun c hc hv => (k.setl c hc hv).1, fun c hc hv => ?_, fun c d j hc he => ?_, fun c hc => ?_⟩
    · rcases k.st0 with h1 | ⟨_, v, hv, _⟩
      · exact h1
      · cases hv
    · exact (k.setl c hc hv).2.2.imp (·.1) id
    · rcases k.edge c d j hc he with h1 | ⟨v, hv, _⟩
      · exact h1
      · cases hv
    · rcases Int.lt_or_le (vl p o c) 0 with h1 | h1
      · omega
      · have := (k.setl c hc h1).2.1; omega
/-- Costs, whole. -/
theorem Costs_ok {p : Plan} (hp : p.Cells.length ≤ maxLen) (st : Cell) : Tot (fun n => path_Costs n p st) (fun r => (¬ Ok p ∧ r = ([], 1)) ∨ (Ok p ∧ ¬ Fr p st ∧ r = ([], 7)) ∨ (Ok p ∧ Fr p st ∧ r.2 = 0 ∧ CostOk p st r.1)) := by
  dsimp only [path_Costs]
  refine Tot.bind (Tot.mono (valid_ok hp) ?_)
  rintro _ rfl
  refine Tot.cond (fun hc => Tot.ret ?_) (fun hc => ?_)
  · exact .inl ⟨by simpa using hc, rfl⟩
  · have h : Ok p := by simpa using hc
    refine Tot.bind (Tot.at_ (fun n => pfree_eq h n st) ?_)
    refine Tot.cond (fun hc => Tot.ret ?_) (fun hc => ?_)
    · exact .inr (.inl ⟨h, by simpa using hc, rfl⟩)
    · have hst : Fr p st := by simpa using hc
      refine Tot.bind (Tot.mono (costs_ok h hst) (fun o ho => Tot.ret ?_))
      exact .inr (.inr ⟨h, hst, rfl, ho⟩)
end Go.Proofs.Ytcdboppghnchpaa

namespace Go.Proofs.Ytcdboppghnchpaa
open Go Go.Proofs.Ytcdboppghnchpaa.Gw
set_option linter.unusedVariables false

/- ### Walks -/
inductive Wlk (p : Plan) : Cell → Cell → Int → Prop
  | nil (a : Cell) : Wlk p a a 0
  | snoc {a b c : Cell} {k j : Int} : Wlk p a b k → Ed p b c j → Wlk p a c (k + j)
theorem Wlk.app {p : Plan} {a b c : Cell} {k j : Int} (h : Wlk p a b k) (g : Wlk p b c j) : Wlk p a c (k + j) := by
  induction g with
  | nil => rw [Int.add_zero]; exact h
  | snoc g1 he ih => rw [← Int.add_assoc]; exact ih.snoc he
theorem Wlk.one {p : Plan} {a b : Cell} {k : Int} (h : Ed p a b k) : Wlk p a b k := by
  have := (Wlk.nil a).snoc h
  rwa [Int.zero_add] at this
theorem Wlk.rev {p : Plan} {a b : Cell} {k : Int} (h : Wlk p a b k) : Wlk p b a k := by
  induction h with
  | nil => exact .nil a
  | snoc _ he ih => rw [Int.add_comm]; exact (Wlk.one he.symm).app ih
theorem CostOk.le {p : Plan} {st : Cell} {o : List Int} (h : CostOk p st o) {c : Cell} {k : Int} (hw : Wlk p st c k) : 0 ≤ vl p o c ∧ vl p o c ≤ k := by
  induction hw with
  | nil => rw [h.st0]; omega
  | snoc _ he ih =>
    have := h.edge _ _ _ ih.1 he
    omega
theorem CostOk.walk {p : Plan} {st : Cell} {o : List Int} (h : CostOk p st o) : ∀ (n : Nat) (c : Cell), Ins p c → 0 ≤ vl p o c → (vl p o c).toNat ≤ n → Wlk p st c (vl p o c)
  | n, c, hc, hv, hn => by
    rcases h.back c hc hv with rfl | ⟨d, k, he, hd, hk⟩
    · rw [h.st0]; exact .nil _
    · have hpos := he.pos
      cases n with
      | zero => omega
      | succ n =>
        rw [hk]
        exact (h.walk n d he.1.1 hd (by omega)).snoc he
/-- Costs are the same in both directions. -/
theorem CostOk.symm {p : Plan} {a b : Cell} {oa ob : List Int} (ha : CostOk p a oa) (hb : CostOk p b ob) (ia : Ins p a) (ib : Ins p b) (h : 0 ≤ vl p oa b) : vl p ob a = vl p oa b := by
  have h1 := hb.le (ha.walk _ b ib h (Nat.le_refl _)).rev
  have h2 := ha.le (hb.walk _ a ia h1.1 (Nat.le_refl _)).rev
  omega
theorem CostOk.rch {p : Plan} {st : Cell} {o : List Int} (h : CostOk p st o) (hst : Fr p st) {c : Cell} (hc : Ins p c) : 0 ≤ vl p o c ↔ Rch p st c := by
  constructor
  · intro hv
    have hw := h.walk _ c hc hv (Nat.le_refl _)
    generalize vl p o c = k at hw
    clear hv hc
    induction hw with
    | nil => exact .base hst
    | snoc _ he ih => exact he.rch ih
  · intro hr
    induction hr with
    | base _ => rw [h.st0]; omega
    | step hr hd hf ih => exact (h.edge _ _ _ (ih hr.fr.1) (Ed.side hr.fr hf hd)).1

/- ### Find -/
theorem next_ok {p : Plan} (hok : Ok p) {g : Cell} {o : List Int} (h : CostOk p g o) {c : Cell} (hc : Ins p c) (hv : 0 ≤ vl p o c) (hne : c ≠ g) (out : List Cell) (hl : out.length ≤ 100000000) :
    Tot (fun n => loopN (path_Find_L13 n p o out c.X c.Y dirs) n 0) (fun r => ∃ d k, r = out ++ [d] ∧ Ed p c d k ∧ 0 ≤ vl p o d ∧ vl p o c = vl p o d + k) := by
  obtain ⟨d0, k0, he0, hd0, hk0⟩ := (h.back c hc hv).resolve_left hne
  have he0 := he0.symm
  refine Tot.loop (fun s : Int => ∃ i : Nat, s = (i : Int) ∧ i ≤ 8 ∧ ∀ j d k, j < i → dirs[j]? = some d → Ed p c ⟨c.X + d.X, c.Y + d.Y⟩ k → vl p o ⟨c.X + d.X, c.Y + d.Y⟩ + k ≠ vl p o c) (fun s => 8 - s.toNat)
    ⟨0, rfl, by omega, fun j d k hj => by omega⟩ ?_
  rintro _ ⟨i, rfl, hi, hall⟩
  dsimp only [path_Find_L13]
  have hd8 : dirs.length = 8 := rfl
  refine Tot.condD (fun hc8 => ?_) (fun hc8 => Tot.ret ?_)
  · refine Tot.idx (by omega) (by omega) (fun d hd => ?_)
    rw [Int.toNat_natCast] at hd
    obtain ⟨k, b, he, hb1, hb2⟩ := cost_eq hok hc hd 0
    refine Tot.bind (Tot.at_ (r := ((⟨c.X + d.X, c.Y + d.Y⟩ : Cell), k, b)) (fun n => he) ?_)
    refine Tot.bind (Tot.mono (Q' := fun t => t = (b && decide (vl p o ⟨c.X + d.X, c.Y + d.Y⟩ + k = vl p o c))) ?_ ?_)
    · refine Tot.cond (fun hbt => ?_) (fun hbf => Tot.ret (by rw [show b = false from hbf]; rfl))
      have hbt : b = true := hbt
      have hed := hb1 hbt
      have hdi := hed.2.1.1
      obtain ⟨x, hx⟩ : ∃ x, o[ix p ⟨c.X + d.X, c.Y + d.Y⟩]? = some x := ⟨_, List.getElem?_eq_getElem (by rw [h.len]; exact ix_lt hok hdi)⟩
      obtain ⟨y, hy⟩ : ∃ y, o[ix p c]? = some y := ⟨_, List.getElem?_eq_getElem (by rw [h.len]; exact ix_lt hok hc)⟩
      have hvx : vl p o ⟨c.X + d.X, c.Y + d.Y⟩ = x := by unfold vl; rw [hx]; rfl
      have hvy : vl p o c = y := by unfold vl; rw [hy]; rfl
      refine Tot.idxv (x := x) ((idx_ix hok hdi _).trans hx) (Tot.idxv (x := y) ((idx_ix hok hc _).trans hy) (Tot.ret ?_))
      have h2 := (h.edge _ _ _ hv hed).1
      have h3 := h.small _ hdi
      have hpos := hed.pos
      dsimp only
      rw [hbt, Bool.true_and, hvx, hvy, w64 (x := x + k) (by omega) (by omega), Bool.eq_iff_iff, beq_iff_eq, decide_eq_true_eq]
    · rintro _ rfl
      refine Tot.cond (fun ht => ?_) (fun ht => Tot.ret ?_)
      · simp only [Bool.and_eq_true, decide_eq_true_eq] at ht
        have hed := hb1 ht.1
        exact Tot.app (by simp only [List.length_singleton]; omega) (Tot.ret ⟨_, k, rfl, hed, (h.edge _ _ _ hv hed).1, ht.2.symm⟩)
      · refine ⟨⟨i + 1, ?_, by omega, fun j d' k' hj hd' he' => ?_⟩, ?_⟩
        · rw [w64 (by omega) (by omega)]; rfl
        · rcases Nat.lt_or_ge j i with hji | hji
          · exact hall j d' k' hji hd' he'
          · obtain rfl : j = i := by omega
            rw [hd] at hd'
            obtain rfl := Option.some.inj hd'
            obtain ⟨hbt, rfl⟩ := hb2 k' he'
            rw [hbt, Bool.true_and, decide_eq_false_iff_not] at ht
            exact ht
        · rw [w64 (by omega) (by omega)]; simp only [Int.toNat_natCast]; omega
  · exfalso
    obtain ⟨j, hj, hjd⟩ := he0.dir
    have e : (⟨c.X + (d0.X - c.X), c.Y + (d0.Y - c.Y)⟩ : Cell) = d0 := cell_ext (by dsimp only; omega) (by dsimp only; omega)
    have := hall j _ k0 (by omega) hjd (by dsimp only; rw [e]; exact he0)
    dsimp only at this
    rw [e] at this
    exact this hk0.symm
theorem find_ok {p : Plan} (hp : p.Cells.length ≤ maxLen) (hok : Ok p) {s g : Cell} (hs : Fr p s) (hg : Fr p g) {o : List Int} (ho : CostOk p s o) (hv : 0 ≤ vl p o g) : Tot (fun n => path_Find n p s g) (fun r => r.2.1 = vl p o g ∧ r.2.2 = 0) := by
  dsimp only [path_Find]
  refine Tot.bind (Tot.mono (valid_ok hp) ?_)
  rintro _ rfl
  refine Tot.cond (fun hc => by simp [hok] at hc) (fun _ => ?_)
  refine Tot.bind (Tot.mono (Q' := fun b => b = false) ?_ ?_)
  · refine Tot.bind (Tot.at_ (fun n => pfree_eq hok n s) (Tot.cond (fun hc => by simp [hs] at hc) (fun _ => ?_)))
    exact Tot.bind (Tot.at_ (fun n => pfree_eq hok n g) (Tot.ret (by simp [hg])))
  · rintro _ rfl
    refine Tot.cond (fun hc => by cases hc) (fun _ => ?_)
    refine Tot.bind (Tot.mono (costs_ok hok hg) (fun l hl => ?_))
    have hsy := CostOk.symm ho hl hs.1 hg.1 hv
    obtain ⟨x, hx⟩ : ∃ x, l[ix p s]? = some x := ⟨_, List.getElem?_eq_getElem (by rw [hl.len]; exact ix_lt hok hs.1)⟩
    have hvx : vl p l s = x := by unfold vl; rw [hx]; rfl
    refine Tot.idxv (x := x) ((idx_ix hok hs.1 _).trans hx) ?_
    have hx0 : x = vl p o g := hvx.symm.trans hsy
    refine Tot.condD (fun hc => absurd hc (by omega)) (fun hc => ?_)
    refine Tot.bind (Tot.mono (Q' := fun _ => True) ?_ (fun r _ => Tot.ret ⟨by dsimp only; omega, rfl⟩))
    have hsm := hl.small s hs.1
    refine Tot.loop (fun st : List Cell × Int × Int => Ins p ⟨st.2.1, st.2.2⟩ ∧ 0 ≤ vl p l ⟨st.2.1, st.2.2⟩ ∧ st.1.length + (vl p l ⟨st.2.1, st.2.2⟩).toNat ≤ 10000001) (fun st => (vl p l ⟨st.2.1, st.2.2⟩).toNat)
      ⟨hs.1, by show 0 ≤ vl p l s; omega, by show 1 + (vl p l s).toNat ≤ 10000001; omega⟩ ?_
    rintro ⟨out, x1, y1⟩ ⟨hi, hv1, hb⟩
    dsimp only [path_Find_L11] at *
    refine Tot.cond (fun hc => ?_) (fun hc => Tot.ret trivial)
    have hne : (⟨x1, y1⟩ : Cell) ≠ g := by
      rintro rfl
      simp at hc
    refine Tot.bind (Tot.mono (Q' := fun r => ∃ d k, r = out ++ [d] ∧ Ed p ⟨x1, y1⟩ d k ∧ 0 ≤ vl p l d ∧ vl p l ⟨x1, y1⟩ = vl p l d + k) ?_ ?_)
    · exact Tot.bind (Tot.at_ (fun n => turns_eq n) (next_ok hok hl hi hv1 hne out (by omega)))
    · rintro _ ⟨d, k, rfl, he, hd0, hk⟩
      have hpos := he.pos
      have hlen1 : ((out ++ [d]).length : Int) = out.length + 1 := by simp
      rw [w64 (by omega) (by omega)]
      refine Tot.idxv (x := d) ?_ (Tot.ret ⟨⟨he.2.1.1, hd0, ?_⟩, ?_⟩)
      · have : (((out ++ [d]).length : Int) - 1) = (out.length : Int) := by simp
        rw [this, idx_nat]; simp
      · show (out ++ [d]).length + (vl p l d).toNat ≤ 10000001
        simp only [List.length_append, List.length_singleton]; omega
      · show (vl p l d).toNat < (vl p l ⟨x1, y1⟩).toNat
        omega
end Go.Proofs.Ytcdboppghnchpaa

namespace Go.Proofs.Ytcdboppghnchpaa
open Go Go.Proofs.Ytcdboppghnchpaa.Gw
set_option linter.unusedVariables false

/- ### Cells that border on unknown ones -/
def FrC (p : Plan) (c : Cell) : Prop := Fr p c ∧ (Has p ⟨c.X + 1, c.Y⟩ 0 ∨ Has p ⟨c.X - 1, c.Y⟩ 0 ∨ Has p ⟨c.X, c.Y + 1⟩ 0 ∨ Has p ⟨c.X, c.Y - 1⟩ 0)
instance (p : Plan) (c : Cell) : Decidable (FrC p c) := by unfold FrC; infer_instance
theorem FrC.iff {p : Plan} {c : Cell} : FrC p c ↔ Fr p c ∧ ∃ d ∈ sidesL c, Has p d 0 := by
  unfold FrC
  refine and_congr_right fun _ => ⟨fun h => ?_, fun ⟨d, hd, h⟩ => ?_⟩
  · rcases h with h | h | h | h
    · exact ⟨_, by simp [sidesL], h⟩
    · exact ⟨_, by simp [sidesL], h⟩
    · exact ⟨_, by simp [sidesL], h⟩
    · exact ⟨_, by simp [sidesL], h⟩
  · simp only [sidesL, List.mem_cons, List.not_mem_nil, or_false] at hd
    rcases hd with rfl | rfl | rfl | rfl
    · exact .inl h
    · exact .inr (.inr (.inl h))
    · exact .inr (.inl h)
    · exact .inr (.inr (.inr h))
theorem row_ok {p : Plan} (hok : Ok p) {y : Int} (hy : 0 ≤ y ∧ y < p.H) {l0 : List Cell} (h0 : l0.Nodup) (hm : ∀ c, c ∈ l0 ↔ FrC p c ∧ c.Y < y) : Tot (fun n => loopN (frontier_cells_L13 n p y) n (l0, 0)) (fun l => l.Nodup ∧ ∀ c, c ∈ l ↔ FrC p c ∧ c.Y < y + 1) := by
  have hw2 := hok.w2; have hh2 := hok.h2; have hw1 := hok.w1; have hsm := hok.small
  refine Tot.loop (fun s : List Cell × Int => 0 ≤ s.2 ∧ s.2 ≤ p.W ∧ s.1.Nodup ∧ ∀ c, c ∈ s.1 ↔ FrC p c ∧ (c.Y < y ∨ c.Y = y ∧ c.X < s.2)) (fun s => (p.W - s.2).toNat)
    ⟨Int.le_refl _, by dsimp only; omega, h0, fun c => ?_⟩ ?_
  · dsimp only
    rw [hm]
    refine and_congr_right fun hc => ⟨.inl, fun h => h.elim id fun h => ?_⟩
    have := hc.1.1.1; omega
  rintro ⟨l, x⟩ ⟨hx0, hxW, hnd, hmem⟩
  dsimp only [frontier_cells_L13] at *
  have hlen : l.length ≤ p.Cells.length := fewC hok hnd fun c hc => ((hmem c).1 hc).1.1.1
  refine Tot.condD (fun hc => ?_) (fun hc => Tot.ret ⟨hnd, fun c => ?_⟩)
  · rw [w64 (x := x + 1) (by omega) (by omega), w64 (x := x - 1) (by omega) (by omega), w64 (x := y + 1) (by omega) (by omega), w64 (x := y - 1) (by omega) (by omega)]
    refine Tot.bind (Tot.mono (Q' := fun r => r = if FrC p ⟨x, y⟩ then l ++ [⟨x, y⟩] else l) ?_ ?_)
    · refine Tot.bind (Tot.at_ (fun n => is_eq hok n ⟨x, y⟩ 1) (Tot.cond (fun hf => Tot.ret ?_) (fun hf => ?_)))
      · rw [if_neg]; intro h; have := h.1; simp [this] at hf
      · have hf : Fr p ⟨x, y⟩ := by simpa using hf
        refine Tot.bind (Tot.mono (Q' := fun b => b = decide (FrC p ⟨x, y⟩)) ?_ ?_)
        · refine Tot.bind (Tot.at_ (fun n => is_eq hok n ⟨x + 1, y⟩ 0) (Tot.condD (fun h1 => Tot.ret ?_) (fun h1 => ?_)))
          · symm; rw [decide_eq_true_eq]; exact ⟨hf, .inl h1⟩
          refine Tot.bind (Tot.at_ (fun n => is_eq hok n ⟨x - 1, y⟩ 0) (Tot.condD (fun h2 => Tot.ret ?_) (fun h2 => ?_)))
          · symm; rw [decide_eq_true_eq]; exact ⟨hf, .inr (.inl h2)⟩
          refine Tot.bind (Tot.at_ (fun n => is_eq hok n ⟨x, y + 1⟩ 0) (Tot.condD (fun h3 => Tot.ret ?_) (fun h3 => ?_)))
          · symm; rw [decide_eq_true_eq]; exact ⟨hf, .inr (.inr (.inl h3))⟩
          refine Tot.bind (Tot.at_ (fun n => is_eq hok n ⟨x, y - 1⟩ 0) (Tot.ret ?_))
          rw [decide_eq_decide]
          exact ⟨fun h4 => ⟨hf, .inr (.inr (.inr h4))⟩, fun h4 => ((h4.2.resolve_left h1).resolve_left h2).resolve_left h3⟩
        · rintro _ rfl
          refine Tot.condD (fun h => ?_) (fun h => Tot.ret (by rw [if_neg h]))
          rw [if_pos h]
          exact Tot.app (by simp; omega) (Tot.ret rfl)
    · rintro _ rfl
      refine Tot.ret ⟨⟨by dsimp only; omega, by dsimp only; omega, ?_, fun c => ?_⟩, by dsimp only; omega⟩
      · dsimp only
        split
        · rw [List.nodup_append]
          refine ⟨hnd, by simp, fun a ha b hb => ?_⟩
          simp at hb; subst hb; rintro rfl
          have := ((hmem _).1 ha).2
          dsimp only at this; omega
        · exact hnd
      · dsimp only
        split
        · rename_i hf
          rw [List.mem_append, hmem, List.mem_singleton]
          constructor
          · rintro (⟨h1, h2⟩ | rfl)
            · exact ⟨h1, by omega⟩
            · exact ⟨hf, by dsimp only; omega⟩
          · rintro ⟨h1, h2⟩
            by_cases e : c.Y = y ∧ c.X = x
            · exact .inr (cell_ext e.2 e.1)
            · exact .inl ⟨h1, by omega⟩
        · rename_i hf
          rw [hmem]
          refine and_congr_right fun h1 => ⟨fun h => by omega, fun h => ?_⟩
          by_cases e : c.Y = y ∧ c.X = x
          · exact absurd (cell_ext (a := c) (b := ⟨x, y⟩) e.2 e.1 ▸ h1) hf
          · omega
  · rw [hmem]
    refine and_congr_right fun h1 => ⟨fun h => by omega, fun h => ?_⟩
    have := h1.1.1.2.1; omega
theorem cells_ok {p : Plan} (hok : Ok p) : Tot (fun n => frontier_cells n p) (fun l => l.Nodup ∧ ∀ c, c ∈ l ↔ FrC p c) := by
  have hh1 := hok.h1; have hh2 := hok.h2
  dsimp only [frontier_cells]
  refine Tot.bind (Tot.mono (Q' := fun l => l.Nodup ∧ ∀ c, c ∈ l ↔ FrC p c) ?_ (fun l hl => Tot.ret hl))
  refine Tot.loop (fun s : List Cell × Int => 0 ≤ s.2 ∧ s.2 ≤ p.H ∧ s.1.Nodup ∧ ∀ c, c ∈ s.1 ↔ FrC p c ∧ c.Y < s.2) (fun s => (p.H - s.2).toNat) ⟨Int.le_refl _, by dsimp only; omega, by simp, fun c => ?_⟩ ?_
  · dsimp only
    refine ⟨fun h => (by cases h), fun h => ?_⟩
    have := h.1.1.1.2.2.1; omega
  rintro ⟨l, y⟩ ⟨hy0, hyH, hnd, hmem⟩
  dsimp only [frontier_cells_L11] at *
  refine Tot.condD (fun hc => ?_) (fun hc => Tot.ret ⟨hnd, fun c => ?_⟩)
  · refine Tot.bind (Tot.mono (row_ok hok ⟨hy0, hc⟩ hnd hmem) (fun r hr => Tot.ret ?_))
    rw [w64 (by omega) (by omega)]
    exact ⟨⟨by dsimp only; omega, by dsimp only; omega, hr.1, hr.2⟩, by dsimp only; omega⟩
  · rw [hmem]
    refine ⟨fun h => h.1, fun h => ⟨h, ?_⟩⟩
    have := h.1.1.2.2.2; omega

/- ### Clusters -/
/-- What a cluster has taken: of the cells B and its first one. -/
structure CK (B : List Cell) (c0 : Cell) (L cl : List Cell) : Prop where
  nd : L.Nodup
  sub : ∀ x ∈ L, x ∈ B
  mem : ∀ x ∈ cl, x = c0 ∨ x ∈ B
  all : ∀ x ∈ B, x ∈ L ∨ x ∈ cl
  c0 : c0 ∈ cl
  len : L.length + cl.length = B.length + 1
theorem CK.take {B : List Cell} {c0 d : Cell} {L cl : List Cell} (h : CK B c0 L cl) (hd : d ∈ L) : CK B c0 (L.erase d) (cl ++ [d]) := by
  refine ⟨h.nd.erase d, fun x hx => h.sub x (List.mem_of_mem_erase hx), fun x hx => ?_, fun x hx => ?_, by simp [h.c0], ?_⟩
  · simp only [List.mem_append, List.mem_singleton] at hx
    rcases hx with hx | rfl
    · exact h.mem x hx
    · exact .inr (h.sub x hd)
  · by_cases e : x = d
    · subst e; simp
    · rcases h.all x hx with h1 | h1
      · exact .inl ((List.mem_erase_of_ne e).2 h1)
      · exact .inr (by simp [h1])
  · have h1 := h.len
    have h2 : 0 < L.length := List.length_pos_of_mem hd
    rw [List.length_erase_of_mem hd, List.length_append, List.length_singleton]; omega
theorem grow_ok {p : Plan} (hok : Ok p) {B : List Cell} {c0 : Cell} (hB : ∀ x ∈ B, Ins p x) (hc0 : Ins p c0) (hl : B.length ≤ 4096) {L cl : List Cell} (h : CK B c0 L cl) {i : Nat} (hi : i < cl.length) (dy : Int) (hdy : -1 ≤ dy ∧ dy ≤ 1) :
    Tot (fun n => loopN (frontier_Clusters_L1035 (i : Int) dy) n (tr L, cl, -1)) (fun r => ∃ L', r.1 = tr L' ∧ CK B c0 L' r.2 ∧ i < r.2.length) := by
  refine Tot.loop0 (fun s : List (Cell × Bool) × List Cell × Int => ∃ L', s.1 = tr L' ∧ CK B c0 L' s.2.1 ∧ i < s.2.1.length ∧ -1 ≤ s.2.2 ∧ s.2.2 ≤ 2) (fun s => (2 - s.2.2).toNat) ⟨L, rfl, h, hi, by dsimp only; omega, by dsimp only; omega⟩ ?_
  rintro ⟨_, cl, dx⟩ ⟨L, rfl, h, hi, hx1, hx2⟩
  dsimp only [frontier_Clusters_L1035] at *
  have hlen := h.len
  refine Tot.condD (fun hc => ?_) (fun hc => Tot.ret ⟨L, rfl, h, hi⟩)
  refine Tot.bind (Tot.mono (Q' := fun r => ∃ L', r.1 = tr L' ∧ CK B c0 L' r.2 ∧ i < r.2.length) ?_ ?_)
  · obtain ⟨c, hcx⟩ : ∃ c, cl[i]? = some c := ⟨_, List.getElem?_eq_getElem hi⟩
    have hci : Ins p c := (h.mem c (List.mem_of_getElem? hcx)).elim (fun e => e ▸ hc0) (hB c)
    have hb := ins_bound hok hci
    refine Tot.bind (Tot.mono (Q' := fun r : Int × Int => r = (c.X + dx, c.Y + dy)) ?_ ?_)
    · refine Tot.idxv (x := c) (by rw [idx_nat, hcx]) (Tot.idxv (x := c) (by rw [idx_nat, hcx]) (Tot.ret ?_))
      rw [w64 (by omega) (by omega), w64 (by omega) (by omega)]
    · rintro _ rfl
      dsimp only
      rw [mget_tr, mdel_tr]
      refine Tot.condD (fun hd => ?_) (fun hd => Tot.ret ⟨L, rfl, h, hi⟩)
      exact Tot.app (by simp; omega) (Tot.ret ⟨_, rfl, h.take hd, by simp; omega⟩)
  · rintro ⟨l, cl'⟩ ⟨L', h1, h2, h3⟩
    refine Tot.ret ?_
    rw [w64 (by omega) (by omega)]
    exact ⟨⟨L', h1, h2, h3, by dsimp only; omega, by dsimp only; omega⟩, by dsimp only; omega⟩
theorem ring_ok {p : Plan} (hok : Ok p) {B : List Cell} {c0 : Cell} (hB : ∀ x ∈ B, Ins p x) (hc0 : Ins p c0) (hl : B.length ≤ 4096) {L cl : List Cell} (h : CK B c0 L cl) {i : Nat} (hi : i < cl.length) :
    Tot (fun n => loopN (frontier_Clusters_L1033 n (i : Int)) n (tr L, cl, -1)) (fun r => ∃ L', r.1 = tr L' ∧ CK B c0 L' r.2 ∧ i < r.2.length) := by
  refine Tot.loop (fun s : List (Cell × Bool) × List Cell × Int => ∃ L', s.1 = tr L' ∧ CK B c0 L' s.2.1 ∧ i < s.2.1.length ∧ -1 ≤ s.2.2 ∧ s.2.2 ≤ 2) (fun s => (2 - s.2.2).toNat) ⟨L, rfl, h, hi, by dsimp only; omega, by dsimp only; omega⟩ ?_
  rintro ⟨_, cl, dy⟩ ⟨L, rfl, h, hi, hx1, hx2⟩
  dsimp only [frontier_Clusters_L1033] at *
  refine Tot.condD (fun hc => ?_) (fun hc => Tot.ret ⟨L, rfl, h, hi⟩)
  refine Tot.bind (Tot.mono (grow_ok hok hB hc0 hl h hi dy ⟨by omega, by omega⟩) ?_)
  rintro ⟨l, cl'⟩ ⟨L', h1, h2, h3⟩
  refine Tot.ret ?_
  rw [w64 (by omega) (by omega)]
  exact ⟨⟨L', h1, h2, h3, by dsimp only; omega, by dsimp only; omega⟩, by dsimp only; omega⟩
theorem cluster_ok {p : Plan} (hok : Ok p) {B : List Cell} {c0 : Cell} (hB : ∀ x ∈ B, Ins p x) (hc0 : Ins p c0) (hl : B.length ≤ 4096) (hn : B.Nodup) :
    Tot (fun n => loopN (frontier_Clusters_L1021 n) n (tr B, [c0], 0)) (fun r => ∃ L', r.1 = tr L' ∧ CK B c0 L' r.2) := by
  refine Tot.loop (fun s : List (Cell × Bool) × List Cell × Int => ∃ (L' : List Cell) (i : Nat), s.1 = tr L' ∧ CK B c0 L' s.2.1 ∧ s.2.2 = (i : Int) ∧ i ≤ s.2.1.length) (fun s => B.length + 1 - s.2.2.toNat)
    ⟨B, 0, rfl, ⟨hn, fun x hx => hx, fun x hx => by simp at hx; exact .inl hx, fun x hx => .inl hx, by simp, by simp⟩, rfl, by omega⟩ ?_
  rintro ⟨_, cl, _⟩ ⟨L, i, rfl, h, rfl, hi⟩
  dsimp only [frontier_Clusters_L1021] at *
  have hlen := h.len
  refine Tot.condD (fun hc => ?_) (fun hc => Tot.ret ⟨L, rfl, h⟩)
  refine Tot.bind (Tot.mono (ring_ok hok hB hc0 hl h (i := i) (by omega)) ?_)
  rintro ⟨l, cl'⟩ ⟨L', h1, h2, h3⟩
  refine Tot.ret ?_
  rw [w64 (by omega) (by omega)]
  exact ⟨⟨L', i + 1, h1, h2, rfl, by dsimp only at *; omega⟩, by dsimp only; omega⟩
theorem clusters_ok {p : Plan} (hp : p.Cells.length ≤ maxLen) (hok : Ok p) : Tot (fun n => frontier_Clusters n p) (fun r => r.2 = 0 ∧ r.1.length ≤ 4096 ∧ (∀ cl ∈ r.1, cl.length ≤ 5000) ∧ ∀ c, FrC p c ↔ ∃ cl ∈ r.1, c ∈ cl) := by
  have hsm := hok.small
  dsimp only [frontier_Clusters]
  refine Tot.bind (Tot.mono (valid_ok hp) ?_)
  rintro _ rfl
  refine Tot.cond (fun hc => by simp [hok] at hc) (fun _ => ?_)
  refine Tot.bind (Tot.mono (cells_ok hok) ?_)
  rintro all ⟨hnd, hmem⟩
  have hal : all.length ≤ p.Cells.length := fewC hok hnd fun c hc => ((hmem c).1 hc).1.1
  refine Tot.bind (Tot.mono (Q' := fun m => m = tr all) ?_ ?_)
  · refine Tot.loop0 (fun s : List (Cell × Bool) × Int => ∃ i : Nat, s = (tr (all.take i), (i : Int)) ∧ i ≤ all.length) (fun s => all.length - s.2.toNat) ⟨0, rfl, by omega⟩ ?_
    rintro _ ⟨i, rfl, hi⟩
    dsimp only [frontier_Clusters_L1]
    refine Tot.condD (fun hc => ?_) (fun hc => Tot.ret (by rw [List.take_of_length_le (by omega)]))
    refine Tot.idx (by omega) hc (fun c hcx => Tot.ret ?_)
    rw [Int.toNat_natCast] at hcx
    have hil : i < all.length := by omega
    have hni : c ∉ all.take i := by
      intro hm
      have h1 : (all.take i ++ all.drop i).Nodup := by rw [List.take_append_drop]; exact hnd
      rw [List.nodup_append] at h1
      refine h1.2.2 c hm c ?_ rfl
      rw [List.drop_eq_getElem_cons hil]
      rw [List.getElem?_eq_getElem hil] at hcx
      rw [Option.some.inj hcx]; simp
    refine ⟨⟨i + 1, ?_, by omega⟩, ?_⟩
    · rw [w64 (by omega) (by omega), show (Cell.mk c.X c.Y) = c from rfl, mput_tr _ _ hni, List.take_add_one, hcx]; rfl
    · dsimp only; rw [w64 (by omega) (by omega)]; omega
  · rintro _ rfl
    refine Tot.bind (Tot.mono (Q' := fun out : List (List Cell) => out.length ≤ 4096 ∧ (∀ cl ∈ out, cl.length ≤ 5000) ∧ ∀ c, FrC p c ↔ ∃ cl ∈ out, c ∈ cl) ?_ (fun r hr => Tot.ret ⟨rfl, hr⟩))
    refine Tot.loop (fun s : List (Cell × Bool) × List (List Cell) × Int => ∃ (L : List Cell) (i : Nat), s.1 = tr L ∧ s.2.2 = (i : Int) ∧ i ≤ all.length ∧ L.Nodup ∧ (∀ c ∈ L, c ∈ all) ∧ (∀ c ∈ all, c ∈ L ∨ ∃ cl ∈ s.2.1, c ∈ cl) ∧ (∀ cl ∈ s.2.1, cl.length ≤ 5000 ∧ ∀ c ∈ cl, c ∈ all) ∧ (∀ j c, j < i → all[j]? = some c → c ∉ L) ∧ s.2.1.length ≤ i)
      (fun s => all.length - s.2.2.toNat) ⟨all, 0, rfl, rfl, by omega, hnd, fun c hc => hc, fun c hc => .inl hc, fun cl hcl => (by cases hcl), fun j c hj => by omega, by simp⟩ ?_
    rintro ⟨_, out, _⟩ ⟨L, i, rfl, rfl, hi, hLn, hLs, hLa, hout, hdone, hol⟩
    dsimp only [frontier_Clusters_L863] at *
    refine Tot.condD (fun hc => ?_) (fun hc => Tot.ret ⟨by omega, fun cl hcl => (hout cl hcl).1, fun c => ?_⟩)
    · refine Tot.bind (Tot.mono (Q' := fun r : List (Cell × Bool) × List (List Cell) => ∃ L' : List Cell, r.1 = tr L' ∧ L'.Nodup ∧ (∀ c ∈ L', c ∈ L) ∧ (∀ c ∈ all, c ∈ L' ∨ ∃ cl ∈ r.2, c ∈ cl) ∧ (∀ cl ∈ r.2, cl.length ≤ 5000 ∧ ∀ c ∈ cl, c ∈ all) ∧ (∀ c, all[i]? = some c → c ∉ L') ∧ r.2.length ≤ i + 1) ?_ ?_)
      · refine Tot.idx (by omega) hc (fun c hcx => ?_)
        rw [Int.toNat_natCast] at hcx
        rw [show (Cell.mk c.X c.Y) = c from rfl, mget_tr, mdel_tr]
        refine Tot.cond (fun hf => Tot.ret ?_) (fun hf => ?_)
        · refine ⟨L, rfl, hLn, fun c hc => hc, hLa, hout, fun d hd => ?_, by dsimp only; omega⟩
          rw [hcx] at hd
          obtain rfl := Option.some.inj hd
          simpa using hf
        · have hcL : c ∈ L := by simpa using hf
          have hBI : ∀ x ∈ L.erase c, Ins p x := fun x hx => ((hmem x).1 (hLs x (List.mem_of_mem_erase hx))).1.1
          have hLl : L.length ≤ p.Cells.length := fewC hok hLn fun x hx => ((hmem x).1 (hLs x hx)).1.1
          have hel : (L.erase c).length ≤ 4096 := by rw [List.length_erase_of_mem hcL]; omega
          refine Tot.bind (Tot.mono (cluster_ok hok hBI ((hmem c).1 (hLs c hcL)).1.1 hel (hLn.erase c)) ?_)
          rintro ⟨l, cl⟩ ⟨L', h1, h2⟩
          dsimp only at *
          subst h1
          have hlen := h2.len
          have hperm := sortL_perm cf21_swo cl
          refine Tot.need (by omega) (Tot.app (by simp; omega) (Tot.ret ?_))
          refine ⟨L', rfl, h2.nd, fun x hx => List.mem_of_mem_erase (h2.sub x hx), fun x hx => ?_, fun cl' hcl => ?_, fun d hd hdL => ?_, by simp; omega⟩
          · rcases hLa x hx with h3 | ⟨cl', h3, h4⟩
            · by_cases e : x = c
              · subst e; exact .inr ⟨_, by simp, hperm.mem_iff.2 h2.c0⟩
              · rcases h2.all x ((List.mem_erase_of_ne e).2 h3) with h4 | h4
                · exact .inl h4
                · exact .inr ⟨_, by simp, hperm.mem_iff.2 h4⟩
            · exact .inr ⟨cl', by simp [h3], h4⟩
          · simp only [List.mem_append, List.mem_singleton] at hcl
            rcases hcl with hcl | rfl
            · exact hout cl' hcl
            · refine ⟨by rw [hperm.length_eq]; omega, fun x hx => ?_⟩
              rcases h2.mem x (hperm.mem_iff.1 hx) with rfl | h3
              · exact hLs x hcL
              · exact hLs x (List.mem_of_mem_erase h3)
          · rw [hcx] at hd
            obtain rfl := Option.some.inj hd
            have := h2.sub c hdL
            exact (hLn.not_mem_erase) this
      · rintro ⟨l, out'⟩ ⟨L', h1, h2, h3, h4, h5, h6, h7⟩
        dsimp only at *
        subst h1
        refine Tot.ret ?_
        rw [w64 (by omega) (by omega)]
        refine ⟨⟨L', i + 1, rfl, rfl, by omega, h2, fun c hc => hLs c (h3 c hc), h4, h5, fun j c hj hjc hcL => ?_, h7⟩, by dsimp only; omega⟩
        rcases Nat.lt_or_ge j i with hji | hji
        · exact hdone j c hji hjc (h3 c hcL)
        · obtain rfl : j = i := by omega
          exact h6 c hjc hcL
    · constructor
      · intro hf
        rcases hLa c ((hmem c).2 hf) with h1 | h1
        · obtain ⟨j, hj, he⟩ := List.getElem_of_mem (hLs c h1)
          exact absurd h1 (hdone j c (by omega) (by rw [List.getElem?_eq_getElem hj, he]))
        · exact h1
      · rintro ⟨cl, h1, h2⟩
        exact (hmem c).1 ((hout cl h1).2 c h2)
end Go.Proofs.Ytcdboppghnchpaa

namespace Go.Proofs.Ytcdboppghnchpaa
open Go Go.Proofs.Ytcdboppghnchpaa.Gw
set_option linter.unusedVariables false

theorem sortL_sorted {α : Type} [Inhabited α] {cf : α → α → Int} (hO : Sort.SWO (ltOf cf)) (xs : List α) {i j : Nat} {x y : α} (hi : (sortL cf xs)[i]? = some x) (hj : (sortL cf xs)[j]? = some y) (hij : i < j) : ltOf cf y x = false := by
  have h := (Sort.pdq_sorts (ltOf cf) hO xs.toArray 0 xs.toArray.size (Lib.bitLen xs.toArray.size) true true (Nat.zero_le _) (Nat.le_refl _) (Or.inl rfl))
  have e : sortL cf xs = (Sort.pdq (ltOf cf) xs.toArray 0 xs.toArray.size (Lib.bitLen xs.toArray.size) true true).toList := by simp [sortL]; rfl
  have hl := (sortL_perm hO xs).length_eq
  rw [e] at hi hj hl
  have h2 := h.2
  generalize Sort.pdq (ltOf cf) xs.toArray 0 xs.toArray.size (Lib.bitLen xs.toArray.size) true true = d' at hi hj hl h2
  have hjl := (List.getElem?_eq_some_iff.1 hj).1
  have := h2 i j (Nat.zero_le _) hij (by simp; omega)
  have at_ : ∀ (q : Nat) (z : α), d'.toList[q]? = some z → d'[q]! = z := fun q z hq => by
    obtain ⟨h1, h2⟩ := List.getElem?_eq_some_iff.1 hq
    rw [getElem!_pos d' q (by simpa using h1), ← h2]
    simp
  have e1 := at_ i x hi
  have e2 := at_ j y hj
  rwa [e1, e2] at this

/- ### Goals -/
theorem best_ok {p : Plan} (hok : Ok p) {st : Cell} {o : List Int} (ho : CostOk p st o) {cl : List Cell} (hcl : ∀ c ∈ cl, Ins p c) (hl : cl.length ≤ 5000) :
    Tot (fun n => loopN (frontier_Goals_L25 p o cl) n (0, 0, -1, 0)) (fun r => (r.2.2 < 0 ∧ ∀ c ∈ cl, vl p o c < 0) ∨ (0 ≤ r.2.2 ∧ (⟨r.1, r.2.1⟩ : Cell) ∈ cl ∧ vl p o ⟨r.1, r.2.1⟩ = r.2.2)) := by
  refine Tot.loop0 (fun s : Int × Int × Int × Int => ∃ i : Nat, s.2.2.2 = (i : Int) ∧ i ≤ cl.length ∧ ((s.2.2.1 < 0 ∧ ∀ j c, j < i → cl[j]? = some c → vl p o c < 0) ∨ (0 ≤ s.2.2.1 ∧ (⟨s.1, s.2.1⟩ : Cell) ∈ cl ∧ vl p o ⟨s.1, s.2.1⟩ = s.2.2.1))) (fun s => cl.length - s.2.2.2.toNat)
    ⟨0, rfl, by omega, .inl ⟨by dsimp only; omega, fun j c hj => by omega⟩⟩ ?_
  rintro ⟨gx, gy, gc, _⟩ ⟨i, rfl, hi, h⟩
  dsimp only [frontier_Goals_L25] at *
  refine Tot.condD (fun hc => ?_) (fun hc => Tot.ret (h.imp (fun h => ⟨h.1, fun c hc2 => ?_⟩) id))
  · refine Tot.bind (Tot.mono (Q' := fun r : Int × Int × Int => (r.2.2 < 0 ∧ ∀ j c, j < i + 1 → cl[j]? = some c → vl p o c < 0) ∨ (0 ≤ r.2.2 ∧ (⟨r.1, r.2.1⟩ : Cell) ∈ cl ∧ vl p o ⟨r.1, r.2.1⟩ = r.2.2)) ?_ ?_)
    · refine Tot.idx (by omega) hc (fun c hcx => ?_)
      rw [Int.toNat_natCast] at hcx
      have hci := hcl c (List.mem_of_getElem? hcx)
      obtain ⟨x, hx⟩ : ∃ x, o[ix p c]? = some x := ⟨_, List.getElem?_eq_getElem (by rw [ho.len]; exact ix_lt hok hci)⟩
      have hvx : vl p o c = x := by unfold vl; rw [hx]; rfl
      refine Tot.idxv (x := x) ((idx_ix hok hci _).trans hx) ?_
      refine Tot.bind (Tot.mono (Q' := fun b => b = decide (0 ≤ x ∧ (gc < 0 ∨ x < gc))) ?_ ?_)
      · refine Tot.condD (fun h1 => Tot.condD (fun h2 => Tot.ret ?_) (fun h2 => Tot.ret ?_)) (fun h1 => Tot.ret ?_)
        · symm; rw [decide_eq_true_eq]; omega
        · rw [decide_eq_decide]; omega
        · symm; rw [decide_eq_false_iff_not]; omega
      · rintro _ rfl
        refine Tot.condD (fun h1 => Tot.ret (.inr ⟨h1.1, List.mem_of_getElem? hcx, hvx⟩)) (fun h1 => Tot.ret ?_)
        rcases h with ⟨h2, h3⟩ | h2
        · refine .inl ⟨h2, fun j d hj hd => ?_⟩
          rcases Nat.lt_or_ge j i with hji | hji
          · exact h3 j d hji hd
          · obtain rfl : j = i := by omega
            rw [hcx] at hd
            obtain rfl := Option.some.inj hd
            omega
        · exact .inr h2
    · rintro ⟨a, b, c⟩ hr
      refine Tot.ret ?_
      rw [w64 (by omega) (by omega)]
      exact ⟨⟨i + 1, rfl, by omega, hr⟩, by dsimp only; omega⟩
  · obtain ⟨j, hj, he⟩ := List.getElem_of_mem hc2
    exact h.2 j c (by omega) (by rw [List.getElem?_eq_getElem hj, he])
/-- What the goals are. -/
structure GoalsOk (p : Plan) (st : Cell) (gs : List Goal) : Prop where
  cost : ∃ o, CostOk p st o ∧ ∀ g ∈ gs, FrC p g.Cell ∧ g.Cost = vl p o g.Cell ∧ 0 ≤ g.Cost
  sorted : ∀ (i j : Nat) (g g' : Goal), gs[i]? = some g → gs[j]? = some g' → i < j → g.Cost ≤ g'.Cost
  none_ : gs = [] ↔ ¬ ∃ c, FrC p c ∧ Rch p st c
  few : gs.length ≤ 5000
theorem goals_ok {p : Plan} (hp : p.Cells.length ≤ maxLen) (st : Cell) : Tot (fun n => frontier_Goals n p st) (fun r => (¬ Ok p ∧ r = ([], 1)) ∨ (Ok p ∧ ¬ Fr p st ∧ r = ([], 7)) ∨ (Ok p ∧ Fr p st ∧ r.2 = 0 ∧ GoalsOk p st r.1)) := by
  dsimp only [frontier_Goals]
  refine Tot.bind (Tot.mono (Costs_ok hp st) ?_)
  rintro ⟨o, e⟩ (⟨h1, h2⟩ | ⟨h1, h2, h3⟩ | ⟨hok, hst, h0, ho⟩)
  · obtain ⟨rfl, rfl⟩ := Prod.mk.inj h2
    exact Tot.cond (fun _ => Tot.ret (.inl ⟨h1, rfl⟩)) (fun hc => by simp at hc)
  · obtain ⟨rfl, rfl⟩ := Prod.mk.inj h3
    exact Tot.cond (fun _ => Tot.ret (.inr (.inl ⟨h1, h2, rfl⟩))) (fun hc => by simp at hc)
  · dsimp only at h0 ho
    subst h0
    refine Tot.cond (fun hc => by simp at hc) (fun _ => ?_)
    refine Tot.bind (Tot.mono (clusters_ok hp hok) ?_)
    rintro ⟨cls, e⟩ ⟨_, hcn, hcl, hmem⟩
    dsimp only at hcn hcl hmem ⊢
    have hins : ∀ cl ∈ cls, ∀ c ∈ cl, FrC p c := fun cl h1 c h2 => (hmem c).2 ⟨cl, h1, h2⟩
    refine Tot.bind (Tot.mono (Q' := fun gs : List Goal => gs.length ≤ 4096 ∧ (∀ g ∈ gs, FrC p g.Cell ∧ g.Cost = vl p o g.Cell ∧ 0 ≤ g.Cost) ∧ (gs = [] → ∀ c, FrC p c → vl p o c < 0)) ?_ ?_)
    · refine Tot.loop (fun s : List Goal × Int => ∃ i : Nat, s.2 = (i : Int) ∧ i ≤ cls.length ∧ s.1.length ≤ i ∧ (∀ g ∈ s.1, FrC p g.Cell ∧ g.Cost = vl p o g.Cell ∧ 0 ≤ g.Cost) ∧ (s.1 = [] → ∀ j cl, j < i → cls[j]? = some cl → ∀ c ∈ cl, vl p o c < 0)) (fun s => cls.length - s.2.toNat)
        ⟨0, rfl, by omega, by simp, fun g hg => (by cases hg), fun _ j cl hj => by omega⟩ ?_
      rintro ⟨gs, _⟩ ⟨i, rfl, hi, hgl, hgs, hnone⟩
      dsimp only [frontier_Goals_L21] at *
      refine Tot.condD (fun hc => ?_) (fun hc => Tot.ret ⟨by omega, hgs, fun h c hf => ?_⟩)
      · refine Tot.bind (Tot.mono (Q' := fun r : List Goal => r.length ≤ i + 1 ∧ (∀ g ∈ r, FrC p g.Cell ∧ g.Cost = vl p o g.Cell ∧ 0 ≤ g.Cost) ∧ (r = [] → ∀ j cl, j < i + 1 → cls[j]? = some cl → ∀ c ∈ cl, vl p o c < 0)) ?_ ?_)
        · refine Tot.idx (by omega) hc (fun cl hclx => ?_)
          rw [Int.toNat_natCast] at hclx
          have hclm := List.mem_of_getElem? hclx
          refine Tot.bind (Tot.mono (best_ok hok ho (fun c hc => (hins cl hclm c hc).1.1) (hcl cl hclm)) ?_)
          rintro ⟨gx, gy, gc⟩ hr
          dsimp only at hr ⊢
          refine Tot.condD (fun h1 => ?_) (fun h1 => Tot.ret ?_)
          · rcases hr with ⟨h2, _⟩ | ⟨h2, h3, h4⟩
            · omega
            · refine Tot.app (by simp; omega) (Tot.ret ⟨by simp; omega, fun g hg => ?_, fun h => by simp at h⟩)
              simp only [List.mem_append, List.mem_singleton] at hg
              rcases hg with hg | rfl
              · exact hgs g hg
              · exact ⟨hins cl hclm _ h3, h4.symm, h2⟩
          · rcases hr with ⟨h2, h3⟩ | ⟨h2, _⟩
            · refine ⟨by omega, hgs, fun h j cl' hj hcl' => ?_⟩
              rcases Nat.lt_or_ge j i with hji | hji
              · exact hnone h j cl' hji hcl'
              · obtain rfl : j = i := by omega
                rw [hclx] at hcl'
                obtain rfl := Option.some.inj hcl'
                exact h3
            · omega
        · rintro r ⟨h1, h2, h3⟩
          refine Tot.ret ?_
          rw [w64 (by omega) (by omega)]
          exact ⟨⟨i + 1, rfl, by omega, h1, h2, h3⟩, by dsimp only; omega⟩
      · obtain ⟨cl, h1, h2⟩ := (hmem c).1 hf
        obtain ⟨j, hj, he⟩ := List.getElem_of_mem h1
        exact hnone h j cl (by omega) (by rw [List.getElem?_eq_getElem hj, he]) c h2
    · rintro gs ⟨h1, h2, h3⟩
      refine Tot.need (by omega) (Tot.ret (.inr (.inr ⟨hok, hst, rfl, ?_⟩)))
      have hperm := sortL_perm cf18_swo gs
      refine ⟨⟨o, ho, fun g hg => h2 g (hperm.mem_iff.1 hg)⟩, fun i j g g' hi hj hij => ?_, ?_, by rw [hperm.length_eq]; omega⟩
      · have := sortL_sorted cf18_swo gs hi hj hij
        rw [cf18_lt, decide_eq_false_iff_not] at this
        omega
      · constructor
        · rintro he ⟨c, hf, hr⟩
          have : gs = [] := by
            have := hperm.length_eq
            rw [show sortL cf18 gs = [] from he] at this
            exact List.eq_nil_of_length_eq_zero this.symm
          have h4 := h3 this c hf
          have h5 := (ho.rch hst hf.1.1).2 hr
          omega
        · intro hno
          show sortL cf18 gs = []
          have : gs = [] := by
            cases gs with
            | nil => rfl
            | cons g gs =>
              obtain ⟨q1, q2, q3⟩ := h2 g (by simp)
              exact absurd ⟨g.Cell, q1, (ho.rch hst q1.1.1).1 (by omega)⟩ hno
          subst this
          exact List.eq_nil_of_length_eq_zero hperm.length_eq
theorem done_ok {p : Plan} (hp : p.Cells.length ≤ maxLen) (hok : Ok p) {st : Cell} (hst : Fr p st) : Tot (fun n => frontier_Done n p st) (fun r => r.2 = 0 ∧ (r.1 = true ↔ ¬ ∃ c, FrC p c ∧ Rch p st c)) := by
  dsimp only [frontier_Done]
  refine Tot.bind (Tot.mono (goals_ok hp st) ?_)
  rintro ⟨gs, e⟩ (⟨h1, h2⟩ | ⟨h1, h2, h3⟩ | ⟨_, _, h0, hg⟩)
  · exact absurd hok h1
  · exact absurd hst h2
  · dsimp only at h0 hg
    subst h0
    refine Tot.cond (fun hc => by simp at hc) (fun _ => Tot.ret ⟨rfl, ?_⟩)
    rw [← hg.none_]
    simp only [beq_iff_eq]
    exact ⟨fun h => List.eq_nil_of_length_eq_zero (by omega), fun h => by rw [h]; rfl⟩
end Go.Proofs.Ytcdboppghnchpaa

namespace Go.Proofs.Ytcdboppghnchpaa
open Go Go.Proofs.Ytcdboppghnchpaa.Gw
set_option linter.unusedVariables false

theorem awake_ok : Evt (fun n => top_tourAwake n) true := Evt.of 40 (fun n => by kernel_rfl)
theorem side_ok {p : Plan} (hok : Ok p) {c : Cell} (hc : Ins p c) (on : List Bool) (b : Bool) :
    Tot (fun n => loopN (top_WholeTour_L13 n p on c) n (b, 0)) (fun r => ∃ b', r = .go (on.set (ix p c) true, b') ∧ (b' = true ↔ b = true ∨ ∃ d ∈ sidesL c, Has p d 0)) := by
  have hb := ins_bound hok hc
  have hs : [(Cell.mk (IntKind.i64.wrap (c.X + 1)) c.Y), (Cell.mk c.X (IntKind.i64.wrap (c.Y + 1))), (Cell.mk (IntKind.i64.wrap (c.X - 1)) c.Y), (Cell.mk c.X (IntKind.i64.wrap (c.Y - 1)))] = sidesL c := by
    rw [w64 (x := c.X + 1) (by omega) (by omega), w64 (x := c.Y + 1) (by omega) (by omega), w64 (x := c.X - 1) (by omega) (by omega), w64 (x := c.Y - 1) (by omega) (by omega)]; rfl
  have h4 : (sidesL c).length = 4 := rfl
  refine Tot.loop (fun s : Bool × Int => ∃ i : Nat, s.2 = (i : Int) ∧ i ≤ 4 ∧ (s.1 = true ↔ b = true ∨ ∃ d ∈ (sidesL c).take i, Has p d 0)) (fun s => 4 - s.2.toNat) ⟨0, rfl, by omega, by simp⟩ ?_
  rintro ⟨b1, _⟩ ⟨i, rfl, hi, hb1⟩
  dsimp only [top_WholeTour_L13] at *
  rw [hs]
  refine Tot.condD (fun hc4 => ?_) (fun hc4 => Tot.ret ⟨b1, ?_, ?_⟩)
  · obtain ⟨d, hd⟩ : ∃ d, (sidesL c)[i]? = some d := ⟨_, List.getElem?_eq_getElem (by omega)⟩
    have ht : (sidesL c).take (i + 1) = (sidesL c).take i ++ [d] := by rw [List.take_add_one, hd]; rfl
    refine Tot.bind (Tot.mono (Q' := fun b2 => b2 = true ↔ b1 = true ∨ Has p d 0) ?_ ?_)
    · refine Tot.cond (fun h => Tot.ret (by simp [h])) (fun h => ?_)
      refine Tot.idxv (x := d) (by rw [idx_nat, hd]) ?_
      obtain ⟨x, hx, hx0⟩ := at_eq hok 0 d
      refine Tot.bind (Tot.at_ (r := x) (fun n => hx) (Tot.ret ?_))
      rw [h]; simp [hx0]
    · intro b2 hb2
      refine Tot.ret ?_
      rw [w64 (by omega) (by omega)]
      refine ⟨⟨i + 1, rfl, by omega, ?_⟩, by dsimp only; omega⟩
      rw [ht, hb2, hb1]
      constructor
      · rintro ((h | ⟨e, h1, h2⟩) | h)
        · exact .inl h
        · exact .inr ⟨e, by simp [h1], h2⟩
        · exact .inr ⟨d, by simp, h⟩
      · rintro (h | ⟨e, h1, h2⟩)
        · exact .inl (.inl h)
        · simp only [List.mem_append, List.mem_singleton] at h1
          rcases h1 with h1 | rfl
          · exact .inl (.inr ⟨e, h1, h2⟩)
          · exact .inr h2
  · rw [ix_wrap hok hc, upd_nat]
  · rw [hb1, List.take_of_length_le (by omega)]
theorem marks_ok {p : Plan} (hok : Ok p) {l : List Cell} (hl : ∀ c ∈ l, Ins p c) (hn : l.length ≤ 100000) :
    Tot (fun n => loopN (top_WholeTour_L11 n p l) n (List.replicate p.Cells.length false, false, 0)) (fun r => ∃ on b, r = .go (on, b) ∧ on.length = p.Cells.length ∧ (∀ c, Ins p c → on[ix p c]? = some (decide (c ∈ l))) ∧ (b = true ↔ ∃ c ∈ l, ∃ d ∈ sidesL c, Has p d 0)) := by
  refine Tot.loop (fun s : List Bool × Bool × Int => ∃ i : Nat, s.2.2 = (i : Int) ∧ i ≤ l.length ∧ s.1.length = p.Cells.length ∧ (∀ c, Ins p c → s.1[ix p c]? = some (decide (c ∈ l.take i))) ∧ (s.2.1 = true ↔ ∃ c ∈ l.take i, ∃ d ∈ sidesL c, Has p d 0)) (fun s => l.length - s.2.2.toNat)
    ⟨0, rfl, by omega, by simp, fun c hc => ?_, by simp⟩ ?_
  · dsimp only
    rw [List.getElem?_replicate, if_pos (ix_lt hok hc)]; simp
  rintro ⟨on, b, _⟩ ⟨i, rfl, hi, hol, hon, hb⟩
  dsimp only [top_WholeTour_L11] at *
  refine Tot.condD (fun hc => ?_) (fun hc => Tot.ret ⟨on, b, rfl, hol, ?_, ?_⟩)
  · obtain ⟨c, hcx⟩ : ∃ c, l[i]? = some c := ⟨_, List.getElem?_eq_getElem (by omega)⟩
    have hci := hl c (List.mem_of_getElem? hcx)
    have ht : l.take (i + 1) = l.take i ++ [c] := by rw [List.take_add_one, hcx]; rfl
    refine Tot.bind (Tot.mono (Q' := fun r => ∃ b', r = .go (on.set (ix p c) true, b') ∧ (b' = true ↔ b = true ∨ ∃ d ∈ sidesL c, Has p d 0)) ?_ ?_)
    · refine Tot.idxv (x := c) (by rw [idx_nat, hcx]) ?_
      refine Tot.bind (Tot.at_ (r := true) (fun n => (inside_eq p n c).trans (by simp [hci])) ?_)
      refine Tot.cond (fun h => by cases h) (fun _ => ?_)
      obtain ⟨x, hx⟩ : ∃ x, on[ix p c]? = some x := ⟨_, hon c hci⟩
      exact Tot.idxv (x := x) ((idx_ix hok hci _).trans hx) (side_ok hok hci on b)
    · rintro _ ⟨b', rfl, hb'⟩
      refine Tot.ret ?_
      rw [w64 (by omega) (by omega)]
      refine ⟨⟨i + 1, rfl, by omega, by dsimp only; rw [List.length_set]; exact hol, fun d hd => ?_, ?_⟩, by dsimp only; omega⟩
      · dsimp only
        rw [List.getElem?_set]
        by_cases e : d = c
        · subst e
          rw [if_pos rfl, if_pos (by rw [hol]; exact ix_lt hok hd), ht]; simp
        · rw [if_neg (fun h => e (ix_inj hok hd hci h.symm)), hon d hd, ht]
          simp [e]
      · dsimp only
        rw [hb', hb, ht]
        constructor
        · rintro (⟨e, h1, h2⟩ | h)
          · exact ⟨e, by simp [h1], h2⟩
          · exact ⟨c, by simp, h⟩
        · rintro ⟨e, h1, h2⟩
          simp only [List.mem_append, List.mem_singleton] at h1
          rcases h1 with h1 | rfl
          · exact .inl ⟨e, h1, h2⟩
          · exact .inr h2
  · rwa [List.take_of_length_le (by omega)] at hon
  · rwa [List.take_of_length_le (by omega)] at hb
theorem law_WholeTour (p : Plan) (hp : okPlan p) (st : Cell) (hs : okCell st) : Evt (fun n => top_WholeTour n p st) true := by
  have hl : p.Cells.length ≤ maxLen := hp.2.2.1
  apply Tot.of_eq
  dsimp only [top_WholeTour]
  refine Tot.bind (Tot.mono (Q' := fun b => b = decide ((p.Cells.length : Int) > 144)) ?_ ?_)
  · refine Tot.bind (Tot.evt awake_ok (Tot.cond (fun h => by cases h) (fun _ => Tot.ret rfl)))
  rintro _ rfl
  refine Tot.condD (fun _ => Tot.bind (Tot.evt awake_ok (Tot.ret rfl))) (fun hsz => ?_)
  refine Tot.bind (Tot.mono (Tour_ok hl st) ?_)
  rintro ⟨l, e⟩ ht
  refine Tot.bind (Tot.mono (goals_ok hl st) ?_)
  rintro ⟨gs, f⟩ hg
  refine Tot.bind (Tot.mono (Costs_ok hl st) ?_)
  rintro ⟨costs, g⟩ hc
  by_cases hok : Ok p
  case neg =>
    have h1 := (ht.resolve_right (fun h => h.elim (fun h => hok h.1) (fun h => hok h.1))).2
    have h2 := (hg.resolve_right (fun h => h.elim (fun h => hok h.1) (fun h => hok h.1))).2
    have h3 := (hc.resolve_right (fun h => h.elim (fun h => hok h.1) (fun h => hok h.1))).2
    obtain ⟨rfl, rfl⟩ := Prod.mk.inj h1
    obtain ⟨rfl, rfl⟩ := Prod.mk.inj h2
    obtain ⟨rfl, rfl⟩ := Prod.mk.inj h3
    exact Tot.at_ (r := true) (fun n => rfl) rfl
  by_cases hst : Fr p st
  case neg =>
    have h1 := ((ht.resolve_left (fun h => h.1 hok)).resolve_right (fun h => hst h.2.1)).2.2
    have h2 := ((hg.resolve_left (fun h => h.1 hok)).resolve_right (fun h => hst h.2.1)).2.2
    have h3 := ((hc.resolve_left (fun h => h.1 hok)).resolve_right (fun h => hst h.2.1)).2.2
    obtain ⟨rfl, rfl⟩ := Prod.mk.inj h1
    obtain ⟨rfl, rfl⟩ := Prod.mk.inj h2
    obtain ⟨rfl, rfl⟩ := Prod.mk.inj h3
    exact Tot.at_ (r := true) (fun n => rfl) rfl
  have hsm := hok.small
  obtain ⟨_, _, h1, hll, hmem⟩ := (ht.resolve_left (fun h => h.1 hok)).resolve_left (fun h => h.2.1 hst)
  obtain ⟨_, _, h2, hgo⟩ := (hg.resolve_left (fun h => h.1 hok)).resolve_left (fun h => h.2.1 hst)
  obtain ⟨_, _, h3, hco⟩ := (hc.resolve_left (fun h => h.1 hok)).resolve_left (fun h => h.2.1 hst)
  dsimp only at h1 h2 h3 hll hmem hgo hco
  subst h1; subst h2; subst h3
  clear ht hg hc
  refine Tot.bind (Tot.at_ (r := false) (fun n => rfl) ?_)
  refine Tot.cond (fun h => by cases h) (fun _ => ?_)
  refine Tot.bind (Tot.mono (Q' := fun b => b = false) ?_ ?_)
  · refine Tot.cond (fun h => by cases h) (fun _ => ?_)
    refine Tot.bind (Tot.mono (basePlan_ok hl) ?_)
    rintro _ rfl
    refine Tot.cond (fun h => by simp [hok] at h) (fun _ => Tot.ret ?_)
    rw [hco.len]; simp
  rintro _ rfl
  refine Tot.cond (fun h => by cases h) (fun _ => ?_)
  have hmk : Gw.mk (p.Cells.length : Int) false = some (List.replicate p.Cells.length false) := by
    unfold Gw.mk
    rw [if_pos (by omega), Int.toNat_natCast]
  refine Tot.bind (Tot.val hmk ?_)
  refine Tot.bind (Tot.mono (marks_ok hok (fun c hc => ((hmem c).1 hc).fr.1) (by show l.length ≤ 100000; omega)) ?_)
  rintro _ ⟨on, b, rfl, hol, hon, hb⟩
  dsimp only
  refine Tot.bind (Tot.mono (Q' := fun y => y = .go ()) ?_ ?_)
  · refine Tot.loop0 (fun s : Int => ∃ i : Nat, s = (i : Int) ∧ i ≤ on.length) (fun s => on.length - s.toNat) ⟨0, rfl, by omega⟩ ?_
    rintro _ ⟨i, rfl, hi⟩
    dsimp only [top_WholeTour_L15]
    refine Tot.condD (fun hc => ?_) (fun hc => Tot.ret rfl)
    obtain ⟨c, hci, rfl⟩ := ix_surj hok (i := i) (by omega)
    obtain ⟨x, hx⟩ : ∃ x, costs[ix p c]? = some x := ⟨_, List.getElem?_eq_getElem (by rw [hco.len]; omega)⟩
    have hvx : vl p costs c = x := by unfold vl; rw [hx]; rfl
    refine Tot.idxv (x := decide (c ∈ l)) (by rw [idx_nat, hon c hci]) (Tot.idxv (x := x) (by rw [idx_nat, hx]) ?_)
    have he : decide (c ∈ l) = decide (x ≥ 0) := by
      rw [decide_eq_decide, hmem, ← hco.rch hst hci, hvx]
    rw [he]
    refine Tot.cond (fun h => by simp at h) (fun _ => Tot.ret ?_)
    rw [w64 (by omega) (by omega)]
    exact ⟨⟨ix p c + 1, rfl, by omega⟩, by omega⟩
  rintro _ rfl
  dsimp only
  refine Tot.bind (Tot.mono (Q' := fun y => y = .go ()) ?_ ?_)
  · obtain ⟨o, hoo, hgs⟩ := hgo.cost
    have hfew := hgo.few
    refine Tot.loop (fun s : Int => ∃ i : Nat, s = (i : Int) ∧ i ≤ gs.length) (fun s => gs.length - s.toNat) ⟨0, rfl, by omega⟩ ?_
    rintro _ ⟨i, rfl, hi⟩
    dsimp only [top_WholeTour_L17]
    refine Tot.condD (fun hc => ?_) (fun hc => Tot.ret rfl)
    obtain ⟨gl, hgl⟩ : ∃ gl, gs[i]? = some gl := ⟨_, List.getElem?_eq_getElem (by omega)⟩
    obtain ⟨q1, q2, q3⟩ := hgs gl (List.mem_of_getElem? hgl)
    refine Tot.idxv (x := gl) (by rw [idx_nat, hgl]) ?_
    refine Tot.bind (Tot.mono (find_ok hl hok hst q1.1 hoo (by omega)) ?_)
    rintro ⟨w, n, h⟩ ⟨e1, e2⟩
    dsimp only at e1 e2 ⊢
    subst e2
    have e1 : n = gl.Cost := by omega
    subst e1
    refine Tot.bind (Tot.mono (Q' := fun b => b = false) ?_ ?_)
    · refine Tot.cond (fun h => by cases h) (fun _ => ?_)
      refine Tot.idxv (x := gl) (by rw [idx_nat, hgl]) (Tot.cond (fun h => by simp at h) (fun _ => ?_))
      have hin : gl.Cell ∈ l := by
        rw [hmem, ← hoo.rch hst q1.1.1]; omega
      refine Tot.idxv (x := true) ((idx_ix hok q1.1.1 _).trans (by rw [hon _ q1.1.1]; simp [hin])) (Tot.cond (fun h => by cases h) (fun _ => ?_))
      refine Tot.condD (fun h0 => ?_) (fun h0 => Tot.ret rfl)
      have hi0 : IntKind.i64.wrap ((i : Int) - 1) = ((i - 1 : Nat) : Int) := by
        rw [w64 (by omega) (by omega)]; omega
      rw [hi0]
      obtain ⟨g0, hg0⟩ : ∃ g0, gs[i - 1]? = some g0 := ⟨_, List.getElem?_eq_getElem (by omega)⟩
      refine Tot.idxv (x := g0) (by rw [idx_nat, hg0]) (Tot.ret ?_)
      have := hgo.sorted (i - 1) i g0 gl hg0 hgl (by omega)
      rw [decide_eq_false_iff_not]; omega
    · rintro _ rfl
      refine Tot.cond (fun h => by cases h) (fun _ => Tot.ret ?_)
      rw [w64 (by omega) (by omega)]
      exact ⟨⟨i + 1, rfl, by omega⟩, by omega⟩
  rintro _ rfl
  dsimp only
  refine Tot.bind (Tot.mono (done_ok hl hok hst) ?_)
  rintro ⟨d, h⟩ ⟨e1, e2⟩
  dsimp only at e1 e2 ⊢
  subst e1
  have hbd : b = true ↔ ∃ c, FrC p c ∧ Rch p st c := by
    rw [hb]
    constructor
    · rintro ⟨c, h1, h2⟩
      have h3 := (hmem c).1 h1
      exact ⟨c, FrC.iff.2 ⟨h3.fr, h2⟩, h3⟩
    · rintro ⟨c, h1, h2⟩
      exact ⟨c, (hmem c).2 h2, (FrC.iff.1 h1).2⟩
  have hd1 : d = !b := by
    rw [Bool.eq_iff_iff, e2, ← hbd]; cases b <;> simp
  have hd2 : d = ((gs.length : Int) == 0) := by
    rw [Bool.eq_iff_iff, e2, ← hgo.none_, beq_iff_eq]
    exact ⟨fun h => by rw [h]; rfl, fun h => List.eq_nil_of_length_eq_zero (by omega)⟩
  refine Tot.bind (Tot.mono (Q' := fun r => r = true) ?_ (fun r hr => Tot.ret hr))
  refine Tot.cond (fun _ => Tot.cond (fun _ => Tot.ret ?_) (fun h => ?_)) (fun h => by cases h)
  · rw [hd2]; simp
  · rw [hd1] at h; simp at h
end Go.Proofs.Ytcdboppghnchpaa
