/-
  Plain laws on the plain functions.
-/
import Derived.Test.YtknnmbcaoekgmaaDoorDataA
import Derived.Lib.Strings
namespace Go.Proofs.YtknnmbcaoekgmaaDoor
open Go Go.Proofs.YtknnmbcaoekgmaaDoor.Gw
set_option linter.unusedVariables false

/- ### Trees -/
theorem Node.eta (t : Node) : Node.mk t.Kind t.Name t.Count t.Kids = t := by cases t; rfl
theorem Node.kid_lt {t k : Node} (h : k ∈ t.Kids) : SizeOf.sizeOf k < SizeOf.sizeOf t := by
  have := List.sizeOf_lt_of_mem h
  cases t
  simp only [Node.mk.sizeOf_spec]
  dsimp only at this
  omega
theorem Node.ind {P : Node → Prop} (h : ∀ t, (∀ k ∈ t.Kids, P k) → P t) (t : Node) : P t :=
  h t fun k hk => Node.ind h k
termination_by SizeOf.sizeOf t
decreasing_by exact Node.kid_lt hk
mutual
/-- The number of nodes. -/
def nsz : Node → Nat | .mk _ _ _ ks => 1 + nszs ks
def nszs : List Node → Nat | [] => 0 | t :: ts => nsz t + nszs ts
end
theorem nsz_eq (t : Node) : nsz t = 1 + nszs t.Kids := by cases t; rfl
theorem nszs_app (a b : List Node) : nszs (a ++ b) = nszs a + nszs b := by
  induction a with
  | nil => simp [nszs]
  | cons x a ih => simp only [List.cons_append, nszs, ih]; omega
theorem nsz_pos (t : Node) : 1 ≤ nsz t := by rw [nsz_eq]; omega
theorem nszs_len (l : List Node) : l.length ≤ nszs l := by
  induction l with
  | nil => simp
  | cons x a ih => have := nsz_pos x; simp only [List.length_cons, nszs]; omega
theorem nszs_take (l : List Node) (j : Nat) : nszs (l.take j) ≤ nszs l := by
  have := nszs_app (l.take j) (l.drop j)
  rw [List.take_append_drop] at this
  omega
theorem nszs_step {l : List Node} {j : Nat} {k : Node} (h : l[j]? = some k) : nszs (l.take (j + 1)) = nszs (l.take j) + nsz k := by
  rw [List.take_add_one, h, nszs_app]; simp [nszs]
theorem nszs_mem {l : List Node} {k : Node} (h : k ∈ l) : nsz k ≤ nszs l := by
  induction l with
  | nil => cases h
  | cons x a ih =>
    simp only [nszs]
    rcases List.mem_cons.1 h with rfl | h
    · omega
    · have := ih h; omega

/- ### Size -/
theorem size_ok (t : Node) : ∀ lim : Int, 1 ≤ lim → lim ≤ 65 → Tot (fun n => tree_size n t lim) (· = min (nsz t : Int) lim) := by
  induction t using Node.ind with
  | h t ih =>
  intro lim h1 h65
  refine Tot.succ ?_
  dsimp only [tree_size, tree_size_F]
  refine Tot.bind (Tot.loop (fun s : Int × Int => ∃ j : Nat, s.2 = (j : Int) ∧ j ≤ t.Kids.length ∧ s.1 = min ((1 + nszs (t.Kids.take j) : Nat) : Int) lim) (fun s => t.Kids.length - s.2.toNat) ⟨0, rfl, by omega, by simp [nszs]; omega⟩ ?_ |>.mono (Q' := (· = min (nsz t : Int) lim)) ?_)
  · rintro ⟨c, i⟩ ⟨j, rfl, hj, rfl⟩
    dsimp only [tree_size_L1]
    have hb := nszs_take t.Kids j
    refine Tot.condD (fun hlt => ?_) (fun hge => ?_)
    · refine Tot.idx (by omega) (by omega) fun k hk => ?_
      rw [Int.toNat_natCast] at hk
      have hst := nszs_step hk
      have hb1 := nszs_take t.Kids (j + 1)
      refine Tot.condD (fun hle => ?_) (fun hgt => ?_)
      · refine Tot.ret ?_
        dsimp only
        rw [nsz_eq]; omega
      · have hn : (1 + nszs (t.Kids.take j) : Nat) < lim := by omega
        have hjl := nszs_len (t.Kids.take j)
        rw [List.length_take, Nat.min_eq_left hj] at hjl
        rw [Node.eta, w64 (by omega) (by omega)]
        refine Tot.bind (Tot.mono (ih k (List.mem_of_getElem? hk) _ (by omega) (by omega)) ?_)
        rintro _ rfl
        refine Tot.ret ?_
        dsimp only
        rw [w64 (by omega) (by omega), w64 (by omega) (by omega)]
        refine ⟨⟨j + 1, by omega, by omega, ?_⟩, by omega⟩
        rw [hst]; omega
    · refine Tot.ret ?_
      dsimp only
      rw [nsz_eq]
      have : t.Kids.take j = t.Kids := List.take_of_length_le (by omega)
      rw [this]
  · rintro _ rfl
    exact Tot.ret rfl
theorem rsize_ok (t : Node) : ∀ lim : Int, 1 ≤ lim → lim ≤ 65 → Tot (fun n => ref41_size n t lim) (· = min (nsz t : Int) lim) := by
  induction t using Node.ind with
  | h t ih =>
  intro lim h1 h65
  refine Tot.succ ?_
  dsimp only [ref41_size, ref41_size_F]
  refine Tot.bind (Tot.loop (fun s : Int × Int => ∃ j : Nat, s.2 = (j : Int) ∧ j ≤ t.Kids.length ∧ s.1 = min ((1 + nszs (t.Kids.take j) : Nat) : Int) lim) (fun s => t.Kids.length - s.2.toNat) ⟨0, rfl, by omega, by simp [nszs]; omega⟩ ?_ |>.mono (Q' := (· = min (nsz t : Int) lim)) ?_)
  · rintro ⟨c, i⟩ ⟨j, rfl, hj, rfl⟩
    dsimp only [ref41_size_L1]
    have hb := nszs_take t.Kids j
    refine Tot.bind (Tot.mono (Q' := fun b : Bool => b = (decide (j < t.Kids.length) && decide (min ((1 + nszs (t.Kids.take j) : Nat) : Int) lim < lim))) ?_ ?_)
    · refine Tot.condD (fun hlt => ?_) (fun hge => ?_)
      · refine Tot.ret ?_
        rw [decide_eq_true (show j < t.Kids.length by omega), Bool.true_and]
      · refine Tot.ret ?_
        rw [decide_eq_false (show ¬ j < t.Kids.length by omega), Bool.false_and]
    rintro _ rfl
    refine Tot.cond (fun hlt => ?_) (fun hge => ?_)
    · simp only [Bool.and_eq_true, decide_eq_true_eq] at hlt
      obtain ⟨hlt, hgt⟩ := hlt
      refine Tot.idx (by omega) (by omega) fun k hk => ?_
      rw [Int.toNat_natCast] at hk
      have hst := nszs_step hk
      have hb1 := nszs_take t.Kids (j + 1)
      have hn : (1 + nszs (t.Kids.take j) : Nat) < lim := by omega
      have hjl := nszs_len (t.Kids.take j)
      rw [List.length_take, Nat.min_eq_left hj] at hjl
      rw [Node.eta, w64 (by omega) (by omega)]
      refine Tot.bind (Tot.mono (ih k (List.mem_of_getElem? hk) _ (by omega) (by omega)) ?_)
      rintro _ rfl
      refine Tot.ret ?_
      dsimp only
      rw [w64 (by omega) (by omega), w64 (by omega) (by omega)]
      refine ⟨⟨j + 1, by omega, by omega, ?_⟩, by omega⟩
      rw [hst]; omega
    · refine Tot.ret ?_
      dsimp only
      rw [nsz_eq]
      simp only [Bool.and_eq_false_iff, decide_eq_false_iff_not] at hge
      rcases hge with hge | hge
      · have : t.Kids.take j = t.Kids := List.take_of_length_le (by omega)
        rw [this]
      · omega
  · rintro _ rfl
    exact Tot.ret rfl
theorem Size_ok (t : Node) : Evt (fun n => tree_Size n t) (min (nsz t : Int) 65) := by
  refine Tot.of_eq ?_
  dsimp only [tree_Size]
  simp only [Node.eta]
  refine Tot.bind (Tot.mono (size_ok t 65 (by omega) (by omega)) ?_)
  rintro _ rfl
  exact Tot.ret rfl
theorem rSize_ok (t : Node) : Evt (fun n => ref41_Size n t) (min (nsz t : Int) 65) := by
  refine Tot.of_eq ?_
  dsimp only [ref41_Size]
  simp only [Node.eta]
  refine Tot.bind (Tot.mono (rsize_ok t 65 (by omega) (by omega)) ?_)
  rintro _ rfl
  exact Tot.ret rfl
end Go.Proofs.YtknnmbcaoekgmaaDoor

namespace Go.Proofs.YtknnmbcaoekgmaaDoor
open Go Go.Proofs.YtknnmbcaoekgmaaDoor.Gw
set_option linter.unusedVariables false

/- ### Valid trees -/
/-- A node has the fields of its kind. -/
def fitsB (t : Node) : Bool :=
  if t.Kind = 1 ∨ t.Kind = 2 then decide (0 ≤ t.Name ∧ t.Name < 64 ∧ t.Count = 0 ∧ t.Kids.length = 0)
  else if t.Kind = 3 ∨ t.Kind = 4 then decide (t.Name = 0 ∧ t.Count = 0)
  else if t.Kind = 5 then decide (t.Name = 0 ∧ 1 ≤ t.Count ∧ t.Count ≤ t.Kids.length)
  else if t.Kind = 6 then decide (t.Name = 0 ∧ t.Count = 0 ∧ t.Kids.length = 1)
  else if t.Kind = 7 ∨ t.Kind = 8 then decide (t.Name = 0 ∧ 1 ≤ t.Count ∧ t.Count ≤ 1000 ∧ t.Kids.length = 1)
  else false
def vld : Nat → Node → Bool
  | 0, _ => false
  | d + 1, t => fitsB t && t.Kids.all (vld d)
/-- The tree is valid. -/
def Vld (t : Node) : Bool := decide (nsz t ≤ 64) && vld 16 t
theorem fits_eq (n : Nat) (t : Node) : tree_fits n t = some (fitsB t) := by
  obtain ⟨k, nm, c, ks⟩ := t
  unfold tree_fits fitsB
  dsimp only
  by_cases h1 : k = 1
  · subst h1
    by_cases a : nm ≥ 0 <;> by_cases b : nm < 64 <;> by_cases d : c = 0 <;> by_cases e : ks.length = 0 <;> simp [Bool.cond_eq_ite, a, b, d, e] <;> (try omega)
  by_cases h2 : k = 2
  · subst h2
    by_cases a : nm ≥ 0 <;> by_cases b : nm < 64 <;> by_cases d : c = 0 <;> by_cases e : ks.length = 0 <;> simp [Bool.cond_eq_ite, a, b, d, e] <;> (try omega)
  by_cases h3 : k = 3
  · subst h3
    by_cases a : nm = 0 <;> by_cases d : c = 0 <;> simp [Bool.cond_eq_ite, a, d] <;> (try omega)
  by_cases h4 : k = 4
  · subst h4
    by_cases a : nm = 0 <;> by_cases d : c = 0 <;> simp [Bool.cond_eq_ite, a, d] <;> (try omega)
  by_cases h5 : k = 5
  · subst h5
    by_cases a : nm = 0 <;> by_cases d : c ≥ 1 <;> by_cases e : c ≤ ks.length <;> simp [Bool.cond_eq_ite, a, d, e] <;> (try omega)
  by_cases h6 : k = 6
  · subst h6
    by_cases a : nm = 0 <;> by_cases d : c = 0 <;> by_cases e : ks.length = 1 <;> simp [Bool.cond_eq_ite, a, d, e] <;> (try omega)
  by_cases h7 : k = 7
  · subst h7
    by_cases a : nm = 0 <;> by_cases d : c ≥ 1 <;> by_cases e : c ≤ 1000 <;> by_cases f : ks.length = 1 <;> simp [Bool.cond_eq_ite, a, d, e, f] <;> (try omega)
  by_cases h8 : k = 8
  · subst h8
    by_cases a : nm = 0 <;> by_cases d : c ≥ 1 <;> by_cases e : c ≤ 1000 <;> by_cases f : ks.length = 1 <;> simp [Bool.cond_eq_ite, a, d, e, f] <;> (try omega)
  simp [Bool.cond_eq_ite, h1, h2, h3, h4, h5, h6, h7, h8]
theorem between_eq (n : Nat) (a b c : Int) : ref41_between n a b c = some (decide (b ≤ a ∧ a ≤ c)) := by
  unfold ref41_between
  by_cases h : a ≥ b <;> by_cases h' : a ≤ c <;> simp [h, h'] <;> omega
theorem single_eq (n : Nat) (t : Node) : ref41_single n t = some (fitsB t) := by
  obtain ⟨k, nm, c, ks⟩ := t
  unfold ref41_single fitsB
  simp only [between_eq, Option.bind_some]
  by_cases h1 : k = 1
  · subst h1
    by_cases a : nm ≥ 0 <;> by_cases b : nm ≤ 63 <;> by_cases d : c = 0 <;> by_cases e : ks.length = 0 <;> simp [Bool.cond_eq_ite, a, b, d, e] <;> (try omega)
  by_cases h2 : k = 2
  · subst h2
    by_cases a : nm ≥ 0 <;> by_cases b : nm ≤ 63 <;> by_cases d : c = 0 <;> by_cases e : ks.length = 0 <;> simp [Bool.cond_eq_ite, a, b, d, e] <;> (try omega)
  by_cases h3 : k = 3
  · subst h3
    by_cases a : nm = 0 <;> by_cases d : c = 0 <;> simp [Bool.cond_eq_ite, a, d] <;> (try omega)
  by_cases h4 : k = 4
  · subst h4
    by_cases a : nm = 0 <;> by_cases d : c = 0 <;> simp [Bool.cond_eq_ite, a, d] <;> (try omega)
  by_cases h5 : k = 5
  · subst h5
    by_cases a : nm = 0 <;> by_cases d : c ≥ 1 <;> by_cases e : c ≤ ks.length <;> by_cases f : (ks.length : Int) ≥ 1 <;> simp [Bool.cond_eq_ite, a, d, e, f] <;> (try omega)
  by_cases h6 : k = 6
  · subst h6
    by_cases a : nm = 0 <;> by_cases d : c = 0 <;> by_cases e : ks.length = 1 <;> simp [Bool.cond_eq_ite, a, d, e] <;> (try omega)
  by_cases h7 : k = 7
  · subst h7
    by_cases a : nm = 0 <;> by_cases d : c ≥ 1 <;> by_cases e : c ≤ 1000 <;> by_cases f : ks.length = 1 <;> simp [Bool.cond_eq_ite, a, d, e, f] <;> (try omega)
  by_cases h8 : k = 8
  · subst h8
    by_cases a : nm = 0 <;> by_cases d : c ≥ 1 <;> by_cases e : c ≤ 1000 <;> by_cases f : ks.length = 1 <;> simp [Bool.cond_eq_ite, a, d, e, f] <;> (try omega)
  simp [Bool.cond_eq_ite, h1, h2, h3, h4, h5, h6, h7, h8]
theorem all_take_step {p : Node → Bool} {l : List Node} {j : Nat} {k : Node} (h : l[j]? = some k) (h1 : (l.take j).all p = true) (h2 : p k = true) : (l.take (j + 1)).all p = true := by
  rw [List.take_add_one, h, List.all_append, h1]; simp [h2]
theorem all_false {p : Node → Bool} {l : List Node} {j : Nat} {k : Node} (h : l[j]? = some k) (h2 : p k = false) : l.all p = false := by
  rw [List.all_eq_false]; exact ⟨k, List.mem_of_getElem? h, by simp [h2]⟩
theorem valid_ok : ∀ (d : Nat) (t : Node), d ≤ 16 → nsz t ≤ 64 → Tot (fun n => tree_valid n t (d : Int)) (· = vld d t) := by
  intro d
  induction d with
  | zero =>
    intro t _ _
    refine Tot.succ ?_
    dsimp only [tree_valid, tree_valid_F]
    exact Tot.ret rfl
  | succ d ih =>
    intro t hd ht
    refine Tot.succ ?_
    dsimp only [tree_valid, tree_valid_F]
    simp only [Node.eta, fits_eq, Option.bind_some]
    rw [show (((d + 1 : Nat) : Int) == 0) = false from by simp; omega]
    dsimp only [cond_false]
    simp only [cond_false, Option.bind_some]
    have hk := nszs_len t.Kids
    rw [nsz_eq] at ht
    refine Tot.cond (fun hf => ?_) (fun hf => ?_)
    · refine Tot.ret ?_
      simp only [Bool.not_eq_true'] at hf
      simp [vld, hf]
    · simp only [Bool.not_eq_false'] at hf
      refine Tot.bind (Tot.mono (Q' := fun o : Out Unit Bool => (o = .go () ∧ t.Kids.all (vld d) = true) ∨ (o = .done false ∧ t.Kids.all (vld d) = false)) (Tot.loop (fun s : Int => ∃ j : Nat, s = (j : Int) ∧ j ≤ t.Kids.length ∧ (t.Kids.take j).all (vld d) = true) (fun s => t.Kids.length - s.toNat) ⟨0, rfl, by omega, by simp⟩ ?_) ?_)
      · rintro i ⟨j, rfl, hj, hall⟩
        dsimp only [tree_valid_L1]
        refine Tot.condD (fun hlt => ?_) (fun hge => ?_)
        · refine Tot.idx (by omega) (by omega) fun k hkk => ?_
          rw [Int.toNat_natCast] at hkk
          rw [Node.eta, w64 (by omega) (by omega), show ((d + 1 : Nat) : Int) - 1 = (d : Int) by omega]
          have hm := nszs_mem (List.mem_of_getElem? hkk)
          refine Tot.bind (Tot.mono (ih k (by omega) (by omega)) ?_)
          rintro _ rfl
          refine Tot.cond (fun hv => ?_) (fun hv => ?_)
          · simp only [Bool.not_eq_true'] at hv
            exact Tot.ret (.inr ⟨rfl, all_false hkk hv⟩)
          · simp only [Bool.not_eq_false'] at hv
            refine Tot.ret ?_
            dsimp only
            rw [w64 (by omega) (by omega)]
            exact ⟨⟨j + 1, by omega, by omega, all_take_step hkk hall hv⟩, by omega⟩
        · refine Tot.ret (.inl ⟨rfl, ?_⟩)
          rwa [List.take_of_length_le (by omega)] at hall
      · rintro _ (⟨rfl, h⟩ | ⟨rfl, h⟩)
        · exact Tot.ret (by simp [vld, hf, h])
        · exact Tot.ret (by simp [vld, hf, h])
theorem rvalid_ok : ∀ (d : Nat) (t : Node), d ≤ 16 → nsz t ≤ 64 → Tot (fun n => ref41_valid n t (d : Int)) (· = vld d t) := by
  intro d
  induction d with
  | zero =>
    intro t _ _
    refine Tot.succ ?_
    dsimp only [ref41_valid, ref41_valid_F]
    exact Tot.ret rfl
  | succ d ih =>
    intro t hd ht
    refine Tot.succ ?_
    dsimp only [ref41_valid, ref41_valid_F]
    simp only [Node.eta, single_eq, Option.bind_some]
    rw [show (((d + 1 : Nat) : Int) == 0) = false from by simp; omega]
    simp only [cond_false, Option.bind_some]
    have hk := nszs_len t.Kids
    rw [nsz_eq] at ht
    refine Tot.cond (fun hf => ?_) (fun hf => ?_)
    · refine Tot.ret ?_
      simp only [Bool.not_eq_true'] at hf
      simp [vld, hf]
    · simp only [Bool.not_eq_false'] at hf
      refine Tot.bind (Tot.mono (Q' := fun o : Out Unit Bool => (o = .go () ∧ t.Kids.all (vld d) = true) ∨ (o = .done false ∧ t.Kids.all (vld d) = false)) (Tot.loop (fun s : Int => ∃ j : Nat, s = (j : Int) ∧ j ≤ t.Kids.length ∧ (t.Kids.take j).all (vld d) = true) (fun s => t.Kids.length - s.toNat) ⟨0, rfl, by omega, by simp⟩ ?_) ?_)
      · rintro i ⟨j, rfl, hj, hall⟩
        dsimp only [ref41_valid_L1]
        refine Tot.condD (fun hlt => ?_) (fun hge => ?_)
        · refine Tot.idx (by omega) (by omega) fun k hkk => ?_
          rw [Int.toNat_natCast] at hkk
          rw [Node.eta, w64 (by omega) (by omega), show ((d + 1 : Nat) : Int) - 1 = (d : Int) by omega]
          have hm := nszs_mem (List.mem_of_getElem? hkk)
          refine Tot.bind (Tot.mono (ih k (by omega) (by omega)) ?_)
          rintro _ rfl
          refine Tot.cond (fun hv => ?_) (fun hv => ?_)
          · simp only [Bool.not_eq_true'] at hv
            exact Tot.ret (.inr ⟨rfl, all_false hkk hv⟩)
          · simp only [Bool.not_eq_false'] at hv
            refine Tot.ret ?_
            dsimp only
            rw [w64 (by omega) (by omega)]
            exact ⟨⟨j + 1, by omega, by omega, all_take_step hkk hall hv⟩, by omega⟩
        · refine Tot.ret (.inl ⟨rfl, ?_⟩)
          rwa [List.take_of_length_le (by omega)] at hall
      · rintro _ (⟨rfl, h⟩ | ⟨rfl, h⟩)
        · exact Tot.ret (by simp [vld, hf, h])
        · exact Tot.ret (by simp [vld, hf, h])
theorem Valid_ok (t : Node) : Evt (fun n => tree_Valid n t) (Vld t) := by
  refine Tot.of_eq ?_
  dsimp only [tree_Valid]
  simp only [Node.eta]
  refine Tot.bind (Tot.mono (Q' := (· = Vld t)) (Tot.bind ⟨_, Size_ok t, ?_⟩) (by rintro _ rfl; exact Tot.ret rfl))
  refine Tot.condD (fun h => ?_) (fun h => ?_)
  · have h64 : nsz t ≤ 64 := by omega
    refine Tot.bind (Tot.mono (valid_ok 16 t (by omega) h64) ?_)
    rintro _ rfl
    exact Tot.ret (by simp [Vld, h64])
  · exact Tot.ret (by have : ¬ nsz t ≤ 64 := by omega
                      simp [Vld, this])
theorem rValid_ok (t : Node) : Evt (fun n => ref41_Valid n t) (Vld t) := by
  refine Tot.of_eq ?_
  dsimp only [ref41_Valid]
  simp only [Node.eta]
  refine Tot.bind (Tot.mono (Q' := (· = Vld t)) (Tot.bind ⟨_, rSize_ok t, ?_⟩) (by rintro _ rfl; exact Tot.ret rfl))
  refine Tot.condD (fun h => ?_) (fun h => ?_)
  · have h64 : nsz t ≤ 64 := by omega
    refine Tot.bind (Tot.mono (rvalid_ok 16 t (by omega) h64) ?_)
    rintro _ rfl
    exact Tot.ret (by simp [Vld, h64])
  · exact Tot.ret (by have : ¬ nsz t ≤ 64 := by omega
                      simp [Vld, this])
end Go.Proofs.YtknnmbcaoekgmaaDoor

namespace Go.Proofs.YtknnmbcaoekgmaaDoor
open Go Go.Proofs.YtknnmbcaoekgmaaDoor.Gw
set_option linter.unusedVariables false

/- ### Strings as lists of bytes -/
def bs (l : List UInt8) : ByteArray := ⟨l.toArray⟩
theorem bs_data (l : List UInt8) : (bs l).data.toList = l := rfl
theorem bs_toList (l : List UInt8) : (bs l).toList = l := by rw [Lib.toList_data]; rfl
theorem bs_size (l : List UInt8) : (bs l).size = l.length := rfl
theorem bs_of (s : ByteArray) : s = bs s.data.toList := rfl
theorem bs_app (a b : List UInt8) : bs a ++ bs b = bs (a ++ b) := by
  apply ByteArray.ext
  rw [ByteArray.data_append]
  simp [bs]
theorem bs_inj {a b : List UInt8} : bs a = bs b ↔ a = b := ⟨fun h => by have := congrArg (fun s : ByteArray => s.data.toList) h; exact this, fun h => by rw [h]⟩
theorem beq_list (a b : List UInt8) : (a == b) = decide (a = b) := by
  by_cases h : a = b
  · simp [h]
  · simp [h]
/- ### Decimal numerals -/
theorem dec_small {u : Nat} (h : u < 10) : Lib.decDigits u = [UInt8.ofNat (48 + u)] := by rw [Lib.decDigits, dif_pos h]
theorem dec_big {u : Nat} (h : ¬ u < 10) : Lib.decDigits u = Lib.decDigits (u / 10) ++ [UInt8.ofNat (48 + u % 10)] := by rw [Lib.decDigits, dif_neg h]
theorem dec_len : ∀ (k r : Nat), r < 10 ^ (k + 1) → (Lib.decDigits r).length ≤ k + 1
  | 0, r, h => by rw [dec_small (by simpa using h)]; simp
  | k + 1, r, h => by
    by_cases h2 : r < 10
    · rw [dec_small h2]; simp
    · rw [dec_big h2, List.length_append]
      have := dec_len k (r / 10) (by rw [Nat.pow_succ] at h; omega)
      simp only [List.length_cons, List.length_nil]; omega
end Go.Proofs.YtknnmbcaoekgmaaDoor

namespace Go.Proofs.YtknnmbcaoekgmaaDoor
open Go Go.Proofs.YtknnmbcaoekgmaaDoor.Gw
set_option linter.unusedVariables false

/- ### The reference's text -/
theorem bs_nil_beq (l : List UInt8) : ((bs l).toList == (ByteArray.mk #[]).toList) = decide (l = []) := by
  have : (ByteArray.mk #[]).toList = [] := bs_toList []
  rw [this, bs_toList, beq_list]
end Go.Proofs.YtknnmbcaoekgmaaDoor

namespace Go.Proofs.YtknnmbcaoekgmaaDoor
open Go Go.Proofs.YtknnmbcaoekgmaaDoor.Gw
set_option linter.unusedVariables false

/- ### Reading: bytes -/
def isD (c : UInt8) : Bool := decide (48 ≤ c.toNat ∧ c.toNat ≤ 57)
theorem bidx_bs (l : List UInt8) (i : Nat) : bidx (bs l) (i : Int) = (l[i]?).map fun b => (b.toNat : Int) := by
  unfold bidx
  rw [if_pos (by omega), Int.toNat_natCast]
  congr 1
  by_cases h : i < l.length
  · rw [List.getElem?_eq_getElem h, getElem?_pos (bs l) i h]
    rfl
  · rw [List.getElem?_eq_none (by omega), getElem?_neg (bs l) i h]
theorem bidx_at {l : List UInt8} {z : Int} {i : Nat} {c : UInt8} (hz : z = (i : Int)) (h : l[i]? = some c) : bidx (bs l) z = some (c.toNat : Int) := by
  subst hz; rw [bidx_bs, h]; rfl
theorem scut_bs (l : List UInt8) {lo hi : Int} {a b : Nat} (h1 : lo = (a : Int)) (h2 : hi = (b : Int)) (hab : a ≤ b) (hb : b ≤ l.length) : scut (bs l) lo hi = some (bs ((l.drop a).take (b - a))) := by
  subst h1; subst h2
  unfold scut
  rw [if_pos ⟨by omega, by omega, by rw [bs_size]; omega⟩, Int.toNat_natCast, Int.toNat_natCast]
  congr 1
  rw [bs_of ((bs l).extract a b), Lib.extract_data, bs_data]
theorem Tot.bidxv {α : Type} {s : ByteArray} {i x : Int} {h : Nat → Int → Option α} {Q : α → Prop} (e : bidx s i = some x) (k : Tot (fun n => h n x) Q) : Tot (fun n => (bidx s i).bind (h n)) Q := Tot.bind (Tot.val e k)
theorem bs_beq (a b : List UInt8) : ((bs a).toList == (bs b).toList) = decide (a = b) := by rw [bs_toList, bs_toList, beq_list]
theorem all_snoc (l : List UInt8) (c : UInt8) : (l ++ [c]).all isD = (l.all isD && isD c) := by simp
/-- The sign and the digits of a text. -/
def split (l : List UInt8) : Bool × List UInt8 := match l with | [] => (false, []) | c :: d => if c = 45 then (true, d) else (false, c :: d)
theorem snoc_ind {α : Type} {P : List α → Prop} (h0 : P []) (h1 : ∀ l c, P l → P (l ++ [c])) (l : List α) : P l := by
  have : ∀ m : List α, P m.reverse := fun m => by
    induction m with
    | nil => exact h0
    | cons c m ih => rw [List.reverse_cons]; exact h1 _ _ ih
  have h := this l.reverse
  rwa [List.reverse_reverse] at h
/- ### Reading: numbers -/
def numV (l : List UInt8) : Nat := l.foldl (fun a c => a * 10 + (c.toNat - 48)) 0
theorem numV_snoc (l : List UInt8) (c : UInt8) : numV (l ++ [c]) = numV l * 10 + (c.toNat - 48) := by unfold numV; rw [List.foldl_append]; rfl
theorem dec_num (u : Nat) : numV (Lib.decDigits u) = u ∧ (Lib.decDigits u).all isD = true ∧ (0 < u → ∃ c t, Lib.decDigits u = c :: t ∧ c ≠ 48) := by
  induction u using Nat.strongRecOn with
  | _ u ih =>
    have dig1 : ∀ r, r < 10 → (UInt8.ofNat (48 + r)).toNat = 48 + r := fun r hr => by
      rw [UInt8.toNat_ofNat']; omega
    by_cases h : u < 10
    · rw [dec_small h]
      refine ⟨by show 0 * 10 + ((UInt8.ofNat (48 + u)).toNat - 48) = u; rw [dig1 u h]; omega, by simp [isD, dig1 u h]; omega, fun h0 => ⟨_, [], rfl, fun e => ?_⟩⟩
      have := congrArg UInt8.toNat e
      rw [dig1 u h] at this
      have h48 : (48 : UInt8).toNat = 48 := rfl
      rw [h48] at this; omega
    · obtain ⟨i1, i2, i3⟩ := ih (u / 10) (by omega)
      rw [dec_big h]
      refine ⟨by rw [numV_snoc, i1, dig1 _ (by omega)]; omega, by rw [all_snoc, i2]; simp [isD, dig1 (u % 10) (by omega)]; omega, fun _ => ?_⟩
      obtain ⟨c, t, e, hc⟩ := i3 (by omega)
      exact ⟨c, t ++ [UInt8.ofNat (48 + u % 10)], by rw [e]; rfl, hc⟩
theorem dig_back {c : UInt8} (h : isD c = true) : UInt8.ofNat (48 + (c.toNat - 48)) = c := by
  unfold isD at h
  rw [decide_eq_true_iff] at h
  rw [show 48 + (c.toNat - 48) = c.toNat by omega]; exact UInt8.ofNat_toNat
theorem num_dec : ∀ (d : List UInt8), d.all isD = true → (∃ c t, d = c :: t ∧ (c = 48 → t = [])) → Lib.decDigits (numV d) = d := by
  intro d
  induction d using snoc_ind with
  | h0 => rintro _ ⟨c, t, h, _⟩; cases h
  | h1 e c ih =>
    rintro h ⟨c0, t, hd, h48⟩
    rw [all_snoc, Bool.and_eq_true] at h
    have hc := h.2
    have hc2 := hc
    unfold isD at hc2
    rw [decide_eq_true_iff] at hc2
    rw [numV_snoc]
    cases e with
    | nil =>
      show Lib.decDigits (0 * 10 + (c.toNat - 48)) = [c]
      rw [Nat.zero_mul, Nat.zero_add, dec_small (by omega), dig_back hc]
    | cons x e =>
      have hx : x = c0 := by simpa using congrArg List.head? hd
      have ht : t = e ++ [c] := by rw [List.cons_append] at hd; exact ((List.cons.inj hd).2).symm
      have hx48 : x ≠ 48 := fun hh => by have := h48 (hx ▸ hh); rw [ht] at this; simp at this
      have ihe := ih h.1 ⟨x, e, rfl, fun hh => absurd hh hx48⟩
      have hpos : 0 < numV (x :: e) := by
        rcases Nat.eq_zero_or_pos (numV (x :: e)) with h0 | h0
        · rw [h0, dec_small (by omega)] at ihe
          exact absurd ((List.cons.inj ihe).1).symm hx48
        · exact h0
      rw [dec_big (by omega), show (numV (x :: e) * 10 + (c.toNat - 48)) / 10 = numV (x :: e) by omega, show (numV (x :: e) * 10 + (c.toNat - 48)) % 10 = c.toNat - 48 by omega, ihe, dig_back hc]
end Go.Proofs.YtknnmbcaoekgmaaDoor

namespace Go.Proofs.YtknnmbcaoekgmaaDoor
open Go Go.Proofs.YtknnmbcaoekgmaaDoor.Gw
set_option linter.unusedVariables false

theorem Tot.cut {α β : Type} {f : Nat → Option α} {h : Nat → α → Option β} {Q : β → Prop} (r : α) (k : Tot f (· = r)) (k2 : Tot (fun n => h n r) Q) : Tot (fun n => (f n).bind (h n)) Q := Tot.bind (Tot.mono k (by rintro _ rfl; exact k2))
/- ### The text of a tree -/
def ltr (k : Int) : UInt8 := if k = 1 then 97 else if k = 2 then 116 else if k = 3 then 115 else if k = 4 then 102 else if k = 5 then 112 else if k = 6 then 105 else if k = 7 then 114 else 111
def dec (x : Int) : List UInt8 := Lib.decDigits x.toNat
def ctx (c : Int) : List UInt8 := if 0 < c then dec c else []
mutual
def txt : Node → List UInt8
  | .mk k nm c ks => if k = 1 ∨ k = 2 then ltr k :: dec nm else 40 :: ltr k :: (ctx c ++ (txts ks ++ [41]))
def txts : List Node → List UInt8
  | [] => []
  | t :: ts => 32 :: (txt t ++ txts ts)
end
theorem txt_leaf {t : Node} (h : t.Kind = 1 ∨ t.Kind = 2) : txt t = ltr t.Kind :: dec t.Name := by cases t; simp only [txt]; rw [if_pos h]
theorem txt_inner {t : Node} (h : ¬ (t.Kind = 1 ∨ t.Kind = 2)) : txt t = 40 :: ltr t.Kind :: (ctx t.Count ++ (txts t.Kids ++ [41])) := by cases t; simp only [txt]; rw [if_neg h]
theorem txts_app (a b : List Node) : txts (a ++ b) = txts a ++ txts b := by
  induction a with
  | nil => simp [txts]
  | cons x a ih => simp only [List.cons_append, txts, ih, List.append_assoc]
theorem txts_step {l : List Node} {j : Nat} {t : Node} (h : l[j]? = some t) : txts (l.take (j + 1)) = txts (l.take j) ++ 32 :: txt t := by
  rw [List.take_add_one, h, txts_app]; simp [txts]
theorem fit_cases {t : Node} (h : fitsB t = true) (hn : nsz t ≤ 64) : ((t.Kind = 1 ∨ t.Kind = 2) ∧ 0 ≤ t.Name ∧ t.Name < 64 ∧ t.Count = 0 ∧ t.Kids = []) ∨
    (3 ≤ t.Kind ∧ t.Kind ≤ 8 ∧ t.Name = 0 ∧ t.Count ≤ 1000 ∧ ((t.Kind = 5 ∨ t.Kind = 7 ∨ t.Kind = 8) ∧ 1 ≤ t.Count ∨ (t.Kind = 3 ∨ t.Kind = 4 ∨ t.Kind = 6) ∧ t.Count = 0)) := by
  have hk := nszs_len t.Kids
  rw [nsz_eq] at hn
  unfold fitsB at h
  split at h
  · rename_i h1
    simp only [decide_eq_true_eq] at h
    exact .inl ⟨h1, h.1, h.2.1, h.2.2.1, List.eq_nil_of_length_eq_zero h.2.2.2⟩
  · right
    split at h
    · simp only [decide_eq_true_eq] at h; omega
    · split at h
      · simp only [decide_eq_true_eq] at h; omega
      · split at h
        · simp only [decide_eq_true_eq] at h; omega
        · split at h
          · simp only [decide_eq_true_eq] at h; omega
          · cases h
theorem vld_fit {d : Nat} {t : Node} (h : vld d t = true) : ∃ d', d = d' + 1 ∧ fitsB t = true ∧ ∀ k ∈ t.Kids, vld d' k = true := by
  cases d with
  | zero => simp [vld] at h
  | succ d =>
    simp only [vld, Bool.and_eq_true, List.all_eq_true] at h
    exact ⟨d, rfl, h.1, h.2⟩
theorem dec_small3 {x : Int} (h : x < 64) : (dec x).length ≤ 2 := dec_len 1 x.toNat (by omega)
theorem dec_small4 {x : Int} (h : x ≤ 1000) : (dec x).length ≤ 4 := dec_len 3 x.toNat (by omega)
theorem ctx_len {x : Int} (h : x ≤ 1000) : (ctx x).length ≤ 4 := by
  unfold ctx; split
  · exact dec_small4 h
  · simp
theorem txt_len : ∀ (d : Nat) (t : Node), vld d t = true → nsz t ≤ 64 → (txt t).length + 1 ≤ 8 * nsz t := by
  intro d
  induction d with
  | zero => intro t h; simp [vld] at h
  | succ d ih =>
    intro t h hn
    obtain ⟨_, rfl', hf, hks⟩ := vld_fit h
    cases rfl'
    have key : ∀ (l : List Node), (∀ x ∈ l, vld d x = true) → nszs l ≤ 64 → (txts l).length ≤ 8 * nszs l := by
      intro l
      induction l with
      | nil => intro _ _; simp [txts]
      | cons x l ihl =>
        intro hl hm
        simp only [nszs] at hm ⊢
        simp only [txts, List.length_cons, List.length_append]
        have h1 := ih x (hl x (by simp)) (by omega)
        have h2 := ihl (fun y hy => hl y (by simp [hy])) (by omega)
        omega
    rcases fit_cases hf hn with ⟨h1, h2, h3, h4, h5⟩ | ⟨h1, h2, h3, h4, h5⟩
    · rw [txt_leaf h1, nsz_eq, h5]
      have := dec_small3 h3
      simp only [List.length_cons, nszs]; omega
    · rw [txt_inner (by omega)]
      rw [nsz_eq] at hn ⊢
      have h6 := key t.Kids hks (by omega)
      have h7 := ctx_len h4
      simp only [List.length_cons, List.length_append, List.length_nil]; omega
theorem txts_len {d : Nat} (l : List Node) (hl : ∀ x ∈ l, vld d x = true) (hm : nszs l ≤ 64) : (txts l).length ≤ 8 * nszs l := by
  induction l with
  | nil => simp [txts]
  | cons x l ihl =>
    simp only [nszs] at hm ⊢
    simp only [txts, List.length_cons, List.length_append]
    have h1 := txt_len d x (hl x (by simp)) (by omega)
    have h2 := ihl (fun y hy => hl y (by simp [hy])) (by omega)
    omega
/- ### Numbers of bytes -/
def nu (l : List UInt8) : List Int := l.map fun b => (b.toNat : Int)
theorem strNums_bs (l : List UInt8) : strNums (bs l) = nu l := rfl
theorem nu_len (a : List UInt8) : (nu a).length = a.length := List.length_map _
theorem bytesO_nu : ∀ l : List UInt8, bytesO (nu l) = some l
  | [] => rfl
  | b :: l => by
    have hb : b.toNat < 256 := b.toNat_lt
    show (if 0 ≤ (b.toNat : Int) ∧ (b.toNat : Int) < 256 then (bytesO (nu l)).map ((b.toNat : Int).toNat.toUInt8 :: ·) else none) = _
    rw [if_pos (by omega), bytesO_nu l]
    have : ((b.toNat : Int).toNat).toUInt8 = b := by
      rw [Int.toNat_natCast]
      apply UInt8.toNat_inj.1
      show b.toNat % 256 = b.toNat
      omega
    simp
theorem strO_nu (l : List UInt8) : strO (nu l) = some (bs l) := by unfold strO; rw [bytesO_nu]; rfl
theorem ltr_cases {k : Int} (h1 : 1 ≤ k) (h8 : k ≤ 8) : k = 1 ∨ k = 2 ∨ k = 3 ∨ k = 4 ∨ k = 5 ∨ k = 6 ∨ k = 7 ∨ k = 8 := by omega
theorem letter_ok (n : Nat) {k : Int} (h1 : 1 ≤ k) (h8 : k ≤ 8) : tree_letter n k = some ((ltr k).toNat : Int) := by
  rcases ltr_cases h1 h8 with rfl | rfl | rfl | rfl | rfl | rfl | rfl | rfl <;> rfl
theorem itoa_nat {x : Int} (h : 0 ≤ x) : Lib.itoa x = dec x := by
  unfold Lib.itoa dec; rw [if_neg (by omega)]
theorem Itoa_ok (n : Nat) {x : Int} (h0 : 0 ≤ x) (h1 : x ≤ 1000000) : strconv_Itoa n x = some (bs (dec x)) := by
  unfold strconv_Itoa; rw [if_pos (by omega), itoa_nat h0]; rfl
theorem leafQ (k : Int) : (cond (k == 1) (some true) (some (k == 2)) : Option Bool) = some (decide (k = 1 ∨ k = 2)) := by
  by_cases h : k = 1
  · rw [show (k == 1) = true by simp [h]]; simp [h]
  · rw [show (k == 1) = false by simp [h]]; simp [h]; rfl
theorem app_ok {α : Type} {xs ys : List α} (h : xs.length + ys.length ≤ 1099511627776) : app xs ys = some (xs ++ ys) := if_pos h
theorem WriteByte_ok {b : List Int} {c : Int} (hb : b.length ≤ 1000000) (n : Nat) : strings_Builder_WriteByte n (Builder.mk () b) c = some ((), Builder.mk () (b ++ [c])) := by
  unfold strings_Builder_WriteByte strings_Builder_copyCheck
  simp only [Option.bind_some]
  rw [app_ok (by simp; omega)]; rfl
theorem WriteString_ok {b : List Int} {l : List UInt8} (hb : b.length + l.length ≤ 1000000) (n : Nat) : strings_Builder_WriteString n (Builder.mk () b) (bs l) = some ((l.length : Int), (), Builder.mk () (b ++ nu l)) := by
  unfold strings_Builder_WriteString strings_Builder_copyCheck
  simp only [Option.bind_some, strNums_bs]
  rw [app_ok (by rw [nu_len]; omega)]; rfl
theorem write_ok : ∀ (d : Nat) (t : Node), vld d t = true → nsz t ≤ 64 → ∀ b : List Int, b.length + 8 * nsz t ≤ 100000 → Tot (fun n => tree_write n (Builder.mk () b) t) (· = Builder.mk () (b ++ nu (txt t))) := by
  intro d
  induction d with
  | zero => intro t h; simp [vld] at h
  | succ d ih =>
    intro t h hn b hb
    obtain ⟨_, rfl', hf, hks⟩ := vld_fit h
    cases rfl'
    have hlen := txt_len _ t h hn
    refine Tot.succ ?_
    dsimp only [tree_write, tree_write_F]
    simp only [leafQ, Option.bind_some]
    rcases fit_cases hf hn with ⟨h1, h2, h3, h4, h5⟩ | ⟨h1, h2, h3, h4, h5⟩
    · rw [txt_leaf h1] at hlen ⊢
      simp only [List.length_cons] at hlen
      simp only [decide_eq_true h1, cond_true, letter_ok _ (show 1 ≤ t.Kind by omega) (show t.Kind ≤ 8 by omega), Option.bind_some, WriteByte_ok (show b.length ≤ 1000000 by omega), Itoa_ok _ h2 (show t.Name ≤ 1000000 by omega)]
      rw [show (fun n => (strings_Builder_WriteString n (Builder.mk () (b ++ [((ltr t.Kind).toNat : Int)])) (bs (dec t.Name))).bind fun x => some (Builder.mk () x.2.2.buf)) = fun n => some (Builder.mk () (b ++ [((ltr t.Kind).toNat : Int)] ++ nu (dec t.Name))) from by
        funext n; rw [WriteString_ok (by simp; omega)]; rfl]
      exact Tot.ret (by rw [List.append_assoc]; rfl)
    · have hnl : ¬ (t.Kind = 1 ∨ t.Kind = 2) := by omega
      rw [txt_inner hnl] at hlen ⊢
      simp only [List.length_cons, List.length_append, List.length_nil] at hlen
      simp only [decide_eq_false hnl, cond_false, letter_ok _ (show 1 ≤ t.Kind by omega) (show t.Kind ≤ 8 by omega), Option.bind_some, WriteByte_ok (show b.length ≤ 1000000 by omega), WriteByte_ok (show (b ++ [(40 : Int)]).length ≤ 1000000 by simp; omega)]
      have hc := ctx_len h4
      refine Tot.cut (b ++ nu (40 :: ltr t.Kind :: ctx t.Count)) ?_ ?_
      · refine Tot.condD (fun hc => ?_) (fun hc => ?_)
        · simp only [Itoa_ok _ (show 0 ≤ t.Count by omega) (show t.Count ≤ 1000000 by omega), Option.bind_some]
          have hc4 := dec_small4 h4
          rw [show (fun n => (strings_Builder_WriteString n (Builder.mk () (b ++ [(40 : Int)] ++ [((ltr t.Kind).toNat : Int)])) (bs (dec t.Count))).bind fun x => some x.2.2.buf) = fun n => some (b ++ [(40 : Int)] ++ [((ltr t.Kind).toNat : Int)] ++ nu (dec t.Count)) from by
            funext n; rw [WriteString_ok (by simp; omega)]; rfl]
          refine Tot.ret ?_
          unfold ctx; rw [if_pos (by omega)]
          simp [nu]
        · refine Tot.ret ?_
          unfold ctx; rw [if_neg (by omega)]
          simp [nu]
      · have hm : nszs t.Kids ≤ 64 := by rw [nsz_eq] at hn; omega
        have hkl := nszs_len t.Kids
        refine Tot.cut (b ++ nu (40 :: ltr t.Kind :: (ctx t.Count ++ txts t.Kids))) ?_ ?_
        · refine Tot.mono (Tot.loop (Q := (· = b ++ nu (40 :: ltr t.Kind :: (ctx t.Count ++ txts t.Kids)))) (fun s : List Int × Int => ∃ j : Nat, s.2 = (j : Int) ∧ j ≤ t.Kids.length ∧ s.1 = b ++ nu (40 :: ltr t.Kind :: (ctx t.Count ++ txts (t.Kids.take j)))) (fun s => t.Kids.length - s.2.toNat) ⟨0, rfl, by omega, by simp [txts]⟩ ?_) (fun _ h => h)
          rintro ⟨_, i⟩ ⟨j, rfl, hj, rfl⟩
          dsimp only [tree_write_L1]
          refine Tot.condD (fun hlt => ?_) (fun hge => ?_)
          · refine Tot.idx (by omega) (by omega) fun k hk => ?_
            rw [Int.toNat_natCast] at hk
            have hst := nszs_step hk
            have hb1 := nszs_take t.Kids (j + 1)
            have htx := txts_step hk
            have hkm := List.mem_of_getElem? hk
            have hl := txts_len (t.Kids.take j) (fun x hx => hks x (List.mem_of_mem_take hx)) (by have := nszs_take t.Kids j; omega)
            rw [nsz_eq] at hb
            have hbl : (b ++ nu (40 :: ltr t.Kind :: (ctx t.Count ++ txts (t.Kids.take j)))).length ≤ b.length + 6 + 8 * nszs (t.Kids.take j) := by
              simp only [List.length_append, nu_len, List.length_cons]; omega
            simp only [WriteByte_ok (show (b ++ nu (40 :: ltr t.Kind :: (ctx t.Count ++ txts (t.Kids.take j)))).length ≤ 1000000 by omega), Option.bind_some, Node.eta]
            refine Tot.bind (Tot.mono (ih k (hks k hkm) (by omega) _ (by rw [List.length_append]; simp only [List.length_cons, List.length_nil]; omega)) ?_)
            rintro _ rfl
            refine Tot.ret ?_
            dsimp only
            rw [w64 (by omega) (by omega)]
            refine ⟨⟨j + 1, by omega, by omega, ?_⟩, by omega⟩
            rw [htx]; simp [nu]
          · refine Tot.ret ?_
            dsimp only
            rw [List.take_of_length_le (show t.Kids.length ≤ j by omega)]
        · have hl := txts_len t.Kids hks hm
          rw [nsz_eq] at hb
          simp only [WriteByte_ok (show (b ++ nu (40 :: ltr t.Kind :: (ctx t.Count ++ txts t.Kids))).length ≤ 1000000 by simp only [List.length_append, nu_len, List.length_cons]; omega), Option.bind_some]
          refine Tot.ret ?_
          simp [nu]
theorem Vld_iff {t : Node} (h : Vld t = true) : nsz t ≤ 64 ∧ vld 16 t = true := by
  simpa only [Vld, Bool.and_eq_true, decide_eq_true_eq] using h
theorem Text_ok (t : Node) : Evt (fun n => tree_Text n t) (bs (if Vld t then txt t else [])) := by
  refine Tot.of_eq ?_
  dsimp only [tree_Text]
  refine Tot.bind ⟨_, Valid_ok t, ?_⟩
  refine Tot.cond (fun h => ?_) (fun h => ?_)
  · obtain ⟨hn, hv⟩ := Vld_iff h
    refine Tot.bind (Tot.mono (write_ok 16 t hv hn [] (by simp only [List.length_nil]; omega)) ?_)
    rintro _ rfl
    rw [if_pos h]
    exact Tot.val (strO_nu _) rfl
  · rw [if_neg (by rw [h]; simp)]
    exact Tot.ret rfl
end Go.Proofs.YtknnmbcaoekgmaaDoor

namespace Go.Proofs.YtknnmbcaoekgmaaDoor
open Go Go.Proofs.YtknnmbcaoekgmaaDoor.Gw
set_option linter.unusedVariables false

/- ### The reference's text -/
theorem str_dig {x : Int} (h : 0 ≤ x) : strOfNums [IntKind.u8.wrap (IntKind.i64.wrap (48 + (x.tmod 10)))] = bs [UInt8.ofNat (48 + x.toNat % 10)] := by
  have e : x.tmod 10 = ((x.toNat % 10 : Nat) : Int) := by
    obtain ⟨m, rfl⟩ := Int.eq_ofNat_of_zero_le h
    rw [Int.toNat_natCast]; exact (Int.ofNat_tmod m 10).symm
  have h10 : x.toNat % 10 < 10 := Nat.mod_lt _ (by omega)
  rw [e, w64 (by omega) (by omega), wu8 (by omega) (by omega)]
  generalize x.toNat % 10 = r at h10
  have : r = 0 ∨ r = 1 ∨ r = 2 ∨ r = 3 ∨ r = 4 ∨ r = 5 ∨ r = 6 ∨ r = 7 ∨ r = 8 ∨ r = 9 := by omega
  rcases this with rfl | rfl | rfl | rfl | rfl | rfl | rfl | rfl | rfl | rfl <;> rfl
theorem Number_ok : ∀ (k : Nat), k ≤ 6 → ∀ (x : Int), 0 ≤ x → x < 10 ^ (k + 1) → Tot (fun n => ref41_Number n x) (· = bs (dec x)) := by
  intro k
  induction k with
  | zero =>
    intro _ x h0 h1
    refine Tot.succ ?_
    dsimp only [ref41_Number, ref41_Number_F]
    rw [decide_eq_true (show x < 10 by simpa using h1), str_dig h0]
    refine Tot.ret ?_
    unfold dec
    rw [dec_small (by omega), Nat.mod_eq_of_lt (by omega)]
  | succ k ih =>
    intro hk x h0 h1
    refine Tot.succ ?_
    dsimp only [ref41_Number, ref41_Number_F]
    rw [str_dig h0]
    refine Tot.condD (fun hlt => ?_) (fun hge => ?_)
    · refine Tot.ret ?_
      unfold dec
      rw [dec_small (by omega), Nat.mod_eq_of_lt (by omega)]
    · have e : x.tdiv 10 = ((x.toNat / 10 : Nat) : Int) := by
        obtain ⟨m, rfl⟩ := Int.eq_ofNat_of_zero_le h0
        rw [Int.toNat_natCast]; exact (Int.ofNat_tdiv m 10).symm
      have hb : x < 100000000 := by
        have : (10 : Int) ^ (k + 1 + 1) ≤ 10 ^ 8 := by
          have h2 : (10 : Nat) ^ (k + 1 + 1) ≤ 10 ^ 8 := Nat.pow_le_pow_right (by omega) (by omega)
          exact_mod_cast h2
        omega
      have hx : x.tdiv 10 < 10 ^ (k + 1) := by
        rw [e]
        have h2 : x.toNat < 10 ^ (k + 1) * 10 := by
          have h3 : ((x.toNat : Nat) : Int) < ((10 ^ (k + 1) * 10 : Nat) : Int) := by
            rw [Int.toNat_of_nonneg h0]; push_cast; rw [Int.pow_succ] at h1; exact h1
          exact_mod_cast h3
        have h3 := Nat.div_lt_of_lt_mul (show x.toNat < 10 * 10 ^ (k + 1) by omega)
        exact_mod_cast h3
      rw [w64 (by omega) (by omega)]
      refine Tot.bind (Tot.mono (ih (by omega) _ (by omega) hx) ?_)
      rintro _ rfl
      have hl := dec_len 7 x.toNat (by omega)
      have hd : dec x = dec (x.tdiv 10) ++ [UInt8.ofNat (48 + x.toNat % 10)] := by
        unfold dec
        rw [dec_big (show ¬ x.toNat < 10 by omega), e, Int.toNat_natCast]
      have hl2 : (dec x).length ≤ 8 := hl
      rw [hd, List.length_append] at hl2
      simp only [List.length_cons, List.length_nil] at hl2
      rw [bs_size, bs_size]
      refine Tot.need (by simp only [List.length_cons, List.length_nil]; omega) ?_
      refine Tot.ret ?_
      rw [bs_app, hd]
theorem Num_ok {x : Int} (h0 : 0 ≤ x) (h1 : x ≤ 1000) : Tot (fun n => ref41_Number n x) (· = bs (dec x)) := Number_ok 3 (by omega) x h0 (by omega)
theorem bidx_ltr {k : Int} (h1 : 3 ≤ k) (h8 : k ≤ 8) : bidx (ByteArray.mk #[32, 32, 32, 115, 102, 112, 105, 114, 111]) k = some ((ltr k).toNat : Int) := by
  rcases ltr_cases (by omega : 1 ≤ k) h8 with rfl | rfl | rfl | rfl | rfl | rfl | rfl | rfl <;> first | omega | rfl
theorem str_ltr {k : Int} (h1 : 3 ≤ k) (h8 : k ≤ 8) : strOfNums [((ltr k).toNat : Int)] = bs [ltr k] := by
  rcases ltr_cases (by omega : 1 ≤ k) h8 with rfl | rfl | rfl | rfl | rfl | rfl | rfl | rfl <;> first | omega | rfl
theorem rtext_ok : ∀ (d : Nat) (t : Node), vld d t = true → nsz t ≤ 64 → Tot (fun n => ref41_text n t) (· = bs (txt t)) := by
  intro d
  induction d with
  | zero => intro t h; simp [vld] at h
  | succ d ih =>
    intro t h hn
    obtain ⟨_, rfl', hf, hks⟩ := vld_fit h
    cases rfl'
    have hlen := txt_len _ t h hn
    refine Tot.succ ?_
    dsimp only [ref41_text, ref41_text_F]
    rcases fit_cases hf hn with ⟨h1, h2, h3, h4, h5⟩ | ⟨h1, h2, h3, h4, h5⟩
    · rw [txt_leaf h1] at hlen ⊢
      have hd2 := dec_small3 h3
      refine Tot.condE (fun hk => ?_) (fun hk => ?_)
      · refine Tot.bind (Tot.mono (Num_ok h2 (by omega)) ?_)
        rintro _ rfl
        rw [show (ByteArray.mk #[97]) = bs [97] from rfl, bs_size, bs_size]
        refine Tot.need (by simp only [List.length_cons, List.length_nil]; omega) (Tot.ret ?_)
        rw [bs_app, hk]; rfl
      · have hk2 : t.Kind = 2 := by omega
        rw [show (t.Kind == 2) = true by simp [hk2]]
        simp only [cond_true]
        refine Tot.bind (Tot.mono (Num_ok h2 (by omega)) ?_)
        rintro _ rfl
        rw [show (ByteArray.mk #[116]) = bs [116] from rfl, bs_size, bs_size]
        refine Tot.need (by simp only [List.length_cons, List.length_nil]; omega) (Tot.ret ?_)
        rw [bs_app, hk2]; rfl
    · have hnl : ¬ (t.Kind = 1 ∨ t.Kind = 2) := by omega
      rw [txt_inner hnl] at hlen ⊢
      simp only [List.length_cons, List.length_append, List.length_nil] at hlen
      rw [show (t.Kind == 1) = false by simp; omega, show (t.Kind == 2) = false by simp; omega]
      simp only [cond_false, bidx_ltr h1 h2, Option.bind_some, str_ltr h1 h2]
      rw [show (ByteArray.mk #[40]) = bs [40] from rfl, bs_size, bs_size, bs_app]
      refine Tot.need (by simp only [List.length_cons, List.length_nil]; omega) ?_
      have hc := ctx_len h4
      have hm : nszs t.Kids ≤ 64 := by rw [nsz_eq] at hn; omega
      have hkl := nszs_len t.Kids
      refine Tot.cut (bs (40 :: ltr t.Kind :: ctx t.Count)) ?_ ?_
      · refine Tot.condD (fun hc => ?_) (fun hc => ?_)
        · have hc4 := dec_small4 h4
          refine Tot.bind (Tot.mono (Num_ok (show 0 ≤ t.Count by omega) h4) ?_)
          rintro _ rfl
          rw [bs_size, bs_size]
          refine Tot.need (by simp only [List.length_append, List.length_cons, List.length_nil]; omega) (Tot.ret ?_)
          unfold ctx; rw [if_pos (by omega), bs_app]; rfl
        · refine Tot.ret ?_
          unfold ctx; rw [if_neg (by omega)]; rfl
      · refine Tot.cut (bs (40 :: ltr t.Kind :: (ctx t.Count ++ txts t.Kids))) ?_ ?_
        · refine Tot.mono (Tot.loop (Q := (· = bs (40 :: ltr t.Kind :: (ctx t.Count ++ txts t.Kids)))) (fun s : ByteArray × Int => ∃ j : Nat, s.2 = (j : Int) ∧ j ≤ t.Kids.length ∧ s.1 = bs (40 :: ltr t.Kind :: (ctx t.Count ++ txts (t.Kids.take j)))) (fun s => t.Kids.length - s.2.toNat) ⟨0, rfl, by omega, by simp [txts]⟩ ?_) (fun _ h => h)
          rintro ⟨_, i⟩ ⟨j, rfl, hj, rfl⟩
          dsimp only [ref41_text_L1]
          refine Tot.condD (fun hlt => ?_) (fun hge => ?_)
          · refine Tot.idx (by omega) (by omega) fun k hk => ?_
            rw [Int.toNat_natCast] at hk
            have hst := nszs_step hk
            have hb1 := nszs_take t.Kids (j + 1)
            have htx := txts_step hk
            have hkm := List.mem_of_getElem? hk
            have hl := txts_len (t.Kids.take j) (fun x hx => hks x (List.mem_of_mem_take hx)) (by have := nszs_take t.Kids j; omega)
            have hlk := txt_len d k (hks k hkm) (by omega)
            simp only [Node.eta]
            refine Tot.bind (Tot.mono (ih k (hks k hkm) (by omega)) ?_)
            rintro _ rfl
            rw [show (ByteArray.mk #[32]) = bs [32] from rfl, bs_app, bs_size, bs_size, bs_size, bs_size]
            refine Tot.need (by simp only [List.length_cons, List.length_nil]; omega) ?_
            refine Tot.need (by simp only [List.length_cons, List.length_append, List.length_nil]; omega) ?_
            refine Tot.ret ?_
            dsimp only
            rw [w64 (by omega) (by omega)]
            refine ⟨⟨j + 1, by omega, by omega, ?_⟩, by omega⟩
            rw [htx, bs_app]; simp
          · refine Tot.ret ?_
            dsimp only
            rw [List.take_of_length_le (show t.Kids.length ≤ j by omega)]
        · have hl := txts_len t.Kids hks hm
          rw [show (ByteArray.mk #[41]) = bs [41] from rfl, bs_size, bs_size]
          refine Tot.need (by simp only [List.length_cons, List.length_append, List.length_nil]; omega) (Tot.ret ?_)
          rw [bs_app]; simp
theorem rText_ok (t : Node) : Evt (fun n => ref41_Text n t) (bs (if Vld t then txt t else [])) := by
  refine Tot.of_eq ?_
  dsimp only [ref41_Text]
  simp only [Node.eta]
  refine Tot.bind ⟨_, rValid_ok t, ?_⟩
  refine Tot.cond (fun h => ?_) (fun h => ?_)
  · simp only [Bool.not_eq_true'] at h
    rw [if_neg (by rw [h]; simp)]
    exact Tot.ret rfl
  · simp only [Bool.not_eq_false'] at h
    obtain ⟨hn, hv⟩ := Vld_iff h
    refine Tot.bind (Tot.mono (rtext_ok 16 t hv hn) ?_)
    rintro _ rfl
    rw [if_pos h]
    exact Tot.ret rfl
/- ### Trees that are the same -/
theorem same_ok : ∀ (t u : Node), nsz t ≤ 1000 → Tot (fun n => ref41_Same n t u) (fun b => b = true ↔ t = u) := by
  intro t
  induction t using Node.ind with
  | h t ih =>
  intro u hn
  refine Tot.succ ?_
  dsimp only [ref41_Same, ref41_Same_F]
  have hkl := nszs_len t.Kids
  rw [nsz_eq] at hn
  refine Tot.cut (decide (¬ (t.Kind = u.Kind ∧ t.Name = u.Name ∧ t.Count = u.Count ∧ t.Kids.length = u.Kids.length))) ?_ ?_
  · refine Tot.condN (fun h => Tot.ret ?_) (fun h => ?_)
    · rw [decide_eq_true]; exact fun x => h x.1
    refine Tot.condN (fun h => Tot.ret ?_) (fun h2 => ?_)
    · rw [decide_eq_true]; exact fun x => h x.2.1
    refine Tot.condN (fun h => Tot.ret ?_) (fun h3 => Tot.ret ?_)
    · rw [decide_eq_true]; exact fun x => h x.2.2.1
    · by_cases h4 : t.Kids.length = u.Kids.length
      · simp [h, h2, h3, h4]
      · simp [h, h2, h3, h4]; omega
  · refine Tot.condD (fun h => Tot.ret ?_) (fun h => ?_)
    · refine ⟨fun e => (by cases e), ?_⟩; rintro rfl; exact absurd ⟨rfl, rfl, rfl, rfl⟩ h
    · simp only [Classical.not_not] at h
      obtain ⟨h1, h2, h3, h4⟩ := h
      have hiff : t = u ↔ t.Kids = u.Kids := by
        cases t; cases u
        simp only at h1 h2 h3
        subst h1 h2 h3
        simp
      refine Tot.bind (Tot.mono (Q' := fun o : Out Unit Bool => (o = .go () ∧ t.Kids = u.Kids) ∨ (o = .done false ∧ t.Kids ≠ u.Kids)) (Tot.loop (fun s : Int => ∃ j : Nat, s = (j : Int) ∧ j ≤ t.Kids.length ∧ t.Kids.take j = u.Kids.take j) (fun s => t.Kids.length - s.toNat) ⟨0, rfl, by omega, by simp⟩ ?_) ?_)
      · rintro i ⟨j, rfl, hj, hall⟩
        dsimp only [ref41_Same_L1]
        refine Tot.condD (fun hlt => ?_) (fun hge => ?_)
        · refine Tot.idx (by omega) (by omega) fun k hk => ?_
          refine Tot.idx (by omega) (by omega) fun k' hk' => ?_
          rw [Int.toNat_natCast] at hk hk'
          have hm := nszs_mem (List.mem_of_getElem? hk)
          simp only [Node.eta]
          refine Tot.bind (Tot.mono (ih k (List.mem_of_getElem? hk) k' (by omega)) ?_)
          intro b hb
          refine Tot.cond (fun hv => ?_) (fun hv => ?_)
          · refine Tot.ret (.inr ⟨rfl, fun e => ?_⟩)
            rw [e, hk'] at hk
            have := hb.2 (Option.some.inj hk).symm
            rw [this] at hv; cases hv
          · have hv : k = k' := hb.1 (by simpa using hv)
            refine Tot.ret ?_
            dsimp only
            rw [w64 (by omega) (by omega)]
            refine ⟨⟨j + 1, by omega, by omega, ?_⟩, by omega⟩
            rw [List.take_add_one, List.take_add_one, hk, hk', hall, hv]
        · refine Tot.ret (.inl ⟨rfl, ?_⟩)
          rwa [List.take_of_length_le (by omega), List.take_of_length_le (by omega)] at hall
      · rintro _ (⟨rfl, h⟩ | ⟨rfl, h⟩)
        · exact Tot.ret ⟨fun _ => hiff.2 h, fun _ => rfl⟩
        · exact Tot.ret ⟨fun e => (by cases e), fun e => absurd (hiff.1 e) h⟩
end Go.Proofs.YtknnmbcaoekgmaaDoor

namespace Go.Proofs.YtknnmbcaoekgmaaDoor
open Go Go.Proofs.YtknnmbcaoekgmaaDoor.Gw
set_option linter.unusedVariables false

/- ### The parser's parts -/
def NoDig (l : List UInt8) : Prop := ∀ x r, l = x :: r → isD x = false
theorem NoDig.nil : NoDig [] := fun x r h => by cases h
theorem split_dig : ∀ l : List UInt8, ∃ d rest, l = d ++ rest ∧ d.all isD = true ∧ NoDig rest
  | [] => ⟨[], [], rfl, rfl, NoDig.nil⟩
  | x :: l => by
    cases hx : isD x
    · exact ⟨[], x :: l, rfl, rfl, fun y r e => by cases e; exact hx⟩
    · obtain ⟨d, rest, rfl, h1, h2⟩ := split_dig l
      exact ⟨x :: d, rest, rfl, by rw [List.all_cons, hx, h1]; rfl, h2⟩
theorem split_uniq : ∀ {d d' rest rest' : List UInt8}, d ++ rest = d' ++ rest' → d.all isD = true → d'.all isD = true → NoDig rest → NoDig rest' → d = d' ∧ rest = rest'
  | [], [], _, _, h, _, _, _, _ => ⟨rfl, h⟩
  | [], y :: d', rest, rest', h, _, h2, h3, _ => by
    have := h3 y (d' ++ rest') h
    rw [List.all_cons, this] at h2; cases h2
  | x :: d, [], rest, rest', h, h1, _, _, h4 => by
    have := h4 x (d ++ rest) h.symm
    rw [List.all_cons, this] at h1; cases h1
  | x :: d, y :: d', rest, rest', h, h1, h2, h3, h4 => by
    simp only [List.cons_append, List.cons.injEq] at h
    simp only [List.all_cons, Bool.and_eq_true] at h1 h2
    obtain ⟨e1, e2⟩ := split_uniq h.2 h1.2 h2.2 h3 h4
    exact ⟨by rw [h.1, e1], e2⟩
theorem decFrom_all : ∀ (l : List UInt8) (a : Nat), l.all isD = true → Lib.decFrom a l = some (l.foldl (fun a c => a * 10 + (c.toNat - 48)) a)
  | [], a, _ => rfl
  | c :: l, a, h => by
    simp only [List.all_cons, Bool.and_eq_true] at h
    have hc : 48 ≤ c.toNat ∧ c.toNat ≤ 57 := by simpa [isD] using h.1
    rw [Lib.decFrom, show Lib.digitVal c = some (c.toNat - 48) from by unfold Lib.digitVal; rw [if_pos hc]]
    exact decFrom_all l _ h.2
theorem atoi_all {l : List UInt8} (h : l.all isD = true) (h0 : l ≠ []) : Lib.atoi l = some (numV l : Int) := by
  cases l with
  | nil => exact absurd rfl h0
  | cons c l =>
    have hc : 48 ≤ c.toNat ∧ c.toNat ≤ 57 := by simp only [List.all_cons, Bool.and_eq_true] at h; simpa [isD] using h.1
    have n1 : (c == 45) = false := by
      rw [beq_eq_false_iff_ne]; rintro rfl; revert hc; decide
    have n2 : (c == 43) = false := by
      rw [beq_eq_false_iff_ne]; rintro rfl; revert hc; decide
    unfold Lib.atoi
    simp only [n1, n2, Bool.false_eq_true, if_false]
    unfold Lib.decNat
    rw [show (c :: l).isEmpty = false from rfl]
    simp only [Bool.false_eq_true, if_false]
    rw [decFrom_all _ _ h]; rfl
def Good (d : List UInt8) : Prop := d ≠ [] ∧ d.length ≤ 4 ∧ ∀ t, d = 48 :: t → t = []
theorem dec_good {x : Int} (h0 : 0 ≤ x) (h1 : x ≤ 1000) : Good (dec x) ∧ (dec x).all isD = true ∧ (numV (dec x) : Int) = x := by
  obtain ⟨a, b, c⟩ := dec_num x.toNat
  refine ⟨⟨?_, dec_small4 h1, ?_⟩, b, by unfold dec; rw [a]; omega⟩
  · rcases Nat.eq_zero_or_pos x.toNat with h | h
    · unfold dec; rw [dec_small (by omega)]; simp
    · obtain ⟨c, t, e, _⟩ := c h; unfold dec; rw [e]; simp
  · intro t e
    rcases Nat.eq_zero_or_pos x.toNat with h | h
    · unfold dec at e; rw [dec_small (by omega), h] at e; cases e; rfl
    · obtain ⟨c, t', e', hc⟩ := c h
      unfold dec at e; rw [e'] at e; cases e; exact absurd rfl hc
theorem good_dec {d : List UInt8} (h : Good d) (ha : d.all isD = true) : dec (numV d : Int) = d := by
  unfold dec
  rw [Int.toNat_natCast]
  refine num_dec d ha ?_
  cases d with
  | nil => exact absurd rfl h.1
  | cons c t => exact ⟨c, t, rfl, fun e => h.2.2 t (by rw [e])⟩
theorem scut_drop {l : List UInt8} {lo : Int} {k : Nat} (e : lo = (k : Int)) (h : k ≤ l.length) : scut (bs l) lo ((bs l).size : Int) = some (bs (l.drop k)) := by
  rw [scut_bs l (hi := ((bs l).size : Int)) (b := l.length) e rfl h (Nat.le_refl _), List.take_of_length_le (by rw [List.length_drop]; omega)]
theorem take_nil (n : Nat) (c ch : Int) : tree_parser_take n (Parser.mk (bs []) c) ch = some (false, Parser.mk (bs []) c) := by
  dsimp only [tree_parser_take]
  rw [bs_nil_beq]
  rfl
theorem u8_cast_inj {x y : UInt8} : (x.toNat : Int) = (y.toNat : Int) ↔ x = y := by
  rw [Int.ofNat_inj]; exact UInt8.toNat_inj
theorem take_cons (n : Nat) (c : Int) (x y : UInt8) (r : List UInt8) : tree_parser_take n (Parser.mk (bs (x :: r)) c) (y.toNat : Int) = some (if x = y then (true, Parser.mk (bs r) c) else (false, Parser.mk (bs (x :: r)) c)) := by
  dsimp only [tree_parser_take]
  rw [bs_nil_beq, decide_eq_false (by simp), cond_false, show bidx (bs (x :: r)) 0 = some (x.toNat : Int) from bidx_at (i := 0) rfl rfl]
  rw [scut_drop (lo := 1) (k := 1) rfl (by simp)]
  simp only [Option.bind_some, List.drop_succ_cons, List.drop_zero]
  by_cases h : x = y
  · subst h
    simp
  · have h' : ¬ ((x.toNat : Int) = (y.toNat : Int)) := fun e => h (u8_cast_inj.1 e)
    rw [show ((x.toNat : Int) != (y.toNat : Int)) = true by simpa using h', if_neg h]
    rfl
theorem number_ok (l : List UInt8) (c : Int) (hl : l.length ≤ 100000) : Tot (fun n => tree_parser_number n (Parser.mk (bs l) c)) (fun r => ∃ d rest, l = d ++ rest ∧ d.all isD = true ∧ NoDig rest ∧
    ((¬ Good d ∧ r = (0, false, Parser.mk (bs l) c)) ∨ (Good d ∧ r = ((numV d : Int), true, Parser.mk (bs rest) c)))) := by
  obtain ⟨d, rest, rfl, ha, hr⟩ := split_dig l
  unfold tree_parser_number
  dsimp only
  refine Tot.cut (d.length : Int) ?_ ?_
  · refine Tot.mono (Tot.loop0 (Q := (· = (d.length : Int))) (fun s : Int => ∃ j : Nat, s = (j : Int) ∧ j ≤ d.length) (fun s => d.length - s.toNat) ⟨0, rfl, by omega⟩ ?_) (fun _ h => h)
    rintro _ ⟨j, rfl, hj⟩
    dsimp only [tree_parser_number_L1]
    rw [bs_size, List.length_append]
    refine Tot.cut (decide (j < d.length)) ?_ ?_
    · refine Tot.condD (fun hlt => ?_) (fun hge => ?_)
      · rcases Nat.lt_or_ge j d.length with hjd | hjd
        · have hx : (d ++ rest)[j]? = some d[j] := by rw [List.getElem?_append_left hjd, List.getElem?_eq_getElem hjd]
          have hD : isD d[j] = true := List.all_eq_true.1 ha _ (List.getElem_mem hjd)
          have hD' : 48 ≤ d[j].toNat ∧ d[j].toNat ≤ 57 := by simpa [isD] using hD
          refine Tot.bidxv (bidx_at rfl hx) ?_
          refine Tot.condD (fun h1 => ?_) (fun h1 => absurd (by omega) h1)
          refine Tot.bidxv (bidx_at rfl hx) ?_
          refine Tot.ret ?_
          rw [decide_eq_true (show ((d[j].toNat : Nat) : Int) ≤ 57 by omega), decide_eq_true hjd]
        · obtain rfl : j = d.length := by omega
          cases hre : rest with
          | nil => rw [hre] at hlt; simp only [List.length_nil] at hlt; omega
          | cons x r =>
            have hD := hr x r hre
            have hx : (d ++ (x :: r))[d.length]? = some x := by rw [List.getElem?_append_right (by omega)]; simp
            have hD' : ¬ (48 ≤ x.toNat ∧ x.toNat ≤ 57) := by simpa only [isD, decide_eq_false_iff_not] using hD
            rw [decide_eq_false (show ¬ d.length < d.length by omega)]
            refine Tot.bidxv (bidx_at rfl hx) ?_
            refine Tot.condD (fun h1 => ?_) (fun h1 => Tot.ret rfl)
            refine Tot.bidxv (bidx_at rfl hx) ?_
            refine Tot.ret ?_
            rw [decide_eq_false (show ¬ ((x.toNat : Nat) : Int) ≤ 57 by omega)]
      · exact Tot.ret (by rw [decide_eq_false (show ¬ j < d.length by omega)])
    · refine Tot.condD (fun h => ?_) (fun h => ?_)
      · refine Tot.ret ?_
        dsimp only
        rw [List.length_append] at hl
        rw [w64 (by omega) (by omega)]
        exact ⟨⟨j + 1, by omega, by omega⟩, by omega⟩
      · exact Tot.ret (by dsimp only; omega)
  · rw [List.length_append] at hl
    by_cases hg : Good d
    · refine Tot.cut false ?_ ?_
      · have h0 : 0 < d.length := List.length_pos_iff.2 hg.1
        refine Tot.condE (fun h => absurd h (by omega)) (fun _ => ?_)
        refine Tot.condD (fun h => absurd hg.2.1 (by omega)) (fun _ => ?_)
        cases d with
        | nil => exact absurd rfl hg.1
        | cons x t =>
          refine Tot.bidxv (bidx_at (i := 0) rfl rfl) ?_
          refine Tot.condE (fun h => ?_) (fun _ => Tot.ret rfl)
          have hx : x = 48 := u8_cast_inj.1 h
          have ht := hg.2.2 t (by rw [hx])
          exact Tot.ret (by rw [ht]; rfl)
      · dsimp only [cond_false]
        rw [scut_bs (lo := 0) (d ++ rest) (a := 0) (b := d.length) rfl rfl (by omega) (by rw [List.length_append]; omega)]
        rw [scut_drop (k := d.length) rfl (by rw [List.length_append]; omega)]
        simp only [Option.bind_some, Nat.sub_zero, List.drop_zero, List.take_left]
        have hA : ∀ n, strconv_Atoi n (bs d) = some ((numV d : Int), ()) := by
          intro n
          unfold strconv_Atoi
          rw [if_pos (by rw [bs_size]; have := hg.2.1; omega), bs_data, atoi_all ha hg.1]; rfl
        simp only [hA, Option.bind_some]
        refine Tot.ret ⟨d, rest, rfl, ha, hr, .inr ⟨hg, ?_⟩⟩
        rw [List.drop_left]
    · refine Tot.cut true ?_ ?_
      · refine Tot.condE (fun h => Tot.ret rfl) (fun h0 => ?_)
        refine Tot.condD (fun h => Tot.ret rfl) (fun h4 => ?_)
        cases d with
        | nil => exact absurd rfl h0
        | cons x t =>
          refine Tot.bidxv (bidx_at (i := 0) rfl rfl) ?_
          refine Tot.condE (fun h => ?_) (fun h => ?_)
          · refine Tot.ret ?_
            have hx : x = 48 := u8_cast_inj.1 h
            cases t with
            | nil => exact absurd ⟨by simp, by simp, by rintro t e; cases e; rfl⟩ hg
            | cons y t => rw [decide_eq_true]; simp only [List.length_cons]; omega
          · refine absurd ⟨by simp, by omega, ?_⟩ hg
            rintro t e; cases e; exact absurd rfl h
      · dsimp only [cond_true]
        exact Tot.ret ⟨d, rest, rfl, ha, hr, .inl ⟨hg, rfl⟩⟩
def KL : List UInt8 := [32, 97, 116, 115, 102, 112, 105, 114, 111]
def kx (b : UInt8) : Int := Lib.indexByte KL b
theorem index_kx (n : Nat) (b : UInt8) : strings_IndexByte n (ByteArray.mk #[32, 97, 116, 115, 102, 112, 105, 114, 111]) (b.toNat : Int) = some (kx b) := by
  unfold strings_IndexByte kx
  rw [show ((b.toNat : Int).toNat).toUInt8 = b from by
    rw [Int.toNat_natCast]; apply UInt8.toNat_inj.1; show b.toNat % 256 = b.toNat; have := b.toNat_lt; omega]
  rfl
theorem kx_all : (List.range 256).all (fun i => decide (kx (UInt8.ofNat i) < 1) || (decide (kx (UInt8.ofNat i) ≤ 8) && (UInt8.ofNat i == ltr (kx (UInt8.ofNat i))))) = true := by decide +kernel
theorem kx_spec (b : UInt8) : kx b < 1 ∨ (1 ≤ kx b ∧ kx b ≤ 8 ∧ b = ltr (kx b)) := by
  have h := List.all_eq_true.1 kx_all b.toNat (List.mem_range.2 b.toNat_lt)
  rw [UInt8.ofNat_toNat] at h
  simp only [Bool.or_eq_true, Bool.and_eq_true, decide_eq_true_eq, beq_iff_eq] at h
  rcases h with h | h
  · exact .inl h
  · rcases Int.lt_or_le (kx b) 1 with h' | h'
    · exact .inl h'
    · exact .inr ⟨h', h.1, h.2⟩
theorem kx_ltr {k : Int} (h1 : 1 ≤ k) (h8 : k ≤ 8) : kx (ltr k) = k := by
  rcases ltr_cases h1 h8 with rfl | rfl | rfl | rfl | rfl | rfl | rfl | rfl <;> rfl
theorem ltr_ne40 {k : Int} (h1 : 1 ≤ k) (h8 : k ≤ 8) : ltr k ≠ 40 ∧ ltr k ≠ 41 ∧ ltr k ≠ 32 ∧ isD (ltr k) = false := by
  rcases ltr_cases h1 h8 with rfl | rfl | rfl | rfl | rfl | rfl | rfl | rfl <;> decide
theorem leafR (k : Int) : (cond (k == 1) (some (k == 1)) (some (k == 2)) : Option Bool) = some (decide (k = 1 ∨ k = 2)) := by
  by_cases h : k = 1
  · rw [show (k == 1) = true by simp [h]]; simp [h]
  · rw [show (k == 1) = false by simp [h]]; simp [h]; rfl
theorem cntR (k : Int) : (cond (k == 5) (some (k == 5)) (cond (k == 7) (some (k == 7)) (some (k == 8))) : Option Bool) = some (decide (k = 5 ∨ k = 7 ∨ k = 8)) := by
  by_cases h : k = 5
  · rw [show (k == 5) = true by simp [h]]; simp [h]
  · rw [show (k == 5) = false by simp [h]]
    by_cases h' : k = 7
    · rw [show (k == 7) = true by simp [h']]; simp [h']
    · rw [show (k == 7) = false by simp [h']]; simp [h, h']; rfl
end Go.Proofs.YtknnmbcaoekgmaaDoor

namespace Go.Proofs.YtknnmbcaoekgmaaDoor
open Go Go.Proofs.YtknnmbcaoekgmaaDoor.Gw
set_option linter.unusedVariables false

/- ### The parser reads what is written -/
theorem NoDig.sep {x : UInt8} {r : List UInt8} (h : x = 32 ∨ x = 41) : NoDig (x :: r) := by
  rintro y r' e; cases e
  rcases h with rfl | rfl <;> rfl
theorem txts_nodig (l : List Node) (r : List UInt8) : NoDig (txts l ++ 41 :: r) := by
  cases l with
  | nil => exact NoDig.sep (.inr rfl)
  | cons t l => exact NoDig.sep (.inl rfl)
theorem number_dec {x : Int} {rest : List UInt8} {c : Int} (h0 : 0 ≤ x) (h1 : x ≤ 1000) (hr : NoDig rest) (hl : rest.length ≤ 90000) : Tot (fun n => tree_parser_number n (Parser.mk (bs (dec x ++ rest)) c)) (· = (x, true, Parser.mk (bs rest) c)) := by
  obtain ⟨hg, ha, hv⟩ := dec_good h0 h1
  refine Tot.mono (number_ok (dec x ++ rest) c (by rw [List.length_append]; have := hg.2.1; omega)) ?_
  rintro r ⟨d, rest', e, ha', hr', h⟩
  obtain ⟨rfl, rfl⟩ := split_uniq e ha ha' hr hr'
  rcases h with ⟨h, _⟩ | ⟨_, rfl⟩
  · exact absurd hg h
  · rw [hv]
theorem node_A : ∀ (d : Nat) (t : Node), d ≤ 16 → vld d t = true → nsz t ≤ 64 → ∀ (rest : List UInt8) (c : Int), NoDig rest → 0 ≤ c → c + nsz t ≤ 64 → rest.length + 8 * nsz t ≤ 80000 →
    Tot (fun n => tree_parser_node n (Parser.mk (bs (txt t ++ rest)) c) (d : Int)) (· = (t, true, Parser.mk (bs rest) (c + nsz t))) := by
  intro d
  induction d with
  | zero => intro t _ h; simp [vld] at h
  | succ d ih =>
    intro t hd h hn rest c hr hc hcn hlen
    obtain ⟨_, rfl', hf, hks⟩ := vld_fit h
    cases rfl'
    have htl := txt_len _ t h hn
    have hpos := nsz_pos t
    refine Tot.succ ?_
    dsimp only [tree_parser_node, tree_parser_node_F]
    rw [show (((d + 1 : Nat) : Int) == 0) = false from by simp; omega]
    rw [w64 (show -9223372036854775808 ≤ c + 1 by omega) (show c + 1 < 9223372036854775808 by omega)]
    rw [decide_eq_false (show ¬ c + 1 > 64 by omega)]
    simp only [cond_false, Option.bind_some, bs_nil_beq]
    rcases fit_cases hf hn with ⟨h1, h2, h3, h4, h5⟩ | ⟨h1, h2, h3, h4, h5⟩
    · -- a leaf
      obtain ⟨e40, e41, e32, eD⟩ := ltr_ne40 (show 1 ≤ t.Kind by omega) (show t.Kind ≤ 8 by omega)
      rw [txt_leaf h1, List.cons_append]
      simp only [decide_eq_false (List.cons_ne_nil _ _), cond_false]
      rw [show (40 : Int) = ((40 : UInt8).toNat : Int) from rfl]
      simp only [take_cons, if_neg e40, Option.bind_some, bs_nil_beq, decide_eq_false (List.cons_ne_nil _ _), cond_false]
      rw [show bidx (bs (ltr t.Kind :: (dec t.Name ++ rest))) 0 = some ((ltr t.Kind).toNat : Int) from bidx_at (i := 0) rfl rfl]
      simp only [Option.bind_some, index_kx, kx_ltr (show 1 ≤ t.Kind by omega) (show t.Kind ≤ 8 by omega)]
      rw [scut_drop (lo := 1) (k := 1) rfl (by simp)]
      simp only [Option.bind_some, List.drop_succ_cons, List.drop_zero]
      rw [decide_eq_false (show ¬ t.Kind < 1 by omega), decide_eq_false (show ¬ t.Kind ≥ 3 by omega)]
      simp only [cond_false, Option.bind_some, beq_self_eq_true, Bool.not_true, leafR, decide_eq_true h1, cond_true]
      refine Tot.cut (bs rest, c + 1, t.Name, 0, true) ?_ ?_
      · refine Tot.bind (Tot.mono (number_dec h2 (by omega) hr (by omega)) ?_)
        rintro _ rfl
        exact Tot.ret rfl
      · dsimp only
        refine Tot.cut (bs rest, c + 1, [], true) ?_ ?_
        · refine Tot.mono (Tot.loop (Q := (· = (bs rest, c + 1, ([] : List Node), true))) (fun s : ByteArray × Int × List Node × Bool => s = (bs rest, c + 1, [], true)) (fun _ => 0) rfl ?_) (fun _ h => h)
          rintro _ rfl
          dsimp only [tree_parser_node_L1]
          exact Tot.ret rfl
        · refine Tot.ret ?_
          dsimp only
          rw [nsz_eq, h5]
          simp only [nszs]
          congr 1
          cases t
          simp only at h4 h5
          subst h4 h5
          rfl
    · have hnl : ¬ (t.Kind = 1 ∨ t.Kind = 2) := by omega
      have hm : nszs t.Kids ≤ 64 := by rw [nsz_eq] at hn; omega
      have hct := ctx_len h4
      have htk := txts_len t.Kids hks hm
      rw [nsz_eq] at hcn hlen
      have hkl := nszs_len t.Kids
      rw [txt_inner hnl, List.cons_append, List.cons_append]
      simp only [decide_eq_false (List.cons_ne_nil _ _), cond_false]
      rw [show (40 : Int) = ((40 : UInt8).toNat : Int) from rfl]
      simp only [take_cons, if_true, Option.bind_some, bs_nil_beq, decide_eq_false (List.cons_ne_nil _ _), cond_false]
      rw [show bidx (bs (ltr t.Kind :: (ctx t.Count ++ (txts t.Kids ++ [41]) ++ rest))) 0 = some ((ltr t.Kind).toNat : Int) from bidx_at (i := 0) rfl rfl]
      simp only [Option.bind_some, index_kx, kx_ltr (show 1 ≤ t.Kind by omega) (show t.Kind ≤ 8 by omega)]
      rw [scut_drop (lo := 1) (k := 1) rfl (by simp)]
      simp only [Option.bind_some, List.drop_succ_cons, List.drop_zero]
      rw [decide_eq_false (show ¬ t.Kind < 1 by omega), decide_eq_true (show t.Kind ≥ 3 by omega)]
      simp only [cond_false, Option.bind_some, beq_self_eq_true, Bool.not_true, leafR, decide_eq_false hnl, cntR]
      have hassoc : ctx t.Count ++ (txts t.Kids ++ [41]) ++ rest = ctx t.Count ++ (txts t.Kids ++ 41 :: rest) := by simp
      rw [hassoc]
      refine Tot.cut (bs (txts t.Kids ++ 41 :: rest), c + 1, 0, t.Count, true) ?_ ?_
      · rcases h5 with ⟨h5, h6⟩ | ⟨h5, h6⟩
        · rw [decide_eq_true h5]
          simp only [cond_true]
          unfold ctx
          rw [if_pos (by omega)]
          refine Tot.bind (Tot.mono (number_dec (show 0 ≤ t.Count by omega) h4 (txts_nodig _ _) (by simp only [List.length_append, List.length_cons]; omega)) ?_)
          rintro _ rfl
          exact Tot.ret rfl
        · rw [decide_eq_false (show ¬ (t.Kind = 5 ∨ t.Kind = 7 ∨ t.Kind = 8) by omega)]
          simp only [cond_false]
          unfold ctx
          rw [if_neg (by omega), h6]
          exact Tot.ret rfl
      · dsimp only
        refine Tot.cut (bs (41 :: rest), c + 1 + nszs t.Kids, t.Kids, true) ?_ ?_
        · refine Tot.mono (Tot.loop (Q := (· = (bs (41 :: rest), c + 1 + nszs t.Kids, t.Kids, true))) (fun s : ByteArray × Int × List Node × Bool => ∃ j : Nat, j ≤ t.Kids.length ∧ s = (bs (txts (t.Kids.drop j) ++ 41 :: rest), c + 1 + nszs (t.Kids.take j), t.Kids.take j, true)) (fun s => t.Kids.length - s.2.2.1.length) ⟨0, by omega, by simp [nszs]⟩ ?_) (fun _ h => h)
          rintro _ ⟨j, hj, rfl⟩
          dsimp only [tree_parser_node_L1]
          simp only [cond_true]
          rw [show (32 : Int) = ((32 : UInt8).toNat : Int) from rfl]
          rcases Nat.lt_or_ge j t.Kids.length with hlt | hge
          · have hk : t.Kids[j]? = some t.Kids[j] := List.getElem?_eq_getElem hlt
            have hkm : t.Kids[j] ∈ t.Kids := List.getElem_mem hlt
            have hst := nszs_step hk
            have hb1 := nszs_take t.Kids (j + 1)
            have hsplit : t.Kids.drop j = t.Kids[j] :: t.Kids.drop (j + 1) := List.drop_eq_getElem_cons hlt
            have hdl := txts_len (t.Kids.drop (j + 1)) (fun x hx => hks x (List.mem_of_mem_drop hx)) (by
              have := nszs_app (t.Kids.take (j + 1)) (t.Kids.drop (j + 1)); rw [List.take_append_drop] at this; omega)
            have hdn : nszs (t.Kids.take (j + 1)) + nszs (t.Kids.drop (j + 1)) = nszs t.Kids := by
              have := nszs_app (t.Kids.take (j + 1)) (t.Kids.drop (j + 1)); rw [List.take_append_drop] at this; omega
            rw [hsplit]
            simp only [txts, List.cons_append, take_cons, if_true, Option.bind_some, cond_true]
            rw [w64 (by omega) (by omega), show ((d + 1 : Nat) : Int) - 1 = (d : Int) by omega, List.append_assoc]
            have hnd : NoDig (txts (t.Kids.drop (j + 1)) ++ 41 :: rest) := txts_nodig _ _
            refine Tot.bind (Tot.mono (ih t.Kids[j] (by omega) (hks _ hkm) (by omega) (txts (t.Kids.drop (j + 1)) ++ 41 :: rest) (c + 1 + nszs (t.Kids.take j)) hnd (by omega) (by omega) (by simp only [List.length_append, List.length_cons]; omega)) ?_)
            rintro _ rfl
            simp only [cond_true, Node.eta]
            refine Tot.app (by simp only [List.length_take, List.length_cons, List.length_nil]; omega) ?_
            refine Tot.ret ?_
            dsimp only
            refine ⟨⟨j + 1, by omega, ?_⟩, ?_⟩
            · rw [hst]
              rw [show t.Kids.take j ++ [t.Kids[j]] = t.Kids.take (j + 1) from by rw [List.take_add_one, hk]; rfl]
              congr 2
              omega
            · simp only [List.length_append, List.length_take, List.length_cons, List.length_nil]; omega
          · have hdr : t.Kids.drop j = [] := List.drop_eq_nil_of_le hge
            have htk : t.Kids.take j = t.Kids := List.take_of_length_le hge
            rw [hdr, htk]
            simp only [txts, List.nil_append, take_cons, show ¬ ((41 : UInt8) = 32) by decide, if_false, Option.bind_some, cond_false]
            exact Tot.ret rfl
        · simp only [cond_true]
          rw [show (41 : Int) = ((41 : UInt8).toNat : Int) from rfl]
          simp only [take_cons, if_true, Option.bind_some]
          refine Tot.ret ?_
          rw [nsz_eq]
          have e : Node.mk t.Kind 0 t.Count t.Kids = t := by
            cases t
            simp only at h3
            subst h3
            rfl
          rw [e]
          congr 3
          push_cast
          omega
/- ### What the parser reads was written so -/
theorem node_B : ∀ (d : Nat), d ≤ 16 → ∀ (l : List UInt8) (c : Int), l.length ≤ 5000 → 0 ≤ c → c ≤ 64 →
    Tot (fun n => tree_parser_node n (Parser.mk (bs l) c) (d : Int)) (fun r => r.2.1 = true → ∃ rest c', r.2.2 = Parser.mk (bs rest) c' ∧ rest.length < l.length ∧ 0 ≤ c' ∧ c' ≤ 64 ∧ (vld d r.1 = true → nsz r.1 ≤ 64 → l = txt r.1 ++ rest)) := by
  intro d
  induction d with
  | zero =>
    intro _ l c _ _ _
    refine Tot.succ ?_
    dsimp only [tree_parser_node, tree_parser_node_F]
    exact Tot.ret (fun h => by cases h)
  | succ d ih =>
    intro hd l c hl hc hc64
    refine Tot.succ ?_
    dsimp only [tree_parser_node, tree_parser_node_F]
    rw [show (((d + 1 : Nat) : Int) == 0) = false from by simp; omega]
    rw [w64 (show -9223372036854775808 ≤ c + 1 by omega) (show c + 1 < 9223372036854775808 by omega)]
    simp only [cond_false]
    refine Tot.cut (decide (c + 1 > 64) || decide (l = [])) ?_ ?_
    · refine Tot.condD (fun h => Tot.ret ?_) (fun h => Tot.ret ?_)
      · rw [decide_eq_true h]; rfl
      · rw [decide_eq_false h, bs_nil_beq]; rfl
    refine Tot.cond (fun _ => Tot.ret (fun h => by cases h)) (fun h0 => ?_)
    simp only [Bool.or_eq_false_iff, decide_eq_false_iff_not] at h0
    obtain ⟨h64, hne⟩ := h0
    cases l with
    | nil => exact absurd rfl hne
    | cons x0 l0 =>
    rw [show (40 : Int) = ((40 : UInt8).toNat : Int) from rfl]
    simp only [take_cons, Option.bind_some]
    obtain ⟨inn, l1, hin, hl1⟩ : ∃ inn l1, (if x0 = 40 then (true, Parser.mk (bs l0) (c + 1)) else (false, Parser.mk (bs (x0 :: l0)) (c + 1))) = (inn, Parser.mk (bs l1) (c + 1)) ∧ ((inn = true ∧ x0 :: l0 = 40 :: l1) ∨ (inn = false ∧ x0 :: l0 = l1)) := by
      by_cases e : x0 = 40
      · exact ⟨true, l0, by rw [if_pos e], .inl ⟨rfl, by rw [e]⟩⟩
      · exact ⟨false, x0 :: l0, by rw [if_neg e], .inr ⟨rfl, rfl⟩⟩
    rw [hin]
    have hl1l : l1.length ≤ (x0 :: l0).length := by
      rcases hl1 with ⟨_, e⟩ | ⟨_, e⟩ <;> rw [e] <;> simp
    dsimp only
    rw [bs_nil_beq]
    refine Tot.condD (fun _ => Tot.ret (fun h => by cases h)) (fun h1 => ?_)
    cases l1 with
    | nil => exact absurd rfl h1
    | cons x l2 =>
    rw [show bidx (bs (x :: l2)) 0 = some (x.toNat : Int) from bidx_at (i := 0) rfl rfl]
    simp only [Option.bind_some, index_kx]
    rw [scut_drop (lo := 1) (k := 1) rfl (by simp)]
    simp only [Option.bind_some, List.drop_succ_cons, List.drop_zero]
    simp only [List.length_cons] at hl1l hl
    refine Tot.cut (decide (kx x < 1) || !(inn == decide (kx x ≥ 3))) ?_ ?_
    · refine Tot.condD (fun h => Tot.ret ?_) (fun h => Tot.ret ?_)
      · rw [decide_eq_true h]; rfl
      · rw [decide_eq_false h]; rfl
    refine Tot.cond (fun _ => Tot.ret (fun h => by cases h)) (fun h0 => ?_)
    simp only [Bool.or_eq_false_iff, decide_eq_false_iff_not, Bool.not_eq_false', beq_iff_eq] at h0
    obtain ⟨hk1, hinn⟩ := h0
    obtain ⟨hk1, hk8, hx⟩ := (kx_spec x).resolve_left hk1
    generalize kx x = k at *
    simp only [leafR, cntR, Option.bind_some]
    -- the number
    refine Tot.bind (Tot.mono (Q' := fun r : ByteArray × Int × Int × Int × Bool => r.2.2.2.2 = true → ∃ l3 dg, r.1 = bs l3 ∧ r.2.1 = c + 1 ∧ l2 = dg ++ l3 ∧ (((k = 1 ∨ k = 2) ∧ r.2.2.2.1 = 0 ∧ dg = dec r.2.2.1) ∨ ((k = 5 ∨ k = 7 ∨ k = 8) ∧ r.2.2.1 = 0 ∧ dg = dec r.2.2.2.1) ∨ ((k = 3 ∨ k = 4 ∨ k = 6) ∧ r.2.2.1 = 0 ∧ r.2.2.2.1 = 0 ∧ dg = []))) ?_ ?_)
    · refine Tot.condD (fun h12 => ?_) (fun h12 => ?_)
      · refine Tot.bind (Tot.mono (number_ok l2 (c + 1) (by omega)) ?_)
        rintro r ⟨dg, l3, e, ha, hr, h⟩
        refine Tot.ret ?_
        rcases h with ⟨_, rfl⟩ | ⟨hg, rfl⟩
        · exact fun h => by cases h
        · exact fun _ => ⟨l3, dg, rfl, rfl, e, .inl ⟨h12, rfl, (good_dec hg ha).symm⟩⟩
      · refine Tot.condD (fun h578 => ?_) (fun h578 => ?_)
        · refine Tot.bind (Tot.mono (number_ok l2 (c + 1) (by omega)) ?_)
          rintro r ⟨dg, l3, e, ha, hr, h⟩
          refine Tot.ret ?_
          rcases h with ⟨_, rfl⟩ | ⟨hg, rfl⟩
          · exact fun h => by cases h
          · exact fun _ => ⟨l3, dg, rfl, rfl, e, .inr (.inl ⟨h578, rfl, (good_dec hg ha).symm⟩)⟩
        · exact Tot.ret (fun _ => ⟨l2, [], rfl, rfl, rfl, .inr (.inr ⟨by omega, rfl, rfl, rfl⟩)⟩)
    rintro ⟨S3, c3, nm, ct, ok3⟩ hnum
    dsimp only at hnum ⊢
    -- the kids
    refine Tot.bind (Tot.mono (Q' := fun s : ByteArray × Int × List Node × Bool => s.2.2.2 = true → ok3 = true ∧ ∀ l3, S3 = bs l3 → ∃ rest, s.1 = bs rest ∧ 0 ≤ s.2.1 ∧ s.2.1 ≤ 64 ∧ s.2.2.1.length + rest.length ≤ l3.length ∧ (inn = false → s.2.2.1 = [] ∧ rest = l3) ∧ ((∀ q ∈ s.2.2.1, vld d q = true) → nszs s.2.2.1 ≤ 64 → l3 = txts s.2.2.1 ++ rest))
      (Tot.loop (fun s : ByteArray × Int × List Node × Bool => (s.2.2.2 = true → ok3 = true ∧ ∀ l3, S3 = bs l3 → ∃ rest, s.1 = bs rest ∧ 0 ≤ s.2.1 ∧ s.2.1 ≤ 64 ∧ s.2.2.1.length + rest.length ≤ l3.length ∧ (inn = false → s.2.2.1 = [] ∧ rest = l3) ∧ ((∀ q ∈ s.2.2.1, vld d q = true) → nszs s.2.2.1 ≤ 64 → l3 = txts s.2.2.1 ++ rest))) (fun s => if s.2.2.2 then s.1.size + 1 else 0) ?_ ?_) ?_)
    · intro h
      dsimp only at h
      obtain ⟨l3, dg, e1, e2, e3, _⟩ := hnum h
      refine ⟨h, fun l3' e => ?_⟩
      subst e1
      obtain rfl := bs_inj.1 e
      exact ⟨l3, rfl, by dsimp only; omega, by dsimp only; omega, by simp, fun _ => ⟨rfl, rfl⟩, fun _ _ => rfl⟩
    · rintro ⟨S, C, kids, ok⟩ hJ
      dsimp only at hJ
      dsimp only [tree_parser_node_L1]
      cases ok with
      | false => exact Tot.ret (fun h => by cases h)
      | true =>
      obtain ⟨h3, hJ⟩ := hJ rfl
      obtain ⟨l3, dg, e1, e2, e3, _⟩ := hnum h3
      obtain ⟨rest, rfl, hC0, hC64, hkl, hin0, hJt⟩ := hJ l3 e1
      have hl3 : l3.length ≤ l2.length := by rw [e3, List.length_append]; omega
      simp only [cond_true]
      cases inn with
      | false =>
        simp only [cond_false, Option.bind_some]
        refine Tot.ret (fun _ => ⟨h3, fun l3' e => ?_⟩)
        rw [e1] at e
        obtain rfl := bs_inj.1 e
        exact ⟨rest, rfl, hC0, hC64, hkl, fun _ => hin0 rfl, hJt⟩
      | true =>
        simp only [cond_true]
        rw [show (32 : Int) = ((32 : UInt8).toNat : Int) from rfl]
        cases rest with
        | nil =>
          simp only [take_nil, Option.bind_some, cond_false]
          refine Tot.ret (fun _ => ⟨h3, fun l3' e => ?_⟩)
          rw [e1] at e
          obtain rfl := bs_inj.1 e
          exact ⟨[], rfl, hC0, hC64, hkl, hin0, hJt⟩
        | cons y rest =>
          simp only [take_cons, Option.bind_some]
          by_cases hy : y = 32
          · subst hy
            simp only [if_true, cond_true]
            simp only [List.length_cons] at hkl
            rw [w64 (by omega) (by omega), show ((d + 1 : Nat) : Int) - 1 = (d : Int) by omega]
            refine Tot.bind (Tot.mono (ih (by omega) rest C (by omega) hC0 hC64) ?_)
            rintro ⟨q, okq, pq⟩ hq
            dsimp only at hq ⊢
            cases okq with
            | false =>
              refine Tot.ret ?_
              refine ⟨fun h => (by cases h), ?_⟩
              dsimp only
              simp
            | true =>
              obtain ⟨rest', c', rfl, hlt, hc0', hc64', htx⟩ := hq rfl
              simp only [cond_true, Node.eta]
              refine Tot.app (by simp only [List.length_cons, List.length_nil]; omega) ?_
              refine Tot.ret ?_
              dsimp only
              refine ⟨fun _ => ⟨h3, fun l3' e => ?_⟩, ?_⟩
              · rw [e1] at e
                obtain rfl := bs_inj.1 e
                refine ⟨rest', rfl, hc0', hc64', by rw [List.length_append]; simp only [List.length_cons, List.length_nil]; omega, (fun h => by cases h), fun hv hz => ?_⟩
                rw [nszs_app] at hz
                simp only [nszs] at hz
                rw [hJt (fun x hx => hv x (by simp [hx])) (by omega), txts_app]
                have := htx (hv q (by simp)) (by omega)
                rw [this]
                simp [txts]
              · simp only [if_true]
                rw [bs_size, bs_size, List.length_cons]; omega
          · rw [if_neg hy]
            simp only [cond_false]
            refine Tot.ret (fun _ => ⟨h3, fun l3' e => ?_⟩)
            rw [e1] at e
            obtain rfl := bs_inj.1 e
            exact ⟨y :: rest, rfl, hC0, hC64, hkl, hin0, hJt⟩
    -- the end
    rintro ⟨S, C, kids, ok⟩ hJ
    dsimp only at hJ ⊢
    cases ok with
    | false =>
      simp only [cond_false, Option.bind_some]
      exact Tot.ret (fun h => by cases h)
    | true =>
    obtain ⟨h3, hJ⟩ := hJ rfl
    obtain ⟨l3, dg, e1, e2, e3, hkinds⟩ := hnum h3
    obtain ⟨rest, rfl, hC0, hC64, hkl, hin0, hJt⟩ := hJ l3 e1
    have hl3 : l3.length ≤ l2.length := by rw [e3, List.length_append]; omega
    simp only [cond_true]
    cases inn with
    | false =>
      simp only [Bool.not_false, cond_true, Option.bind_some]
      refine Tot.ret (fun _ => ⟨rest, C, rfl, ?_, hC0, hC64, fun _ _ => ?_⟩)
      · rcases hl1 with ⟨e, _⟩ | ⟨_, e⟩
        · cases e
        · rw [e]; simp only [List.length_cons]; omega
      · rcases hl1 with ⟨e, _⟩ | ⟨_, e⟩
        · cases e
        · have hk3 : ¬ k ≥ 3 := by simpa using hinn.symm
          obtain ⟨rfl, rfl⟩ := hin0 rfl
          rcases hkinds with ⟨h12, hz, hdg⟩ | h | h
          · rw [e, e3, txt_leaf (by dsimp only; omega), hx, hdg]; simp
          · omega
          · omega
    | true =>
      simp only [Bool.not_true, cond_false]
      rw [show (41 : Int) = ((41 : UInt8).toNat : Int) from rfl]
      have hk3 : k ≥ 3 := by simpa using hinn.symm
      cases rest with
      | nil =>
        simp only [take_nil, Option.bind_some]
        exact Tot.ret (fun h => by cases h)
      | cons y rest =>
        simp only [take_cons, Option.bind_some]
        by_cases hy : y = 41
        · subst hy
          simp only [if_true]
          refine Tot.ret (fun _ => ⟨rest, C, rfl, ?_, hC0, hC64, fun hv hz => ?_⟩)
          · rcases hl1 with ⟨_, e⟩ | ⟨e, _⟩
            · rw [e]; simp only [List.length_cons] at hkl ⊢; omega
            · cases e
          · rcases hl1 with ⟨_, e⟩ | ⟨e, _⟩
            · obtain ⟨d', ed, hf, hks⟩ := vld_fit hv
              cases ed
              have hz' := hz
              rw [nsz_eq] at hz'
              dsimp only at hz' hks
              have h4 := hJt hks (by omega)
              have hfc := fit_cases hf hz
              dsimp only at hfc
              rw [e, e3, h4, txt_inner (by dsimp only; omega), hx]
              dsimp only
              have hdg : dg = ctx ct := by
                unfold ctx
                rcases hkinds with h | ⟨_, _, hdg⟩ | ⟨_, _, hct, hdg⟩
                · omega
                · rw [hdg, if_pos (by omega)]
                · rw [hdg, if_neg (by omega)]
              rw [hdg]; simp
            · cases e
        · rw [if_neg hy]
          exact Tot.ret (fun h => by cases h)
end Go.Proofs.YtknnmbcaoekgmaaDoor

namespace Go.Proofs.YtknnmbcaoekgmaaDoor
open Go Go.Proofs.YtknnmbcaoekgmaaDoor.Gw
set_option linter.unusedVariables false

/- ### The reference's reader -/
theorem rnumber_ok (l : List UInt8) (i : Nat) (hi : i ≤ l.length) (hl : l.length ≤ 100000) : Tot (fun n => ref41_number n (bs l) (i : Int)) (fun r => ∃ dg rest, l.drop i = dg ++ rest ∧ dg.all isD = true ∧ NoDig rest ∧ r = (((min (numV dg) 100000 : Nat) : Int), ((i + dg.length : Nat) : Int))) := by
  obtain ⟨dg, rest, e, ha, hr⟩ := split_dig (l.drop i)
  have hlen : l.length = i + dg.length + rest.length := by
    have := congrArg List.length e
    rw [List.length_drop, List.length_append] at this; omega
  have hget : ∀ j, l[i + j]? = (dg ++ rest)[j]? := fun j => by rw [← e, List.getElem?_drop]
  dsimp only [ref41_number]
  refine Tot.cut (((i + dg.length : Nat) : Int), ((min (numV dg) 100000 : Nat) : Int)) ?_ (Tot.ret ⟨dg, rest, e, ha, hr, rfl⟩)
  refine Tot.mono (Tot.loop0 (Q := (· = (((i + dg.length : Nat) : Int), ((min (numV dg) 100000 : Nat) : Int)))) (fun s : Int × Int => ∃ j : Nat, s.1 = ((i + j : Nat) : Int) ∧ j ≤ dg.length ∧ s.2 = ((min (numV (dg.take j)) 100000 : Nat) : Int)) (fun s => i + dg.length - s.1.toNat) ⟨0, rfl, by omega, rfl⟩ ?_) (fun _ h => h)
  rintro ⟨_, _⟩ ⟨j, rfl, hj, rfl⟩
  dsimp only [ref41_number_L1]
  rw [bs_size]
  refine Tot.cut (decide (j < dg.length)) ?_ ?_
  · refine Tot.condD (fun hlt => ?_) (fun hge => ?_)
    · rcases Nat.lt_or_ge j dg.length with hjd | hjd
      · have hx : l[i + j]? = some dg[j] := by rw [hget, List.getElem?_append_left hjd, List.getElem?_eq_getElem hjd]
        have hD : isD dg[j] = true := List.all_eq_true.1 ha _ (List.getElem_mem hjd)
        have hD' : 48 ≤ dg[j].toNat ∧ dg[j].toNat ≤ 57 := by simpa [isD] using hD
        refine Tot.bidxv (bidx_at rfl hx) ?_
        refine Tot.condD (fun h1 => ?_) (fun h1 => absurd (by omega) h1)
        refine Tot.bidxv (bidx_at rfl hx) ?_
        refine Tot.ret ?_
        rw [decide_eq_true (show ((dg[j].toNat : Nat) : Int) ≤ 57 by omega), decide_eq_true hjd]
      · obtain rfl : j = dg.length := by omega
        cases hre : rest with
        | nil => rw [hre] at hlen; simp only [List.length_nil] at hlen; omega
        | cons x r =>
          have hD := hr x r hre
          have hx : l[i + dg.length]? = some x := by rw [hget, hre, List.getElem?_append_right (by omega)]; simp
          have hD' : ¬ (48 ≤ x.toNat ∧ x.toNat ≤ 57) := by simpa only [isD, decide_eq_false_iff_not] using hD
          rw [decide_eq_false (show ¬ dg.length < dg.length by omega)]
          refine Tot.bidxv (bidx_at rfl hx) ?_
          refine Tot.condD (fun h1 => ?_) (fun h1 => Tot.ret rfl)
          refine Tot.bidxv (bidx_at rfl hx) ?_
          refine Tot.ret ?_
          rw [decide_eq_false (show ¬ ((x.toNat : Nat) : Int) ≤ 57 by omega)]
    · exact Tot.ret (by rw [decide_eq_false (show ¬ j < dg.length by omega)])
  · refine Tot.condD (fun hjd => ?_) (fun h => ?_)
    · have hx : l[i + j]? = some dg[j] := by rw [hget, List.getElem?_append_left hjd, List.getElem?_eq_getElem hjd]
      have hD : isD dg[j] = true := List.all_eq_true.1 ha _ (List.getElem_mem hjd)
      have hD' : 48 ≤ dg[j].toNat ∧ dg[j].toNat ≤ 57 := by simpa [isD] using hD
      refine Tot.bidxv (bidx_at rfl hx) ?_
      refine Tot.ret ?_
      dsimp only
      have hst : numV (dg.take (j + 1)) = numV (dg.take j) * 10 + (dg[j].toNat - 48) := by
        rw [List.take_add_one, List.getElem?_eq_getElem hjd]; exact numV_snoc _ _
      rw [wu8 (by omega) (by omega), w64 (x := (dg[j].toNat : Int) - 48) (by omega) (by omega)]
      generalize numV (dg.take j) = v at hst ⊢
      rw [w64 (x := 10 * ((min v 100000 : Nat) : Int)) (by omega) (by omega), w64 (x := 10 * ((min v 100000 : Nat) : Int) + ((dg[j].toNat : Int) - 48)) (by omega) (by omega), w64 (by omega) (by omega)]
      refine ⟨⟨j + 1, by omega, by omega, ?_⟩, by omega⟩
      rw [hst]
      split <;> omega
    · refine Tot.ret ?_
      dsimp only
      obtain rfl : j = dg.length := by omega
      rw [List.take_length]
theorem rkind_ok (b : UInt8) : Tot (fun n => ref41_kind n (b.toNat : Int)) (fun r => (r = 0 ∧ ∀ k : Int, 3 ≤ k → k ≤ 8 → b ≠ ltr k) ∨ (3 ≤ r ∧ r ≤ 8 ∧ b = ltr r)) := by
  dsimp only [ref41_kind]
  refine Tot.bind (Tot.mono (Q' := fun o : Out Unit Int => (o = .go () ∧ ∀ k : Int, 3 ≤ k → k ≤ 8 → b ≠ ltr k) ∨ ∃ r : Int, o = .done r ∧ 3 ≤ r ∧ r ≤ 8 ∧ b = ltr r)
    (Tot.loop0 (fun s : Int => 3 ≤ s ∧ s ≤ 9 ∧ ∀ k : Int, 3 ≤ k → k < s → b ≠ ltr k) (fun s => 9 - s.toNat) ⟨by omega, by omega, fun k h1 h2 => by omega⟩ ?_) ?_)
  · rintro s ⟨h3, h9, hall⟩
    dsimp only [ref41_kind_L1]
    refine Tot.condD (fun hlt => ?_) (fun hge => ?_)
    · refine Tot.bidxv (bidx_ltr h3 (by omega)) ?_
      refine Tot.condE (fun h => ?_) (fun h => ?_)
      · exact Tot.ret (.inr ⟨s, rfl, h3, by omega, (u8_cast_inj.1 h).symm⟩)
      · refine Tot.ret ?_
        dsimp only
        rw [w64 (by omega) (by omega)]
        refine ⟨⟨by omega, by omega, fun k h1 h2 => ?_⟩, by omega⟩
        rcases Int.lt_or_le k s with h' | h'
        · exact hall k h1 h'
        · obtain rfl : k = s := by omega
          exact fun e => h (by rw [e])
    · exact Tot.ret (.inl ⟨rfl, fun k h1 h2 => hall k h1 (by omega)⟩)
  · rintro _ (⟨rfl, h⟩ | ⟨r, rfl, h⟩)
    · exact Tot.ret (.inl ⟨rfl, h⟩)
    · exact Tot.ret (.inr h)
theorem rkind_ltr {k : Int} (h1 : 3 ≤ k) (h8 : k ≤ 8) : Tot (fun n => ref41_kind n ((ltr k).toNat : Int)) (· = k) := by
  refine Tot.mono (rkind_ok (ltr k)) ?_
  rintro r (⟨_, h⟩ | ⟨h3, h8', h⟩)
  · exact absurd rfl (h k h1 h8)
  · rw [← kx_ltr (by omega : 1 ≤ r) h8', ← h, kx_ltr (by omega) h8]
theorem get_mid (a : List UInt8) (x : UInt8) (b : List UInt8) : (a ++ x :: b)[a.length]? = some x := by
  rw [List.getElem?_append_right (by omega)]; simp
theorem rnumber_dec {x : Int} {pre rest : List UInt8} (h0 : 0 ≤ x) (h1 : x ≤ 1000) (hr : NoDig rest) (hl : pre.length + rest.length ≤ 90000) {i : Int} (hi : i = (pre.length : Int)) :
    Tot (fun n => ref41_number n (bs (pre ++ (dec x ++ rest))) i) (· = (x, ((pre.length + (dec x).length : Nat) : Int))) := by
  subst hi
  obtain ⟨hg, ha, hv⟩ := dec_good h0 h1
  have hd4 := hg.2.1
  refine Tot.mono (rnumber_ok (pre ++ (dec x ++ rest)) pre.length (by simp) (by simp only [List.length_append]; omega)) ?_
  rintro r ⟨dg, rest', e, ha', hr', rfl⟩
  rw [List.drop_left] at e
  obtain ⟨rfl, rfl⟩ := split_uniq e ha ha' hr hr'
  congr 1
  omega
theorem rnumber_none {pre rest : List UInt8} (hr : NoDig rest) (hl : pre.length + rest.length ≤ 90000) {i : Int} (hi : i = (pre.length : Int)) :
    Tot (fun n => ref41_number n (bs (pre ++ rest)) i) (· = (0, (pre.length : Int))) := by
  subst hi
  refine Tot.mono (rnumber_ok (pre ++ rest) pre.length (by simp) (by simp only [List.length_append]; omega)) ?_
  rintro r ⟨dg, rest', e, ha', hr', rfl⟩
  rw [List.drop_left] at e
  obtain ⟨rfl, rfl⟩ := split_uniq (d := []) (by simpa using e) rfl ha' hr hr'
  rfl
theorem read_C : ∀ (d : Nat) (t : Node), vld d t = true → nsz t ≤ 64 → ∀ (pre rest : List UInt8), NoDig rest → pre.length + rest.length + 8 * nsz t ≤ 80000 → ∀ i : Int, i = (pre.length : Int) →
    Tot (fun n => ref41_read n (bs (pre ++ (txt t ++ rest))) i) (· = (t, ((pre.length + (txt t).length : Nat) : Int), true)) := by
  intro d
  induction d with
  | zero => intro t h; simp [vld] at h
  | succ d ih =>
    rintro t h hn pre rest hr hlen i rfl
    obtain ⟨_, rfl', hf, hks⟩ := vld_fit h
    cases rfl'
    have htl := txt_len _ t h hn
    have hpos := nsz_pos t
    refine Tot.succ ?_
    dsimp only [ref41_read, ref41_read_F]
    rcases fit_cases hf hn with ⟨h1, h2, h3, h4, h5⟩ | ⟨h1, h2, h3, h4, h5⟩
    · have hd2 := dec_small3 h3
      rw [txt_leaf h1] at htl ⊢
      rw [List.cons_append]
      have hb : bidx (bs (pre ++ ltr t.Kind :: (dec t.Name ++ rest))) (pre.length : Int) = some ((ltr t.Kind).toNat : Int) := bidx_at rfl (get_mid _ _ _)
      refine Tot.condD (fun h => absurd h (by rw [bs_size]; simp only [List.length_append, List.length_cons]; omega)) (fun _ => ?_)
      simp only [hb, Option.bind_some]
      rw [w64 (by omega) (by omega)]
      have hnum := rnumber_dec (pre := pre ++ [ltr t.Kind]) (rest := rest) (i := (pre.length : Int) + 1) h2 (by omega) hr (by simp only [List.length_append, List.length_cons, List.length_nil]; omega) (by simp)
      rw [show pre ++ [ltr t.Kind] ++ (dec t.Name ++ rest) = pre ++ ltr t.Kind :: (dec t.Name ++ rest) by simp] at hnum
      refine Tot.cut true ?_ ?_
      · rcases h1 with h1 | h1
        · rw [h1]; exact Tot.ret rfl
        · rw [h1]; exact Tot.ret rfl
      · simp only [cond_true]
        refine Tot.bind (Tot.mono hnum ?_)
        rintro _ rfl
        dsimp only
        refine Tot.cut t.Kind ?_ ?_
        · rcases h1 with h1 | h1
          · rw [h1]; exact Tot.ret rfl
          · rw [h1]; exact Tot.ret rfl
        · refine Tot.ret ?_
          have e : Node.mk t.Kind t.Name 0 [] = t := by
            cases t
            simp only at h4 h5
            subst h4 h5
            rfl
          rw [e]
          congr 2
          simp only [List.length_append, List.length_cons, List.length_nil]; omega
    · have hnl : ¬ (t.Kind = 1 ∨ t.Kind = 2) := by omega
      have hm : nszs t.Kids ≤ 64 := by rw [nsz_eq] at hn; omega
      have hct := ctx_len h4
      have htk := txts_len t.Kids hks hm
      rw [nsz_eq] at hlen
      have hkl := nszs_len t.Kids
      rw [txt_inner hnl] at htl ⊢
      rw [List.cons_append, List.cons_append]
      have hassoc : ctx t.Count ++ (txts t.Kids ++ [41]) ++ rest = ctx t.Count ++ (txts t.Kids ++ 41 :: rest) := by simp
      rw [hassoc]
      obtain ⟨L, hL⟩ : ∃ L, L = pre ++ 40 :: ltr t.Kind :: (ctx t.Count ++ (txts t.Kids ++ 41 :: rest)) := ⟨_, rfl⟩
      have hLl : L.length = pre.length + 2 + (ctx t.Count).length + (txts t.Kids).length + 1 + rest.length := by
        rw [hL]; simp only [List.length_append, List.length_cons]; omega
      rw [← hL]
      have hb : bidx (bs L) (pre.length : Int) = some (40 : Int) := bidx_at (c := 40) rfl (by rw [hL]; exact get_mid _ _ _)
      have hb1 : bidx (bs L) ((pre.length : Int) + 1) = some ((ltr t.Kind).toNat : Int) := bidx_at (i := (pre ++ [40]).length) (by simp) (by rw [hL, show pre ++ 40 :: ltr t.Kind :: (ctx t.Count ++ (txts t.Kids ++ 41 :: rest)) = (pre ++ [40]) ++ ltr t.Kind :: (ctx t.Count ++ (txts t.Kids ++ 41 :: rest)) by simp]; exact get_mid _ _ _)
      rw [bs_size]
      refine Tot.condD (fun h => absurd h (by omega)) (fun _ => ?_)
      rw [w64 (x := (pre.length : Int) + 1) (by omega) (by omega), w64 (x := (pre.length : Int) + 2) (by omega) (by omega)]
      simp only [hb, Option.bind_some, hb1, show ((40 : Int) == 97) = false from rfl, show ((40 : Int) == 116) = false from rfl, cond_false, show ((40 : Int) != 40) = false from rfl]
      rw [decide_eq_false (show ¬ ((pre.length : Int) + 1 ≥ (L.length : Int)) by omega)]
      simp only [cond_false]
      refine Tot.cut false ?_ ?_
      · refine Tot.bind (Tot.mono (rkind_ltr h1 h2) ?_)
        rintro _ rfl
        exact Tot.ret (by simp; omega)
      simp only [cond_false]
      refine Tot.bind (Tot.mono (rkind_ltr h1 h2) ?_)
      rintro _ rfl
      refine Tot.cut (t.Count, ((pre.length + 2 + (ctx t.Count).length : Nat) : Int)) ?_ ?_
      · rcases h5 with ⟨h5, h6⟩ | ⟨h5, h6⟩
        · have e : ctx t.Count = dec t.Count := by unfold ctx; rw [if_pos (by omega)]
          rw [e] at hL ⊢
          have := rnumber_dec (pre := pre ++ [40, ltr t.Kind]) (rest := txts t.Kids ++ 41 :: rest) (i := (pre.length : Int) + 2) (show 0 ≤ t.Count by omega) h4 (txts_nodig _ _) (by simp only [List.length_append, List.length_cons, List.length_nil]; omega) (by simp)
          rw [show pre ++ [40, ltr t.Kind] ++ (dec t.Count ++ (txts t.Kids ++ 41 :: rest)) = L by rw [hL]; simp] at this
          refine Tot.mono this ?_
          rintro _ rfl
          congr 1
          simp only [List.length_append, List.length_cons, List.length_nil]
        · have e : ctx t.Count = [] := by unfold ctx; rw [if_neg (by omega)]
          rw [e] at hL ⊢
          have := rnumber_none (pre := pre ++ [40, ltr t.Kind]) (rest := txts t.Kids ++ 41 :: rest) (i := (pre.length : Int) + 2) (txts_nodig _ _) (by simp only [List.length_append, List.length_cons, List.length_nil]; omega) (by simp)
          rw [show pre ++ [40, ltr t.Kind] ++ (txts t.Kids ++ 41 :: rest) = L by rw [hL]; simp] at this
          refine Tot.mono this ?_
          rintro _ rfl
          rw [h6]
          congr 1
          simp only [List.length_append, List.length_cons, List.length_nil]; try omega
      dsimp only
      refine Tot.bind (Tot.mono (Q' := (· = (.go (((pre.length + 2 + (ctx t.Count).length + (txts t.Kids).length : Nat) : Int), t.Kids) : Out (Int × List Node) (Node × Int × Bool))))
        (Tot.loop (fun s : Int × List Node => ∃ j : Nat, j ≤ t.Kids.length ∧ s = (((pre.length + 2 + (ctx t.Count).length + (txts (t.Kids.take j)).length : Nat) : Int), t.Kids.take j)) (fun s => t.Kids.length - s.2.length) ⟨0, by omega, by simp [txts]⟩ ?_) ?_)
      · rintro _ ⟨j, hj, rfl⟩
        dsimp only [ref41_read_L1]
        rw [bs_size]
        have hdn : (txts (t.Kids.take j)).length + (txts (t.Kids.drop j)).length = (txts t.Kids).length := by
          have := txts_app (t.Kids.take j) (t.Kids.drop j); rw [List.take_append_drop] at this; rw [this, List.length_append]
        obtain ⟨PRE, hPRE⟩ : ∃ PRE, PRE = pre ++ 40 :: ltr t.Kind :: (ctx t.Count ++ txts (t.Kids.take j)) := ⟨_, rfl⟩
        have hPl : PRE.length = pre.length + 2 + (ctx t.Count).length + (txts (t.Kids.take j)).length := by
          rw [hPRE]; simp only [List.length_append, List.length_cons]; omega
        have hsp : txts t.Kids = txts (t.Kids.take j) ++ txts (t.Kids.drop j) := by
          have := txts_app (t.Kids.take j) (t.Kids.drop j); rwa [List.take_append_drop] at this
        have hLP : L = PRE ++ (txts (t.Kids.drop j) ++ 41 :: rest) := by rw [hL, hPRE, hsp]; simp
        rw [← hPl]
        refine Tot.cut (decide (j < t.Kids.length)) ?_ ?_
        · refine Tot.condD (fun _ => ?_) (fun h => absurd (by omega) h)
          rcases Nat.lt_or_ge j t.Kids.length with hlt | hge
          · have hsplit : t.Kids.drop j = t.Kids[j] :: t.Kids.drop (j + 1) := List.drop_eq_getElem_cons hlt
            rw [hsplit] at hLP
            simp only [txts, List.cons_append] at hLP
            refine Tot.bidxv (bidx_at (c := 32) (i := PRE.length) rfl (by rw [hLP]; exact get_mid _ _ _)) (Tot.ret ?_)
            rw [decide_eq_true hlt]; rfl
          · rw [List.drop_eq_nil_of_le hge] at hLP
            simp only [txts, List.nil_append] at hLP
            refine Tot.bidxv (bidx_at (c := 41) (i := PRE.length) rfl (by rw [hLP]; exact get_mid _ _ _)) (Tot.ret ?_)
            rw [decide_eq_false (by omega)]; rfl
        · refine Tot.condD (fun hlt => ?_) (fun hge => ?_)
          · have hk : t.Kids[j]? = some t.Kids[j] := List.getElem?_eq_getElem hlt
            have hkm : t.Kids[j] ∈ t.Kids := List.getElem_mem hlt
            have hst := nszs_step hk
            have hb1' := nszs_take t.Kids (j + 1)
            have htx := txts_step hk
            have hsplit : t.Kids.drop j = t.Kids[j] :: t.Kids.drop (j + 1) := List.drop_eq_getElem_cons hlt
            have hdl := txts_len (t.Kids.drop (j + 1)) (fun x hx => hks x (List.mem_of_mem_drop hx)) (by
              have := nszs_app (t.Kids.take (j + 1)) (t.Kids.drop (j + 1)); rw [List.take_append_drop] at this; omega)
            have htl2 := txts_len (t.Kids.take j) (fun x hx => hks x (List.mem_of_mem_take hx)) (by omega)
            have hdn2 : nszs (t.Kids.take (j + 1)) + nszs (t.Kids.drop (j + 1)) = nszs t.Kids := by
              have := nszs_app (t.Kids.take (j + 1)) (t.Kids.drop (j + 1)); rw [List.take_append_drop] at this; omega
            rw [hsplit] at hLP
            simp only [txts, List.cons_append] at hLP
            rw [w64 (by omega) (by omega)]
            have hkid := ih t.Kids[j] (hks _ hkm) (by omega) (PRE ++ [32]) (txts (t.Kids.drop (j + 1)) ++ 41 :: rest) (txts_nodig _ _) (by simp only [List.length_append, List.length_cons, List.length_nil]; omega) ((PRE.length : Int) + 1) (by simp)
            rw [show PRE ++ [32] ++ (txt t.Kids[j] ++ (txts (t.Kids.drop (j + 1)) ++ 41 :: rest)) = L by rw [hLP]; simp] at hkid
            refine Tot.bind (Tot.mono hkid ?_)
            rintro _ rfl
            dsimp only
            simp only [Bool.not_true, cond_false, Node.eta]
            refine Tot.app (by simp only [List.length_take, List.length_cons, List.length_nil]; omega) ?_
            refine Tot.ret ?_
            dsimp only
            refine ⟨⟨j + 1, by omega, ?_⟩, ?_⟩
            · rw [show t.Kids.take j ++ [t.Kids[j]] = t.Kids.take (j + 1) from by rw [List.take_add_one, hk]; rfl]
              congr 1
              rw [htx]
              simp only [List.length_append, List.length_cons, List.length_nil]
              omega
            · simp only [List.length_append, List.length_take, List.length_cons, List.length_nil]; omega
          · refine Tot.ret ?_
            dsimp only
            rw [hPl, List.take_of_length_le (show t.Kids.length ≤ j by omega)]
      · rintro _ rfl
        dsimp only
        obtain ⟨PRE, hPRE⟩ : ∃ PRE, PRE = pre ++ 40 :: ltr t.Kind :: (ctx t.Count ++ txts t.Kids) := ⟨_, rfl⟩
        have hPl : PRE.length = pre.length + 2 + (ctx t.Count).length + (txts t.Kids).length := by
          rw [hPRE]; simp only [List.length_append, List.length_cons]; omega
        have hLP : L = PRE ++ 41 :: rest := by rw [hL, hPRE]; simp
        rw [← hPl]
        refine Tot.bind (Tot.mono (Q' := (· = (t.Kind, t.Count, t.Kids, (PRE.length : Int) + 1, true))) ?_ ?_)
        · refine Tot.condD (fun _ => ?_) (fun h => absurd (by omega) h)
          refine Tot.bidxv (bidx_at (c := 41) (i := PRE.length) rfl (by rw [hLP]; exact get_mid _ _ _)) (Tot.ret ?_)
          rw [w64 (by omega) (by omega)]; rfl
        · rintro _ rfl
          refine Tot.ret ?_
          dsimp only
          have e : Node.mk t.Kind 0 t.Count t.Kids = t := by
            cases t
            simp only at h3
            subst h3
            rfl
          rw [e]
          congr 2
          simp only [List.length_append, List.length_cons, List.length_nil]; omega
theorem read_D : ∀ (m : Nat) (l : List UInt8) (i : Nat), l.length - i ≤ m → i ≤ l.length → l.length ≤ 5000 →
    Tot (fun n => ref41_read n (bs l) (i : Int)) (fun r => r.2.2 = true → ∃ e : Nat, r.2.1 = (e : Int) ∧ i < e ∧ e ≤ l.length) := by
  intro m
  induction m with
  | zero =>
    intro l i hm hi hl
    refine Tot.succ ?_
    dsimp only [ref41_read, ref41_read_F]
    rw [bs_size]
    exact Tot.condD (fun _ => Tot.ret (fun h => by cases h)) (fun h => absurd (by omega) h)
  | succ m ih =>
    intro l i hm hi hl
    refine Tot.succ ?_
    dsimp only [ref41_read, ref41_read_F]
    rw [bs_size]
    refine Tot.condD (fun _ => Tot.ret (fun h => by cases h)) (fun h0 => ?_)
    have hil : i < l.length := by omega
    have hx : l[i]? = some l[i] := List.getElem?_eq_getElem hil
    rw [w64 (x := (i : Int) + 1) (by omega) (by omega), w64 (x := (i : Int) + 2) (by omega) (by omega), bidx_at rfl hx]
    simp only [Option.bind_some]
    refine Tot.bind (Tot.mono (Q' := fun _ => True) ?_ ?_)
    · exact Tot.cond (fun _ => Tot.ret trivial) (fun _ => Tot.ret trivial)
    rintro b _
    refine Tot.cond (fun hb => ?_) (fun hb => ?_)
    · have h1 := rnumber_ok l (i + 1) (by omega) (by omega)
      rw [show ((i + 1 : Nat) : Int) = (i : Int) + 1 by omega] at h1
      refine Tot.bind (Tot.mono h1 ?_)
      rintro _ ⟨dg, rest, e, _, _, rfl⟩
      have hlen := congrArg List.length e
      rw [List.length_drop, List.length_append] at hlen
      dsimp only
      refine Tot.bind (Tot.mono (Q' := fun _ => True) ?_ ?_)
      · exact Tot.cond (fun _ => Tot.ret trivial) (fun _ => Tot.ret trivial)
      rintro k _
      exact Tot.ret (fun _ => ⟨i + 1 + dg.length, rfl, by omega, by omega⟩)
    · refine Tot.bind (Tot.mono (Q' := fun b : Bool => b = false → i + 1 < l.length) ?_ ?_)
      · refine Tot.cond (fun _ => Tot.ret (fun h => by cases h)) (fun _ => ?_)
        refine Tot.condD (fun _ => Tot.ret (fun h => by cases h)) (fun h => ?_)
        have hx1 : l[i + 1]? = some l[i + 1] := List.getElem?_eq_getElem (by omega)
        rw [bidx_at (i := i + 1) (by omega) hx1]
        simp only [Option.bind_some]
        exact Tot.bind (Tot.mono (rkind_ok _) (fun r _ => Tot.ret (fun _ => by omega)))
      rintro b2 hb2
      refine Tot.cond (fun _ => Tot.ret (fun h => by cases h)) (fun hb3 => ?_)
      have hi1 := hb2 hb3
      have hx1 : l[i + 1]? = some l[i + 1] := List.getElem?_eq_getElem hi1
      rw [bidx_at (i := i + 1) (by omega) hx1]
      simp only [Option.bind_some]
      refine Tot.bind (Tot.mono (rkind_ok _) ?_)
      rintro kd _
      have h1 := rnumber_ok l (i + 2) (by omega) (by omega)
      rw [show ((i + 2 : Nat) : Int) = (i : Int) + 2 by omega] at h1
      refine Tot.bind (Tot.mono h1 ?_)
      rintro _ ⟨dg, rest, e, _, _, rfl⟩
      have hlen := congrArg List.length e
      rw [List.length_drop, List.length_append] at hlen
      dsimp only
      refine Tot.bind (Tot.mono (Q' := fun o : Out (Int × List Node) (Node × Int × Bool) => (∃ (a : Nat) (ks : List Node), o = .go ((a : Int), ks) ∧ i + 1 < a ∧ a ≤ l.length) ∨ ∃ (z : Node) (e : Int), o = .done (z, e, false))
        (Tot.loop (fun s : Int × List Node => ∃ a : Nat, s.1 = (a : Int) ∧ i + 1 < a ∧ a ≤ l.length ∧ s.2.length ≤ a) (fun s => l.length - s.1.toNat) ⟨i + 2 + dg.length, rfl, by omega, by omega, by simp⟩ ?_) ?_)
      · rintro ⟨_, ks⟩ ⟨a, rfl, ha1, ha2, hk⟩
        dsimp only at hk
        dsimp only [ref41_read_L1]
        rw [bs_size]
        refine Tot.bind (Tot.mono (Q' := fun b : Bool => b = true → a < l.length) ?_ ?_)
        · refine Tot.condD (fun h => ?_) (fun h => Tot.ret (fun h => by cases h))
          have hxa : l[a]? = some l[a] := List.getElem?_eq_getElem (by omega)
          rw [bidx_at rfl hxa]
          exact Tot.ret (fun _ => by omega)
        rintro b3 hb3
        refine Tot.cond (fun hb => ?_) (fun hb => ?_)
        · have hal := hb3 hb
          rw [w64 (by omega) (by omega), show (a : Int) + 1 = ((a + 1 : Nat) : Int) by omega]
          refine Tot.bind (Tot.mono (ih l (a + 1) (by omega) (by omega) hl) ?_)
          rintro ⟨q, eq, okq⟩ hq
          dsimp only at hq ⊢
          cases okq with
          | false => exact Tot.ret (.inr ⟨_, _, rfl⟩)
          | true =>
            obtain ⟨e', rfl, h1, h2⟩ := hq rfl
            simp only [Bool.not_true, cond_false]
            refine Tot.app (by simp only [List.length_cons, List.length_nil]; omega) ?_
            refine Tot.ret ?_
            dsimp only
            exact ⟨⟨e', rfl, by omega, by omega, by rw [List.length_append]; simp only [List.length_cons, List.length_nil]; omega⟩, by omega⟩
        · exact Tot.ret (.inl ⟨a, ks, rfl, ha1, ha2⟩)
      · rintro _ (⟨a, ks, rfl, ha1, ha2⟩ | ⟨z, e, rfl⟩)
        · dsimp only
          refine Tot.bind (Tot.mono (Q' := fun r : Int × Int × List Node × Int × Bool => r.2.2.2.2 = true → r.2.2.2.1 = ((a + 1 : Nat) : Int) ∧ a + 1 ≤ l.length) ?_ ?_)
          · refine Tot.condD (fun h => ?_) (fun h => Tot.ret (fun h => by cases h))
            have hxa : l[a]? = some l[a] := List.getElem?_eq_getElem (by omega)
            rw [bidx_at rfl hxa]
            refine Tot.ret (fun _ => ⟨?_, by omega⟩)
            dsimp only
            rw [w64 (by omega) (by omega)]; omega
          · rintro ⟨k1, c1, ks1, a1, ok1⟩ h
            refine Tot.ret (fun h' => ?_)
            obtain ⟨h1, h2⟩ := h h'
            exact ⟨a + 1, h1, by omega, h2⟩
        · exact Tot.ret (fun h => by cases h)
end Go.Proofs.YtknnmbcaoekgmaaDoor

namespace Go.Proofs.YtknnmbcaoekgmaaDoor
open Go Go.Proofs.YtknnmbcaoekgmaaDoor.Gw
set_option linter.unusedVariables false

/- ### Parse -/
def zeroN : Node := Node.mk 0 0 0 []
theorem Vld_len {t : Node} (h : Vld t = true) : (txt t).length ≤ 4000 := by
  obtain ⟨hn, hv⟩ := Vld_iff h
  have := txt_len 16 t hv hn
  omega
theorem parse_A {t : Node} (h : Vld t = true) : Tot (fun n => tree_Parse n (bs (txt t))) (· = (t, 0)) := by
  obtain ⟨hn, hv⟩ := Vld_iff h
  have hl := Vld_len h
  dsimp only [tree_Parse]
  rw [bs_size]
  refine Tot.condD (fun h => absurd h (by omega)) (fun _ => ?_)
  have hA := node_A 16 t (by omega) hv hn [] 0 NoDig.nil (by omega) (by omega) (by simp only [List.length_nil]; omega)
  rw [List.append_nil] at hA
  refine Tot.bind (Tot.mono hA ?_)
  rintro _ rfl
  dsimp only
  simp only [Bool.not_true, cond_false, bs_nil_beq, decide_true, Bool.not_true, Node.eta]
  refine Tot.cut false (Tot.bind ⟨_, Valid_ok t, Tot.ret (by rw [h]; rfl)⟩) ?_
  exact Tot.ret rfl
theorem parse_B (l : List UInt8) (hl : l.length ≤ 5000) : Tot (fun n => tree_Parse n (bs l)) (fun r => (r.2 = 0 ∧ Vld r.1 = true ∧ l = txt r.1) ∨ (r = (zeroN, 6) ∧ 4000 < l.length) ∨ (r = (zeroN, 3) ∧ l.length ≤ 4000)) := by
  dsimp only [tree_Parse]
  rw [bs_size]
  refine Tot.condD (fun h => Tot.ret (.inr (.inl ⟨rfl, by omega⟩))) (fun h4 => ?_)
  refine Tot.bind (Tot.mono (node_B 16 (by omega) l 0 hl (by omega) (by omega)) ?_)
  rintro ⟨t, ok, p⟩ hq
  dsimp only at hq ⊢
  cases ok with
  | false =>
    simp only [Bool.not_false, cond_true, Option.bind_some]
    exact Tot.ret (.inr (.inr ⟨rfl, by omega⟩))
  | true =>
    obtain ⟨rest, c', rfl, h1, h2, h3, htx⟩ := hq rfl
    simp only [Bool.not_true, cond_false, bs_nil_beq, Node.eta]
    refine Tot.bind (Tot.mono (Q' := (· = !(decide (rest = []) && Vld t))) ?_ ?_)
    · refine Tot.cond (fun h => Tot.ret ?_) (fun h => ?_)
      · have h : rest ≠ [] := by simpa using h
        rw [decide_eq_false h]; rfl
      · have h : rest = [] := by simpa using h
        rw [decide_eq_true h]
        exact Tot.bind ⟨_, Valid_ok t, Tot.ret rfl⟩
    · rintro _ rfl
      refine Tot.cond (fun h => Tot.ret (.inr (.inr ⟨rfl, by omega⟩))) (fun h => ?_)
      simp only [Bool.not_eq_false', Bool.and_eq_true, decide_eq_true_eq] at h
      obtain ⟨rfl, hv⟩ := h
      obtain ⟨hn, hv16⟩ := Vld_iff hv
      refine Tot.ret (.inl ⟨rfl, hv, ?_⟩)
      have := htx hv16 hn
      rwa [List.append_nil] at this
theorem rparse_A {t : Node} (h : Vld t = true) : Tot (fun n => ref41_Parse n (bs (txt t))) (· = (t, 0)) := by
  obtain ⟨hn, hv⟩ := Vld_iff h
  have hl := Vld_len h
  dsimp only [ref41_Parse]
  rw [bs_size]
  refine Tot.condD (fun h => absurd h (by omega)) (fun _ => ?_)
  have hC := read_C 16 t hv hn [] [] NoDig.nil (by simp only [List.length_nil]; omega) 0 rfl
  rw [List.append_nil, List.nil_append] at hC
  refine Tot.bind (Tot.mono hC ?_)
  rintro _ rfl
  dsimp only
  simp only [Bool.not_true, cond_false, Node.eta, List.length_nil, Nat.zero_add, bne_self_eq_false]
  refine Tot.cut false (Tot.bind ⟨_, rText_ok t, Tot.ret (by rw [if_pos h, bs_beq]; simp)⟩) ?_
  exact Tot.ret rfl
theorem rparse_B (l : List UInt8) (hl : l.length ≤ 5000) : Tot (fun n => ref41_Parse n (bs l)) (fun r => (r.2 = 0 ∧ Vld r.1 = true ∧ l = txt r.1) ∨ (r = (zeroN, 6) ∧ 4000 < l.length) ∨ (r = (zeroN, 3) ∧ l.length ≤ 4000)) := by
  dsimp only [ref41_Parse]
  rw [bs_size]
  refine Tot.condD (fun h => Tot.ret (.inr (.inl ⟨rfl, by omega⟩))) (fun h4 => ?_)
  refine Tot.bind (Tot.mono (read_D l.length l 0 (by omega) (by omega) hl) ?_)
  rintro ⟨t, e, ok⟩ hq
  dsimp only at hq ⊢
  cases ok with
  | false =>
    simp only [Bool.not_false, cond_true, Option.bind_some]
    exact Tot.ret (.inr (.inr ⟨rfl, by omega⟩))
  | true =>
    obtain ⟨e', rfl, h1, h2⟩ := hq rfl
    simp only [Bool.not_true, cond_false, Node.eta]
    refine Tot.bind (Tot.mono (Q' := fun b : Bool => b = false → (if Vld t then txt t else []) = l) ?_ ?_)
    · refine Tot.cond (fun h => Tot.ret (fun h => by cases h)) (fun h => ?_)
      refine Tot.bind ⟨_, rText_ok t, Tot.ret ?_⟩
      rw [bs_beq]
      intro h
      simpa using h
    · intro b hb
      refine Tot.cond (fun h => Tot.ret (.inr (.inr ⟨rfl, by omega⟩))) (fun h => ?_)
      have h5 := hb h
      refine Tot.ret (.inl ⟨rfl, ?_⟩)
      cases hv : Vld t with
      | true => rw [hv] at h5; exact ⟨rfl, h5.symm⟩
      | false => rw [hv] at h5; simp at h5; rw [h5] at h2; simp at h2; omega
theorem few_ok (t : Node) : Evt (fun n => law41_few n t) (decide (nsz t ≤ 64)) := by
  refine Tot.of_eq ?_
  dsimp only [law41_few]
  simp only [Node.eta]
  refine Tot.bind ⟨_, rSize_ok t, Tot.ret ?_⟩
  by_cases h : nsz t ≤ 64
  · rw [decide_eq_true h, decide_eq_true]; omega
  · rw [decide_eq_false h, decide_eq_false]; omega
theorem awake_ok : Evt (fun n => law41_awake n) true := Evt.of 20 (fun n => by kernel_rfl)
theorem same_t {t : Node} (h : nsz t ≤ 64) : Tot (fun n => ref41_Same n t t) (· = true) :=
  Tot.mono (same_ok t t (by omega)) (fun b h => h.2 rfl)
theorem Tot.both {α : Type} {f : Nat → Option α} {Q R : α → Prop} (h : Tot f Q) (k : Tot f R) : Tot f (fun r => Q r ∧ R r) := by
  obtain ⟨r, e, q⟩ := h
  obtain ⟨r', e', q'⟩ := k
  have := e.uniq e'
  subst this
  exact ⟨r, e, q, q'⟩
theorem nsz_zero : nsz zeroN = 1 := rfl
theorem law_TreeParses (s : ByteArray) (_ : s.size ≤ maxLen) : Evt (fun n => law41_TreeParses n s) true := by
  obtain ⟨l, rfl⟩ : ∃ l, s = bs l := ⟨_, bs_of s⟩
  refine Tot.of_eq ?_
  dsimp only [law41_TreeParses]
  rw [bs_size]
  refine Tot.cut (decide (5000 < l.length)) ?_ ?_
  · refine Tot.bind ⟨_, awake_ok, ?_⟩
    dsimp only [Bool.not_true, cond_false]
    refine Tot.ret ?_
    by_cases h : 5000 < l.length
    · rw [decide_eq_true h, decide_eq_true]; omega
    · rw [decide_eq_false h, decide_eq_false]; omega
  refine Tot.condD (fun _ => Tot.bind ⟨_, awake_ok, Tot.ret rfl⟩) (fun h5 => ?_)
  have hl : l.length ≤ 5000 := by omega
  obtain ⟨r, er, hr⟩ := parse_B l hl
  obtain ⟨w, ew, hw⟩ := rparse_B l hl
  refine Tot.bind ⟨_, er, Tot.bind ⟨_, ew, ?_⟩⟩
  -- both are the same
  have hsame : r = w ∧ nsz r.1 ≤ 64 ∧ (r.2 = 0 → Vld r.1 = true ∧ l = txt r.1) := by
    rcases hr with ⟨h0, hv, hlt⟩ | ⟨rfl, h6⟩ | ⟨rfl, h3⟩
    · obtain ⟨w', ew', rfl⟩ := rparse_A hv
      rw [← hlt] at ew'
      have := ew.uniq ew'
      subst this
      refine ⟨?_, (Vld_iff hv).1, fun _ => ⟨hv, hlt⟩⟩
      cases r; simp only at h0; rw [h0]
    · rcases hw with ⟨h0, hv, hlt⟩ | ⟨rfl, _⟩ | ⟨_, h⟩
      · have := Vld_len hv; rw [← hlt] at this; omega
      · exact ⟨rfl, by rw [nsz_zero]; omega, fun h => absurd h (by decide)⟩
      · omega
    · rcases hw with ⟨h0, hv, hlt⟩ | ⟨_, h⟩ | ⟨rfl, _⟩
      · obtain ⟨r', er', rfl⟩ := parse_A hv
        rw [← hlt] at er'
        have := congrArg Prod.snd (er.uniq er')
        exact absurd (show (3 : Int) = 0 from this) (by decide)
      · omega
      · exact ⟨rfl, by rw [nsz_zero]; omega, fun h => absurd h (by decide)⟩
  obtain ⟨rfl, h64, h0⟩ := hsame
  obtain ⟨t, e⟩ := r
  dsimp only at h64 h0 ⊢
  simp only [Node.eta, beq_self_eq_true, cond_true]
  refine Tot.cut true (Tot.bind ⟨_, few_ok t, ?_⟩) (Tot.ret rfl)
  rw [decide_eq_true h64]
  simp only [cond_true]
  refine Tot.cut true (same_t h64) ?_
  simp only [cond_true]
  refine Tot.condN (fun _ => Tot.ret rfl) (fun he => ?_)
  obtain ⟨hv, hlt⟩ := h0 he
  refine Tot.bind ⟨_, Text_ok t, Tot.ret ?_⟩
  rw [if_pos hv, bs_beq, hlt]; simp
end Go.Proofs.YtknnmbcaoekgmaaDoor
