/-
  Plain laws on the plain functions.
-/
import Derived.Test.YtknnmbcaoekgmaaDataA
namespace Go.Proofs.Ytknnmbcaoekgmaa
open Go Go.Proofs.Ytknnmbcaoekgmaa.Gw
set_option linter.unusedVariables false

/- ### Trees -/
theorem Node.eta (t : Node) : Node.mk t.Kind t.Name t.Count t.Kids = t := by cases t; rfl
theorem Node.kid_lt {t k : Node} (h : k ∈ t.Kids) : SizeOf.sizeOf k < SizeOf.sizeOf t := by
  have := List.sizeOf_lt_of_mem h
  cases t
  simp only [Node.mk.sizeOf_spec]
  dsimp only at this
  omega
theorem Node.ind {P : Node → Prop} (h : ∀ t, (∀ k ∈ t.Kids, P k) → P t) (t : Node) : P t :=
  h t fun k hk => Node.ind h k
termination_by SizeOf.sizeOf t
decreasing_by exact Node.kid_lt hk
mutual
/-- The number of nodes. -/
def nsz : Node → Nat | .mk _ _ _ ks => 1 + nszs ks
def nszs : List Node → Nat | [] => 0 | t :: ts => nsz t + nszs ts
end
theorem nsz_eq (t : Node) : nsz t = 1 + nszs t.Kids := by cases t; rfl
theorem nszs_app (a b : List Node) : nszs (a ++ b) = nszs a + nszs b := by
  induction a with
  | nil => simp [nszs]
  | cons x a ih => simp only [List.cons_append, nszs, ih]; omega
theorem nsz_pos (t : Node) : 1 ≤ nsz t := by rw [nsz_eq]; omega
theorem nszs_len (l : List Node) : l.length ≤ nszs l := by
  induction l with
  | nil => simp
  | cons x a ih => have := nsz_pos x; simp only [List.length_cons, nszs]; omega
theorem nszs_take (l : List Node) (j : Nat) : nszs (l.take j) ≤ nszs l := by
  have := nszs_app (l.take j) (l.drop j)
  rw [List.take_append_drop] at this
  omega
theorem nszs_step {l : List Node} {j : Nat} {k : Node} (h : l[j]? = some k) : nszs (l.take (j + 1)) = nszs (l.take j) + nsz k := by
  rw [List.take_add_one, h, nszs_app]; simp [nszs]
theorem nszs_mem {l : List Node} {k : Node} (h : k ∈ l) : nsz k ≤ nszs l := by
  induction l with
  | nil => cases h
  | cons x a ih =>
    simp only [nszs]
    rcases List.mem_cons.1 h with rfl | h
    · omega
    · have := ih h; omega

/- ### Size -/
theorem size_ok (t : Node) : ∀ lim : Int, 1 ≤ lim → lim ≤ 65 → Tot (fun n => tree_size n t lim) (· = min (nsz t : Int) lim) := by
  induction t using Node.ind with
  | h t ih =>
  intro lim h1 h65
  refine Tot.succ ?_
  dsimp only [tree_size, tree_size_F]
  refine Tot.bind (Tot.loop (fun s : Int × Int => ∃ j : Nat, s.2 = (j : Int) ∧ j ≤ t.Kids.length ∧ s.1 = min ((1 + nszs (t.Kids.take j) : Nat) : Int) lim) (fun s => t.Kids.length - s.2.toNat) ⟨0, rfl, by omega, by simp [nszs]; omega⟩ ?_ |>.mono (Q' := (· = min (nsz t : Int) lim)) ?_)
  · rintro ⟨c, i⟩ ⟨j, rfl, hj, rfl⟩
    dsimp only [tree_size_L1]
    have hb := nszs_take t.Kids j
    refine Tot.condD (fun hlt => ?_) (fun hge => ?_)
    · refine Tot.idx (by omega) (by omega) fun k hk => ?_
      rw [Int.toNat_natCast] at hk
      have hst := nszs_step hk
      have hb1 := nszs_take t.Kids (j + 1)
      refine Tot.condD (fun hle => ?_) (fun hgt => ?_)
      · refine Tot.ret ?_
        dsimp only
        rw [nsz_eq]; omega
      · have hn : (1 + nszs (t.Kids.take j) : Nat) < lim := by omega
        have hjl := nszs_len (t.Kids.take j)
        rw [List.length_take, Nat.min_eq_left hj] at hjl
        rw [Node.eta, w64 (by omega) (by omega)]
        refine Tot.bind (Tot.mono (ih k (List.mem_of_getElem? hk) _ (by omega) (by omega)) ?_)
        rintro _ rfl
        refine Tot.ret ?_
        dsimp only
        rw [w64 (by omega) (by omega), w64 (by omega) (by omega)]
        refine ⟨⟨j + 1, by omega, by omega, ?_⟩, by omega⟩
        rw [hst]; omega
    · refine Tot.ret ?_
      dsimp only
      rw [nsz_eq]
      have : t.Kids.take j = t.Kids := List.take_of_length_le (by omega)
      rw [this]
  · rintro _ rfl
    exact Tot.ret rfl
theorem rsize_ok (t : Node) : ∀ lim : Int, 1 ≤ lim → lim ≤ 65 → Tot (fun n => ref41_size n t lim) (· = min (nsz t : Int) lim) := by
  induction t using Node.ind with
  | h t ih =>
  intro lim h1 h65
  refine Tot.succ ?_
  dsimp only [ref41_size, ref41_size_F]
  refine Tot.bind (Tot.loop (fun s : Int × Int => ∃ j : Nat, s.2 = (j : Int) ∧ j ≤ t.Kids.length ∧ s.1 = min ((1 + nszs (t.Kids.take j) : Nat) : Int) lim) (fun s => t.Kids.length - s.2.toNat) ⟨0, rfl, by omega, by simp [nszs]; omega⟩ ?_ |>.mono (Q' := (· = min (nsz t : Int) lim)) ?_)
  · rintro ⟨c, i⟩ ⟨j, rfl, hj, rfl⟩
    dsimp only [ref41_size_L1]
    have hb := nszs_take t.Kids j
    refine Tot.bind (Tot.mono (Q' := fun b : Bool => b = (decide (j < t.Kids.length) && decide (min ((1 + nszs (t.Kids.take j) : Nat) : Int) lim < lim))) ?_ ?_)
    · refine Tot.condD (fun hlt => ?_) (fun hge => ?_)
      · refine Tot.ret ?_
        rw [decide_eq_true (show j < t.Kids.length by omega), Bool.true_and]
      · refine Tot.ret ?_
        rw [decide_eq_false (show ¬ j < t.Kids.length by omega), Bool.false_and]
    rintro _ rfl
    refine Tot.cond (fun hlt => ?_) (fun hge => ?_)
    · simp only [Bool.and_eq_true, decide_eq_true_eq] at hlt
      obtain ⟨hlt, hgt⟩ := hlt
      refine Tot.idx (by omega) (by omega) fun k hk => ?_
      rw [Int.toNat_natCast] at hk
      have hst := nszs_step hk
      have hb1 := nszs_take t.Kids (j + 1)
      have hn : (1 + nszs (t.Kids.take j) : Nat) < lim := by omega
      have hjl := nszs_len (t.Kids.take j)
      rw [List.length_take, Nat.min_eq_left hj] at hjl
      rw [Node.eta, w64 (by omega) (by omega)]
      refine Tot.bind (Tot.mono (ih k (List.mem_of_getElem? hk) _ (by omega) (by omega)) ?_)
      rintro _ rfl
      refine Tot.ret ?_
      dsimp only
      rw [w64 (by omega) (by omega), w64 (by omega) (by omega)]
      refine ⟨⟨j + 1, by omega, by omega, ?_⟩, by omega⟩
      rw [hst]; omega
    · refine Tot.ret ?_
      dsimp only
      rw [nsz_eq]
      simp only [Bool.and_eq_false_iff, decide_eq_false_iff_not] at hge
      rcases hge with hge | hge
      · have : t.Kids.take j = t.Kids := List.take_of_length_le (by omega)
        rw [this]
      · omega
  · rintro _ rfl
    exact Tot.ret rfl
theorem Size_ok (t : Node) : Evt (fun n => tree_Size n t) (min (nsz t : Int) 65) := by
  refine Tot.of_eq ?_
  dsimp only [tree_Size]
  simp only [Node.eta]
  refine Tot.bind (Tot.mono (size_ok t 65 (by omega) (by omega)) ?_)
  rintro _ rfl
  exact Tot.ret rfl
theorem rSize_ok (t : Node) : Evt (fun n => ref41_Size n t) (min (nsz t : Int) 65) := by
  refine Tot.of_eq ?_
  dsimp only [ref41_Size]
  simp only [Node.eta]
  refine Tot.bind (Tot.mono (rsize_ok t 65 (by omega) (by omega)) ?_)
  rintro _ rfl
  exact Tot.ret rfl
end Go.Proofs.Ytknnmbcaoekgmaa

namespace Go.Proofs.Ytknnmbcaoekgmaa
open Go Go.Proofs.Ytknnmbcaoekgmaa.Gw
set_option linter.unusedVariables false

/- ### Valid trees -/
/-- A node has the fields of its kind. -/
def fitsB (t : Node) : Bool :=
  if t.Kind = 1 ∨ t.Kind = 2 then decide (0 ≤ t.Name ∧ t.Name < 64 ∧ t.Count = 0 ∧ t.Kids.length = 0)
  else if t.Kind = 3 ∨ t.Kind = 4 then decide (t.Name = 0 ∧ t.Count = 0)
  else if t.Kind = 5 then decide (t.Name = 0 ∧ 1 ≤ t.Count ∧ t.Count ≤ t.Kids.length)
  else if t.Kind = 6 then decide (t.Name = 0 ∧ t.Count = 0 ∧ t.Kids.length = 1)
  else if t.Kind = 7 ∨ t.Kind = 8 then decide (t.Name = 0 ∧ 1 ≤ t.Count ∧ t.Count ≤ 1000 ∧ t.Kids.length = 1)
  else false
def vld : Nat → Node → Bool
  | 0, _ => false
  | d + 1, t => fitsB t && t.Kids.all (vld d)
/-- The tree is valid. -/
def Vld (t : Node) : Bool := decide (nsz t ≤ 64) && vld 16 t
theorem fits_eq (n : Nat) (t : Node) : tree_fits n t = some (fitsB t) := by
  obtain ⟨k, nm, c, ks⟩ := t
  unfold tree_fits fitsB
  dsimp only
  by_cases h1 : k = 1
  · subst h1
    by_cases a : nm ≥ 0 <;> by_cases b : nm < 64 <;> by_cases d : c = 0 <;> by_cases e : ks.length = 0 <;> simp [Bool.cond_eq_ite, a, b, d, e] <;> (try omega)
  by_cases h2 : k = 2
  · subst h2
    by_cases a : nm ≥ 0 <;> by_cases b : nm < 64 <;> by_cases d : c = 0 <;> by_cases e : ks.length = 0 <;> simp [Bool.cond_eq_ite, a, b, d, e] <;> (try omega)
  by_cases h3 : k = 3
  · subst h3
    by_cases a : nm = 0 <;> by_cases d : c = 0 <;> simp [Bool.cond_eq_ite, a, d] <;> (try omega)
  by_cases h4 : k = 4
  · subst h4
    by_cases a : nm = 0 <;> by_cases d : c = 0 <;> simp [Bool.cond_eq_ite, a, d] <;> (try omega)
  by_cases h5 : k = 5
  · subst h5
    by_cases a : nm = 0 <;> by_cases d : c ≥ 1 <;> by_cases e : c ≤ ks.length <;> simp [Bool.cond_eq_ite, a, d, e] <;> (try omega)
  by_cases h6 : k = 6
  · subst h6
    by_cases a : nm = 0 <;> by_cases d : c = 0 <;> by_cases e : ks.length = 1 <;> simp [Bool.cond_eq_ite, a, d, e] <;> (try omega)
  by_cases h7 : k = 7
  · subst h7
    by_cases a : nm = 0 <;> by_cases d : c ≥ 1 <;> by_cases e : c ≤ 1000 <;> by_cases f : ks.length = 1 <;> simp [Bool.cond_eq_ite, a, d, e, f] <;> (try omega)
  by_cases h8 : k = 8
  · subst h8
    by_cases a : nm = 0 <;> by_cases d : c ≥ 1 <;> by_cases e : c ≤ 1000 <;> by_cases f : ks.length = 1 <;> simp [Bool.cond_eq_ite, a, d, e, f] <;> (try omega)
  simp [Bool.cond_eq_ite, h1, h2, h3, h4, h5, h6, h7, h8]
theorem between_eq (n : Nat) (a b c : Int) : ref41_between n a b c = some (decide (b ≤ a ∧ a ≤ c)) := by
  unfold ref41_between
  by_cases h : a ≥ b <;> by_cases h' : a ≤ c <;> simp [h, h'] <;> omega
theorem single_eq (n : Nat) (t : Node) : ref41_single n t = some (fitsB t) := by
  obtain ⟨k, nm, c, ks⟩ := t
  unfold ref41_single fitsB
  simp only [between_eq, Option.bind_some]
  by_cases h1 : k = 1
  · subst h1
    by_cases a : nm ≥ 0 <;> by_cases b : nm ≤ 63 <;> by_cases d : c = 0 <;> by_cases e : ks.length = 0 <;> simp [Bool.cond_eq_ite, a, b, d, e] <;> (try omega)
  by_cases h2 : k = 2
  · subst h2
    by_cases a : nm ≥ 0 <;> by_cases b : nm ≤ 63 <;> by_cases d : c = 0 <;> by_cases e : ks.length = 0 <;> simp [Bool.cond_eq_ite, a, b, d, e] <;> (try omega)
  by_cases h3 : k = 3
  · subst h3
    by_cases a : nm = 0 <;> by_cases d : c = 0 <;> simp [Bool.cond_eq_ite, a, d] <;> (try omega)
  by_cases h4 : k = 4
  · subst h4
    by_cases a : nm = 0 <;> by_cases d : c = 0 <;> simp [Bool.cond_eq_ite, a, d] <;> (try omega)
  by_cases h5 : k = 5
  · subst h5
    by_cases a : nm = 0 <;> by_cases d : c ≥ 1 <;> by_cases e : c ≤ ks.length <;> by_cases f : (ks.length : Int) ≥ 1 <;> simp [Bool.cond_eq_ite, a, d, e, f] <;> (try omega)
  by_cases h6 : k = 6
  · subst h6
    by_cases a : nm = 0 <;> by_cases d : c = 0 <;> by_cases e : ks.length = 1 <;> simp [Bool.cond_eq_ite, a, d, e] <;> (try omega)
  by_cases h7 : k = 7
  · subst h7
    by_cases a : nm = 0 <;> by_cases d : c ≥ 1 <;> by_cases e : c ≤ 1000 <;> by_cases f : ks.length = 1 <;> simp [Bool.cond_eq_ite, a, d, e, f] <;> (try omega)
  by_cases h8 : k = 8
  · subst h8
    by_cases a : nm = 0 <;> by_cases d : c ≥ 1 <;> by_cases e : c ≤ 1000 <;> by_cases f : ks.length = 1 <;> simp [Bool.cond_eq_ite, a, d, e, f] <;> (try omega)
  simp [Bool.cond_eq_ite, h1, h2, h3, h4, h5, h6, h7, h8]
theorem all_take_step {p : Node → Bool} {l : List Node} {j : Nat} {k : Node} (h : l[j]? = some k) (h1 : (l.take j).all p = true) (h2 : p k = true) : (l.take (j + 1)).all p = true := by
  rw [List.take_add_one, h, List.all_append, h1]; simp [h2]
theorem all_false {p : Node → Bool} {l : List Node} {j : Nat} {k : Node} (h : l[j]? = some k) (h2 : p k = false) : l.all p = false := by
  rw [List.all_eq_false]; exact ⟨k, List.mem_of_getElem? h, by simp [h2]⟩
theorem valid_ok : ∀ (d : Nat) (t : Node), d ≤ 16 → nsz t ≤ 64 → Tot (fun n => tree_valid n t (d : Int)) (· = vld d t) := by
  intro d
  induction d with
  | zero =>
    intro t _ _
    refine Tot.succ ?_
    dsimp only [tree_valid, tree_valid_F]
    exact Tot.ret rfl
  | succ d ih =>
    intro t hd ht
    refine Tot.succ ?_
    dsimp only [tree_valid, tree_valid_F]
    simp only [Node.eta, fits_eq, Option.bind_some]
    rw [show (((d + 1 : Nat) : Int) == 0) = false from by simp; omega]
    dsimp only [cond_false]
    simp only [cond_false, Option.bind_some]
    have hk := nszs_len t.Kids
    rw [nsz_eq] at ht
    refine Tot.cond (fun hf => ?_) (fun hf => ?_)
    · refine Tot.ret ?_
      simp only [Bool.not_eq_true'] at hf
      simp [vld, hf]
    · simp only [Bool.not_eq_false'] at hf
      refine Tot.bind (Tot.mono (Q' := fun o : Out Unit Bool => (o = .go () ∧ t.Kids.all (vld d) = true) ∨ (o = .done false ∧ t.Kids.all (vld d) = false)) (Tot.loop (fun s : Int => ∃ j : Nat, s = (j : Int) ∧ j ≤ t.Kids.length ∧ (t.Kids.take j).all (vld d) = true) (fun s => t.Kids.length - s.toNat) ⟨0, rfl, by omega, by simp⟩ ?_) ?_)
      · rintro i ⟨j, rfl, hj, hall⟩
        dsimp only [tree_valid_L1]
        refine Tot.condD (fun hlt => ?_) (fun hge => ?_)
        · refine Tot.idx (by omega) (by omega) fun k hkk => ?_
          rw [Int.toNat_natCast] at hkk
          rw [Node.eta, w64 (by omega) (by omega), show ((d + 1 : Nat) : Int) - 1 = (d : Int) by omega]
          have hm := nszs_mem (List.mem_of_getElem? hkk)
          refine Tot.bind (Tot.mono (ih k (by omega) (by omega)) ?_)
          rintro _ rfl
          refine Tot.cond (fun hv => ?_) (fun hv => ?_)
          · simp only [Bool.not_eq_true'] at hv
            exact Tot.ret (.inr ⟨rfl, all_false hkk hv⟩)
          · simp only [Bool.not_eq_false'] at hv
            refine Tot.ret ?_
            dsimp only
            rw [w64 (by omega) (by omega)]
            exact ⟨⟨j + 1, by omega, by omega, all_take_step hkk hall hv⟩, by omega⟩
        · refine Tot.ret (.inl ⟨rfl, ?_⟩)
          rwa [List.take_of_length_le (by omega)] at hall
      · rintro _ (⟨rfl, h⟩ | ⟨rfl, h⟩)
        · exact Tot.ret (by simp [vld, hf, h])
        · exact Tot.ret (by simp [vld, hf, h])
theorem rvalid_ok : ∀ (d : Nat) (t : Node), d ≤ 16 → nsz t ≤ 64 → Tot (fun n => ref41_valid n t (d : Int)) (· = vld d t) := by
  intro d
  induction d with
  | zero =>
    intro t _ _
    refine Tot.succ ?_
    dsimp only [ref41_valid, ref41_valid_F]
    exact Tot.ret rfl
  | succ d ih =>
    intro t hd ht
    refine Tot.succ ?_
    dsimp only [ref41_valid, ref41_valid_F]
    simp only [Node.eta, single_eq, Option.bind_some]
    rw [show (((d + 1 : Nat) : Int) == 0) = false from by simp; omega]
    simp only [cond_false, Option.bind_some]
    have hk := nszs_len t.Kids
    rw [nsz_eq] at ht
    refine Tot.cond (fun hf => ?_) (fun hf => ?_)
    · refine Tot.ret ?_
      simp only [Bool.not_eq_true'] at hf
      simp [vld, hf]
    · simp only [Bool.not_eq_false'] at hf
      refine Tot.bind (Tot.mono (Q' := fun o : Out Unit Bool => (o = .go () ∧ t.Kids.all (vld d) = true) ∨ (o = .done false ∧ t.Kids.all (vld d) = false)) (Tot.loop (fun s : Int => ∃ j : Nat, s = (j : Int) ∧ j ≤ t.Kids.length ∧ (t.Kids.take j).all (vld d) = true) (fun s => t.Kids.length - s.toNat) ⟨0, rfl, by omega, by simp⟩ ?_) ?_)
      · rintro i ⟨j, rfl, hj, hall⟩
        dsimp only [ref41_valid_L1]
        refine Tot.condD (fun hlt => ?_) (fun hge => ?_)
        · refine Tot.idx (by omega) (by omega) fun k hkk => ?_
          rw [Int.toNat_natCast] at hkk
          rw [Node.eta, w64 (by omega) (by omega), show ((d + 1 : Nat) : Int) - 1 = (d : Int) by omega]
          have hm := nszs_mem (List.mem_of_getElem? hkk)
          refine Tot.bind (Tot.mono (ih k (by omega) (by omega)) ?_)
          rintro _ rfl
          refine Tot.cond (fun hv => ?_) (fun hv => ?_)
          · simp only [Bool.not_eq_true'] at hv
            exact Tot.ret (.inr ⟨rfl, all_false hkk hv⟩)
          · simp only [Bool.not_eq_false'] at hv
            refine Tot.ret ?_
            dsimp only
            rw [w64 (by omega) (by omega)]
            exact ⟨⟨j + 1, by omega, by omega, all_take_step hkk hall hv⟩, by omega⟩
        · refine Tot.ret (.inl ⟨rfl, ?_⟩)
          rwa [List.take_of_length_le (by omega)] at hall
      · rintro _ (⟨rfl, h⟩ | ⟨rfl, h⟩)
        · exact Tot.ret (by simp [vld, hf, h])
        · exact Tot.ret (by simp [vld, hf, h])
theorem Valid_ok (t : Node) : Evt (fun n => tree_Valid n t) (Vld t) := by
  refine Tot.of_eq ?_
  dsimp only [tree_Valid]
  simp only [Node.eta]
  refine Tot.bind (Tot.mono (Q' := (· = Vld t)) (Tot.bind ⟨_, Size_ok t, ?_⟩) (by rintro _ rfl; exact Tot.ret rfl))
  refine Tot.condD (fun h => ?_) (fun h => ?_)
  · have h64 : nsz t ≤ 64 := by omega
    refine Tot.bind (Tot.mono (valid_ok 16 t (by omega) h64) ?_)
    rintro _ rfl
    exact Tot.ret (by simp [Vld, h64])
  · exact Tot.ret (by have : ¬ nsz t ≤ 64 := by omega
                      simp [Vld, this])
theorem rValid_ok (t : Node) : Evt (fun n => ref41_Valid n t) (Vld t) := by
  refine Tot.of_eq ?_
  dsimp only [ref41_Valid]
  simp only [Node.eta]
  refine Tot.bind (Tot.mono (Q' := (· = Vld t)) (Tot.bind ⟨_, rSize_ok t, ?_⟩) (by rintro _ rfl; exact Tot.ret rfl))
  refine Tot.condD (fun h => ?_) (fun h => ?_)
  · have h64 : nsz t ≤ 64 := by omega
    refine Tot.bind (Tot.mono (rvalid_ok 16 t (by omega) h64) ?_)
    rintro _ rfl
    exact Tot.ret (by simp [Vld, h64])
  · exact Tot.ret (by have : ¬ nsz t ≤ 64 := by omega
                      simp [Vld, this])
end Go.Proofs.Ytknnmbcaoekgmaa

namespace Go.Proofs.Ytknnmbcaoekgmaa
open Go Go.Proofs.Ytknnmbcaoekgmaa.Gw
set_option linter.unusedVariables false

/- ### The nodes of a tree, in preorder -/
/-- The numbers of kids, if the first one has the number k. -/
def kix : Nat → List Node → List Int
  | _, [] => []
  | k, t :: ts => (k : Int) :: kix (k + nsz t) ts
mutual
def flat : Nat → Node → List Node_2
  | k, .mk kd nm c ks => Node_2.mk kd nm c (kix (k + 1) ks) :: flats (k + 1) ks
def flats : Nat → List Node → List Node_2
  | _, [] => []
  | k, t :: ts => flat k t ++ flats (k + nsz t) ts
end
theorem flat_eq (k : Nat) (t : Node) : flat k t = Node_2.mk t.Kind t.Name t.Count (kix (k + 1) t.Kids) :: flats (k + 1) t.Kids := by cases t; rfl
theorem flats_app (a b : List Node) : ∀ k, flats k (a ++ b) = flats k a ++ flats (k + nszs a) b := by
  induction a with
  | nil => intro k; simp [flats, nszs]
  | cons x a ih => intro k; simp only [List.cons_append, flats, ih, nszs, List.append_assoc]; rw [show k + nsz x + nszs a = k + (nsz x + nszs a) by omega]
theorem kix_app (a b : List Node) : ∀ k, kix k (a ++ b) = kix k a ++ kix (k + nszs a) b := by
  induction a with
  | nil => intro k; simp [kix, nszs]
  | cons x a ih => intro k; simp only [List.cons_append, kix, ih, nszs]; rw [show k + nsz x + nszs a = k + (nsz x + nszs a) by omega]
theorem kix_len (a : List Node) : ∀ k, (kix k a).length = a.length := by
  induction a with
  | nil => intro k; rfl
  | cons x a ih => intro k; simp only [kix, List.length_cons, ih]
theorem flat_len (t : Node) : ∀ k, (flat k t).length = nsz t := by
  induction t using Node.ind with
  | h t ih =>
  intro k
  rw [flat_eq, nsz_eq, List.length_cons]
  have key : ∀ (l : List Node), (∀ x ∈ l, x ∈ t.Kids) → ∀ k, (flats k l).length = nszs l := by
    intro l
    induction l with
    | nil => intro _ k; rfl
    | cons x l ihl =>
      intro hl k
      simp only [flats, List.length_append, nszs]
      rw [ih x (hl x (by simp)), ihl (fun y hy => hl y (by simp [hy]))]
  rw [key t.Kids (fun _ h => h)]; omega
theorem flats_len (l : List Node) : ∀ k, (flats k l).length = nszs l := by
  induction l with
  | nil => intro k; rfl
  | cons x l ih => intro k; simp only [flats, List.length_append, nszs, flat_len, ih]
theorem flats_step {l : List Node} {j k : Nat} {t : Node} (h : l[j]? = some t) : flats k (l.take (j + 1)) = flats k (l.take j) ++ flat (k + nszs (l.take j)) t := by
  rw [List.take_add_one, h, flats_app]; simp [flats]
theorem kix_step {l : List Node} {j k : Nat} {t : Node} (h : l[j]? = some t) : kix k (l.take (j + 1)) = kix k (l.take j) ++ [((k + nszs (l.take j) : Nat) : Int)] := by
  rw [List.take_add_one, h, kix_app]; simp [kix]
theorem idx_mid {α : Type} (a b : List α) (x : α) : idx (a ++ x :: b) (a.length : Int) = some x := by
  rw [idx_nat, List.getElem?_append_right (by omega)]; simp
theorem upd_mid {α : Type} (a b : List α) (x y : α) : upd (a ++ x :: b) (a.length : Int) y = a ++ y :: b := by
  unfold upd; rw [Int.toNat_natCast, List.set_append_right _ _ (by omega)]; simp
theorem addN_eq (t : Node) : ∀ ns : List Node_2, ns.length + nsz t ≤ 1000000 → Tot (fun n => addN n ns t) (· = ((ns.length : Int), ns ++ flat ns.length t)) := by
  induction t using Node.ind with
  | h t ih =>
  intro ns hb
  rw [nsz_eq] at hb
  refine Tot.succ ?_
  dsimp only [addN, addN_F]
  refine Tot.app (by simp; omega) ?_
  have hk := nszs_len t.Kids
  refine Tot.bind (Tot.mono (Tot.loop (Q := (· = ns ++ flat ns.length t)) (fun s : Int × List Node_2 => ∃ j : Nat, s.1 = (j : Int) ∧ j ≤ t.Kids.length ∧ s.2 = ns ++ Node_2.mk t.Kind t.Name t.Count (kix (ns.length + 1) (t.Kids.take j)) :: flats (ns.length + 1) (t.Kids.take j)) (fun s => t.Kids.length - s.1.toNat) ⟨0, rfl, by omega, by simp [kix, flats]⟩ ?_) ?_)
  · rintro ⟨i, _⟩ ⟨j, rfl, hj, rfl⟩
    dsimp only [addN_L]
    refine Tot.condD (fun hlt => ?_) (fun hge => ?_)
    · refine Tot.idx (by omega) (by omega) fun k hkk => ?_
      rw [Int.toNat_natCast] at hkk
      have hm := nszs_step hkk
      have hb1 := nszs_take t.Kids (j + 1)
      have hl : (ns ++ Node_2.mk t.Kind t.Name t.Count (kix (ns.length + 1) (t.Kids.take j)) :: flats (ns.length + 1) (t.Kids.take j)).length = ns.length + 1 + nszs (t.Kids.take j) := by
        simp only [List.length_append, List.length_cons, flats_len]; omega
      refine Tot.bind (Tot.mono (ih k (List.mem_of_getElem? hkk) _ (by rw [hl]; omega)) ?_)
      rintro _ rfl
      dsimp only
      rw [List.append_assoc, List.cons_append]
      refine Tot.idxv (idx_mid _ _ _) ?_
      dsimp only
      refine Tot.app (by rw [kix_len, List.length_take]; simp; omega) ?_
      refine Tot.ret ?_
      dsimp only
      rw [upd_mid, w64 (by omega) (by omega)]
      refine ⟨⟨j + 1, by omega, by omega, ?_⟩, by omega⟩
      rw [kix_step hkk, flats_step hkk, hl]
    · refine Tot.ret ?_
      dsimp only
      rw [flat_eq, List.take_of_length_le (show t.Kids.length ≤ j by omega)]
  · rintro _ rfl
    exact Tot.ret rfl
theorem add_eq (t : Node) (h : nsz t ≤ 1000) : Tot (fun n => tree_Runner_add n (Runner.mk [] [] []) t) (· = (0, Runner.mk (flat 0 t) [] [])) := by
  dsimp only [tree_Runner_add]
  refine Tot.bind (Tot.mono (addN_eq t [] (by simp; omega)) ?_)
  rintro _ rfl
  exact Tot.ret rfl
/-- New's runner. -/
def newR (t : Node) : Runner := Runner.mk (flat 0 t) (List.replicate (nsz t) 0) (List.replicate (nsz t) false)
theorem mk_nat {α : Type} (n : Nat) (z : α) (h : n ≤ 1000000) : mk (n : Int) z = some (List.replicate n z) := by
  unfold mk; rw [if_pos (by omega)]; simp
theorem New_eq (t : Node) : Evt (fun n => tree_New n t) (if Vld t then (some (newR t), 0) else (none, 1)) := by
  refine Tot.of_eq ?_
  dsimp only [tree_New]
  simp only [Node.eta]
  refine Tot.bind ⟨_, Valid_ok t, ?_⟩
  refine Tot.cond (fun h => ?_) (fun h => ?_)
  · simp only [Bool.not_eq_true'] at h
    exact Tot.ret (by simp [h])
  · simp only [Bool.not_eq_false'] at h
    have hs : nsz t ≤ 64 := by simp only [Vld, Bool.and_eq_true, decide_eq_true_eq] at h; exact h.1
    refine Tot.bind (Tot.mono (add_eq t (by omega)) ?_)
    rintro _ rfl
    dsimp only
    rw [flat_len, mk_nat _ _ (by omega), mk_nat _ _ (by omega)]
    exact Tot.ret (by rw [if_pos h]; rfl)
theorem awake_ok : Evt (fun n => law41_awake n) true := Evt.of 20 (fun n => by kernel_rfl)
theorem law_TreeValid (t : Node) (_ : True) : Evt (fun n => law41_TreeValid n t) true := by
  refine Tot.of_eq ?_
  dsimp only [law41_TreeValid]
  simp only [Node.eta]
  refine Tot.bind ⟨_, awake_ok, ?_⟩
  dsimp only [Bool.not_true, cond_false]
  refine Tot.bind (Tot.mono (Q' := (· = false)) (Tot.bind ⟨_, Size_ok t, Tot.bind ⟨_, rSize_ok t, ?_⟩⟩) ?_)
  · refine Tot.condN (fun h => absurd rfl h) (fun _ => ?_)
    refine Tot.bind ⟨_, Valid_ok t, Tot.bind ⟨_, rValid_ok t, Tot.ret (by simp)⟩⟩
  rintro _ rfl
  simp only [cond_false]
  refine Tot.bind ⟨_, New_eq t, ?_⟩
  cases hv : Vld t
  · simp only [Bool.false_eq_true, if_false]
    refine Tot.bind (Tot.mono (Q' := (· = true)) (Tot.bind ⟨_, rValid_ok t, ?_⟩) (by rintro _ rfl; exact Tot.ret rfl))
    rw [hv]
    simp only [cond_false]
    refine Tot.bind ⟨_, rValid_ok t, ?_⟩
    rw [hv]
    exact Tot.ret rfl
  · simp only [if_true]
    refine Tot.bind (Tot.mono (Q' := (· = true)) (Tot.bind ⟨_, rValid_ok t, ?_⟩) (by rintro _ rfl; exact Tot.ret rfl))
    rw [hv]
    exact Tot.ret rfl
end Go.Proofs.Ytknnmbcaoekgmaa
