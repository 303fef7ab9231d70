/-
  Plain laws on the plain functions.
-/
import Derived.Test.YtkhmdpekfcahkaaDoorDataA
import Derived.Lib.Strings
namespace Go.Proofs.YtkhmdpekfcahkaaDoor
open Go Go.Proofs.YtkhmdpekfcahkaaDoor.Gw
set_option linter.unusedVariables false

/- ### Trees -/
theorem Node.eta (t : Node) : Node.mk t.Kind t.Name t.Count t.Kids = t := by cases t; rfl
theorem Node.kid_lt {t k : Node} (h : k ∈ t.Kids) : SizeOf.sizeOf k < SizeOf.sizeOf t := by
  have := List.sizeOf_lt_of_mem h
  cases t
  simp only [Node.mk.sizeOf_spec]
  dsimp only at this
  omega
theorem Node.ind {P : Node → Prop} (h : ∀ t, (∀ k ∈ t.Kids, P k) → P t) (t : Node) : P t :=
  h t fun k hk => Node.ind h k
termination_by SizeOf.sizeOf t
decreasing_by exact Node.kid_lt hk
mutual
/-- The number of nodes. -/
def nsz : Node → Nat | .mk _ _ _ ks => 1 + nszs ks
def nszs : List Node → Nat | [] => 0 | t :: ts => nsz t + nszs ts
end
theorem nsz_eq (t : Node) : nsz t = 1 + nszs t.Kids := by cases t; rfl
theorem nszs_app (a b : List Node) : nszs (a ++ b) = nszs a + nszs b := by
  induction a with
  | nil => simp [nszs]
  | cons x a ih => simp only [List.cons_append, nszs, ih]; omega
theorem nsz_pos (t : Node) : 1 ≤ nsz t := by rw [nsz_eq]; omega
theorem nszs_len (l : List Node) : l.length ≤ nszs l := by
  induction l with
  | nil => simp
  | cons x a ih => have := nsz_pos x; simp only [List.length_cons, nszs]; omega
theorem nszs_take (l : List Node) (j : Nat) : nszs (l.take j) ≤ nszs l := by
  have := nszs_app (l.take j) (l.drop j)
  rw [List.take_append_drop] at this
  omega
theorem nszs_step {l : List Node} {j : Nat} {k : Node} (h : l[j]? = some k) : nszs (l.take (j + 1)) = nszs (l.take j) + nsz k := by
  rw [List.take_add_one, h, nszs_app]; simp [nszs]
theorem nszs_mem {l : List Node} {k : Node} (h : k ∈ l) : nsz k ≤ nszs l := by
  induction l with
  | nil => cases h
  | cons x a ih =>
    simp only [nszs]
    rcases List.mem_cons.1 h with rfl | h
    · omega
    · have := ih h; omega

/- ### Size -/
theorem size_ok (t : Node) : ∀ lim : Int, 1 ≤ lim → lim ≤ 65 → Tot (fun n => tree_size n t lim) (· = min (nsz t : Int) lim) := by
  induction t using Node.ind with
  | h t ih =>
  intro lim h1 h65
  refine Tot.succ ?_
  dsimp only [tree_size, tree_size_F]
  refine Tot.bind (Tot.loop (fun s : Int × Int => ∃ j : Nat, s.2 = (j : Int) ∧ j ≤ t.Kids.length ∧ s.1 = min ((1 + nszs (t.Kids.take j) : Nat) : Int) lim) (fun s => t.Kids.length - s.2.toNat) ⟨0, rfl, by omega, by simp [nszs]; omega⟩ ?_ |>.mono (Q' := (· = min (nsz t : Int) lim)) ?_)
  · rintro ⟨c, i⟩ ⟨j, rfl, hj, rfl⟩
    dsimp only [tree_size_L1]
    have hb := nszs_take t.Kids j
    refine Tot.condD (fun hlt => ?_) (fun hge => ?_)
    · refine Tot.idx (by omega) (by omega) fun k hk => ?_
      rw [Int.toNat_natCast] at hk
      have hst := nszs_step hk
      have hb1 := nszs_take t.Kids (j + 1)
      refine Tot.condD (fun hle => ?_) (fun hgt => ?_)
      · refine Tot.ret ?_
        dsimp only
        rw [nsz_eq]; omega
      · have hn : (1 + nszs (t.Kids.take j) : Nat) < lim := by omega
        have hjl := nszs_len (t.Kids.take j)
        rw [List.length_take, Nat.min_eq_left hj] at hjl
        rw [Node.eta, w64 (by omega) (by omega)]
        refine Tot.bind (Tot.mono (ih k (List.mem_of_getElem? hk) _ (by omega) (by omega)) ?_)
        rintro _ rfl
        refine Tot.ret ?_
        dsimp only
        rw [w64 (by omega) (by omega), w64 (by omega) (by omega)]
        refine ⟨⟨j + 1, by omega, by omega, ?_⟩, by omega⟩
        rw [hst]; omega
    · refine Tot.ret ?_
      dsimp only
      rw [nsz_eq]
      have : t.Kids.take j = t.Kids := List.take_of_length_le (by omega)
      rw [this]
  · rintro _ rfl
    exact Tot.ret rfl
theorem rsize_ok (t : Node) : ∀ lim : Int, 1 ≤ lim → lim ≤ 65 → Tot (fun n => ref41_size n t lim) (· = min (nsz t : Int) lim) := by
  induction t using Node.ind with
  | h t ih =>
  intro lim h1 h65
  refine Tot.succ ?_
  dsimp only [ref41_size, ref41_size_F]
  refine Tot.bind (Tot.loop (fun s : Int × Int => ∃ j : Nat, s.2 = (j : Int) ∧ j ≤ t.Kids.length ∧ s.1 = min ((1 + nszs (t.Kids.take j) : Nat) : Int) lim) (fun s => t.Kids.length - s.2.toNat) ⟨0, rfl, by omega, by simp [nszs]; omega⟩ ?_ |>.mono (Q' := (· = min (nsz t : Int) lim)) ?_)
  · rintro ⟨c, i⟩ ⟨j, rfl, hj, rfl⟩
    dsimp only [ref41_size_L1]
    have hb := nszs_take t.Kids j
    refine Tot.bind (Tot.mono (Q' := fun b : Bool => b = (decide (j < t.Kids.length) && decide (min ((1 + nszs (t.Kids.take j) : Nat) : Int) lim < lim))) ?_ ?_)
    · refine Tot.condD (fun hlt => ?_) (fun hge => ?_)
      · refine Tot.ret ?_
        rw [decide_eq_true (show j < t.Kids.length by omega), Bool.true_and]
      · refine Tot.ret ?_
        rw [decide_eq_false (show ¬ j < t.Kids.length by omega), Bool.false_and]
    rintro _ rfl
    refine Tot.cond (fun hlt => ?_) (fun hge => ?_)
    · simp only [Bool.and_eq_true, decide_eq_true_eq] at hlt
      obtain ⟨hlt, hgt⟩ := hlt
      refine Tot.idx (by omega) (by omega) fun k hk => ?_
      rw [Int.toNat_natCast] at hk
      have hst := nszs_step hk
      have hb1 := nszs_take t.Kids (j + 1)
      have hn : (1 + nszs (t.Kids.take j) : Nat) < lim := by omega
      have hjl := nszs_len (t.Kids.take j)
      rw [List.length_take, Nat.min_eq_left hj] at hjl
      rw [Node.eta, w64 (by omega) (by omega)]
      refine Tot.bind (Tot.mono (ih k (List.mem_of_getElem? hk) _ (by omega) (by omega)) ?_)
      rintro _ rfl
      refine Tot.ret ?_
      dsimp only
      rw [w64 (by omega) (by omega), w64 (by omega) (by omega)]
      refine ⟨⟨j + 1, by omega, by omega, ?_⟩, by omega⟩
      rw [hst]; omega
    · refine Tot.ret ?_
      dsimp only
      rw [nsz_eq]
      simp only [Bool.and_eq_false_iff, decide_eq_false_iff_not] at hge
      rcases hge with hge | hge
      · have : t.Kids.take j = t.Kids := List.take_of_length_le (by omega)
        rw [this]
      · omega
  · rintro _ rfl
    exact Tot.ret rfl
theorem Size_ok (t : Node) : Evt (fun n => tree_Size n t) (min (nsz t : Int) 65) := by
  refine Tot.of_eq ?_
  dsimp only [tree_Size]
  simp only [Node.eta]
  refine Tot.bind (Tot.mono (size_ok t 65 (by omega) (by omega)) ?_)
  rintro _ rfl
  exact Tot.ret rfl
theorem rSize_ok (t : Node) : Evt (fun n => ref41_Size n t) (min (nsz t : Int) 65) := by
  refine Tot.of_eq ?_
  dsimp only [ref41_Size]
  simp only [Node.eta]
  refine Tot.bind (Tot.mono (rsize_ok t 65 (by omega) (by omega)) ?_)
  rintro _ rfl
  exact Tot.ret rfl
end Go.Proofs.YtkhmdpekfcahkaaDoor

namespace Go.Proofs.YtkhmdpekfcahkaaDoor
open Go Go.Proofs.YtkhmdpekfcahkaaDoor.Gw
set_option linter.unusedVariables false

/- ### Valid trees -/
/-- A node has the fields of its kind. -/
def fitsB (t : Node) : Bool :=
  if t.Kind = 1 ∨ t.Kind = 2 then decide (0 ≤ t.Name ∧ t.Name < 64 ∧ t.Count = 0 ∧ t.Kids.length = 0)
  else if t.Kind = 3 ∨ t.Kind = 4 then decide (t.Name = 0 ∧ t.Count = 0)
  else if t.Kind = 5 then decide (t.Name = 0 ∧ 1 ≤ t.Count ∧ t.Count ≤ t.Kids.length)
  else if t.Kind = 6 then decide (t.Name = 0 ∧ t.Count = 0 ∧ t.Kids.length = 1)
  else if t.Kind = 7 ∨ t.Kind = 8 then decide (t.Name = 0 ∧ 1 ≤ t.Count ∧ t.Count ≤ 1000 ∧ t.Kids.length = 1)
  else false
def vld : Nat → Node → Bool
  | 0, _ => false
  | d + 1, t => fitsB t && t.Kids.all (vld d)
/-- The tree is valid. -/
def Vld (t : Node) : Bool := decide (nsz t ≤ 64) && vld 16 t
theorem fits_eq (n : Nat) (t : Node) : tree_fits n t = some (fitsB t) := by
  obtain ⟨k, nm, c, ks⟩ := t
  unfold tree_fits fitsB
  dsimp only
  by_cases h1 : k = 1
  · subst h1
    by_cases a : nm ≥ 0 <;> by_cases b : nm < 64 <;> by_cases d : c = 0 <;> by_cases e : ks.length = 0 <;> simp [Bool.cond_eq_ite, a, b, d, e] <;> (try omega)
  by_cases h2 : k = 2
  · subst h2
    by_cases a : nm ≥ 0 <;> by_cases b : nm < 64 <;> by_cases d : c = 0 <;> by_cases e : ks.length = 0 <;> simp [Bool.cond_eq_ite, a, b, d, e] <;> (try omega)
  by_cases h3 : k = 3
  · subst h3
    by_cases a : nm = 0 <;> by_cases d : c = 0 <;> simp [Bool.cond_eq_ite, a, d] <;> (try omega)
  by_cases h4 : k = 4
  · subst h4
    by_cases a : nm = 0 <;> by_cases d : c = 0 <;> simp [Bool.cond_eq_ite, a, d] <;> (try omega)
  by_cases h5 : k = 5
  · subst h5
    by_cases a : nm = 0 <;> by_cases d : c ≥ 1 <;> by_cases e : c ≤ ks.length <;> simp [Bool.cond_eq_ite, a, d, e] <;> (try omega)
  by_cases h6 : k = 6
  · subst h6
    by_cases a : nm = 0 <;> by_cases d : c = 0 <;> by_cases e : ks.length = 1 <;> simp [Bool.cond_eq_ite, a, d, e] <;> (try omega)
  by_cases h7 : k = 7
  · subst h7
    by_cases a : nm = 0 <;> by_cases d : c ≥ 1 <;> by_cases e : c ≤ 1000 <;> by_cases f : ks.length = 1 <;> simp [Bool.cond_eq_ite, a, d, e, f] <;> (try omega)
  by_cases h8 : k = 8
  · subst h8
    by_cases a : nm = 0 <;> by_cases d : c ≥ 1 <;> by_cases e : c ≤ 1000 <;> by_cases f : ks.length = 1 <;> simp [Bool.cond_eq_ite, a, d, e, f] <;> (try omega)
  simp [Bool.cond_eq_ite, h1, h2, h3, h4, h5, h6, h7, h8]
theorem between_eq (n : Nat) (a b c : Int) : ref41_between n a b c = some (decide (b ≤ a ∧ a ≤ c)) := by
  unfold ref41_between
  by_cases h : a ≥ b <;> by_cases h' : a ≤ c <;> simp [h, h'] <;> omega
theorem single_eq (n : Nat) (t : Node) : ref41_single n t = some (fitsB t) := by
  obtain ⟨k, nm, c, ks⟩ := t
  unfold ref41_single fitsB
  simp only [between_eq, Option.bind_some]
  by_cases h1 : k = 1
  · subst h1
    by_cases a : nm ≥ 0 <;> by_cases b : nm ≤ 63 <;> by_cases d : c = 0 <;> by_cases e : ks.length = 0 <;> simp [Bool.cond_eq_ite, a, b, d, e] <;> (try omega)
  by_cases h2 : k = 2
  · subst h2
    by_cases a : nm ≥ 0 <;> by_cases b : nm ≤ 63 <;> by_cases d : c = 0 <;> by_cases e : ks.length = 0 <;> simp [Bool.cond_eq_ite, a, b, d, e] <;> (try omega)
  by_cases h3 : k = 3
  · subst h3
    by_cases a : nm = 0 <;> by_cases d : c = 0 <;> simp [Bool.cond_eq_ite, a, d] <;> (try omega)
  by_cases h4 : k = 4
  · subst h4
    by_cases a : nm = 0 <;> by_cases d : c = 0 <;> simp [Bool.cond_eq_ite, a, d] <;> (try omega)
  by_cases h5 : k = 5
  · subst h5
    by_cases a : nm = 0 <;> by_cases d : c ≥ 1 <;> by_cases e : c ≤ ks.length <;> by_cases f : (ks.length : Int) ≥ 1 <;> simp [Bool.cond_eq_ite, a, d, e, f] <;> (try omega)
  by_cases h6 : k = 6
  · subst h6
    by_cases a : nm = 0 <;> by_cases d : c = 0 <;> by_cases e : ks.length = 1 <;> simp [Bool.cond_eq_ite, a, d, e] <;> (try omega)
  by_cases h7 : k = 7
  · subst h7
    by_cases a : nm = 0 <;> by_cases d : c ≥ 1 <;> by_cases e : c ≤ 1000 <;> by_cases f : ks.length = 1 <;> simp [Bool.cond_eq_ite, a, d, e, f] <;> (try omega)
  by_cases h8 : k = 8
  · subst h8
    by_cases a : nm = 0 <;> by_cases d : c ≥ 1 <;> by_cases e : c ≤ 1000 <;> by_cases f : ks.length = 1 <;> simp [Bool.cond_eq_ite, a, d, e, f] <;> (try omega)
  simp [Bool.cond_eq_ite, h1, h2, h3, h4, h5, h6, h7, h8]
theorem all_take_step {p : Node → Bool} {l : List Node} {j : Nat} {k : Node} (h : l[j]? = some k) (h1 : (l.take j).all p = true) (h2 : p k = true) : (l.take (j + 1)).all p = true := by
  rw [List.take_add_one, h, List.all_append, h1]; simp [h2]
theorem all_false {p : Node → Bool} {l : List Node} {j : Nat} {k : Node} (h : l[j]? = some k) (h2 : p k = false) : l.all p = false := by
  rw [List.all_eq_false]; exact ⟨k, List.mem_of_getElem? h, by simp [h2]⟩
theorem valid_ok : ∀ (d : Nat) (t : Node), d ≤ 16 → nsz t ≤ 64 → Tot (fun n => tree_valid n t (d : Int)) (· = vld d t) := by
  intro d
  induction d with
  | zero =>
    intro t _ _
    refine Tot.succ ?_
    dsimp only [tree_valid, tree_valid_F]
    exact Tot.ret rfl
  | succ d ih =>
    intro t hd ht
    refine Tot.succ ?_
    dsimp only [tree_valid, tree_valid_F]
    simp only [Node.eta, fits_eq, Option.bind_some]
    rw [show (((d + 1 : Nat) : Int) == 0) = false from by simp; omega]
    dsimp only [cond_false]
    simp only [cond_false, Option.bind_some]
    have hk := nszs_len t.Kids
    rw [nsz_eq] at ht
    refine Tot.cond (fun hf => ?_) (fun hf => ?_)
    · refine Tot.ret ?_
      simp only [Bool.not_eq_true'] at hf
      simp [vld, hf]
    · simp only [Bool.not_eq_false'] at hf
      refine Tot.bind (Tot.mono (Q' := fun o : Out Unit Bool => (o = .go () ∧ t.Kids.all (vld d) = true) ∨ (o = .done false ∧ t.Kids.all (vld d) = false)) (Tot.loop (fun s : Int => ∃ j : Nat, s = (j : Int) ∧ j ≤ t.Kids.length ∧ (t.Kids.take j).all (vld d) = true) (fun s => t.Kids.length - s.toNat) ⟨0, rfl, by omega, by simp⟩ ?_) ?_)
      · rintro i ⟨j, rfl, hj, hall⟩
        dsimp only [tree_valid_L1]
        refine Tot.condD (fun hlt => ?_) (fun hge => ?_)
        · refine Tot.idx (by omega) (by omega) fun k hkk => ?_
          rw [Int.toNat_natCast] at hkk
          rw [Node.eta, w64 (by omega) (by omega), show ((d + 1 : Nat) : Int) - 1 = (d : Int) by omega]
          have hm := nszs_mem (List.mem_of_getElem? hkk)
          refine Tot.bind (Tot.mono (ih k (by omega) (by omega)) ?_)
          rintro _ rfl
          refine Tot.cond (fun hv => ?_) (fun hv => ?_)
          · simp only [Bool.not_eq_true'] at hv
            exact Tot.ret (.inr ⟨rfl, all_false hkk hv⟩)
          · simp only [Bool.not_eq_false'] at hv
            refine Tot.ret ?_
            dsimp only
            rw [w64 (by omega) (by omega)]
            exact ⟨⟨j + 1, by omega, by omega, all_take_step hkk hall hv⟩, by omega⟩
        · refine Tot.ret (.inl ⟨rfl, ?_⟩)
          rwa [List.take_of_length_le (by omega)] at hall
      · rintro _ (⟨rfl, h⟩ | ⟨rfl, h⟩)
        · exact Tot.ret (by simp [vld, hf, h])
        · exact Tot.ret (by simp [vld, hf, h])
theorem rvalid_ok : ∀ (d : Nat) (t : Node), d ≤ 16 → nsz t ≤ 64 → Tot (fun n => ref41_valid n t (d : Int)) (· = vld d t) := by
  intro d
  induction d with
  | zero =>
    intro t _ _
    refine Tot.succ ?_
    dsimp only [ref41_valid, ref41_valid_F]
    exact Tot.ret rfl
  | succ d ih =>
    intro t hd ht
    refine Tot.succ ?_
    dsimp only [ref41_valid, ref41_valid_F]
    simp only [Node.eta, single_eq, Option.bind_some]
    rw [show (((d + 1 : Nat) : Int) == 0) = false from by simp; omega]
    simp only [cond_false, Option.bind_some]
    have hk := nszs_len t.Kids
    rw [nsz_eq] at ht
    refine Tot.cond (fun hf => ?_) (fun hf => ?_)
    · refine Tot.ret ?_
      simp only [Bool.not_eq_true'] at hf
      simp [vld, hf]
    · simp only [Bool.not_eq_false'] at hf
      refine Tot.bind (Tot.mono (Q' := fun o : Out Unit Bool => (o = .go () ∧ t.Kids.all (vld d) = true) ∨ (o = .done false ∧ t.Kids.all (vld d) = false)) (Tot.loop (fun s : Int => ∃ j : Nat, s = (j : Int) ∧ j ≤ t.Kids.length ∧ (t.Kids.take j).all (vld d) = true) (fun s => t.Kids.length - s.toNat) ⟨0, rfl, by omega, by simp⟩ ?_) ?_)
      · rintro i ⟨j, rfl, hj, hall⟩
        dsimp only [ref41_valid_L1]
        refine Tot.condD (fun hlt => ?_) (fun hge => ?_)
        · refine Tot.idx (by omega) (by omega) fun k hkk => ?_
          rw [Int.toNat_natCast] at hkk
          rw [Node.eta, w64 (by omega) (by omega), show ((d + 1 : Nat) : Int) - 1 = (d : Int) by omega]
          have hm := nszs_mem (List.mem_of_getElem? hkk)
          refine Tot.bind (Tot.mono (ih k (by omega) (by omega)) ?_)
          rintro _ rfl
          refine Tot.cond (fun hv => ?_) (fun hv => ?_)
          · simp only [Bool.not_eq_true'] at hv
            exact Tot.ret (.inr ⟨rfl, all_false hkk hv⟩)
          · simp only [Bool.not_eq_false'] at hv
            refine Tot.ret ?_
            dsimp only
            rw [w64 (by omega) (by omega)]
            exact ⟨⟨j + 1, by omega, by omega, all_take_step hkk hall hv⟩, by omega⟩
        · refine Tot.ret (.inl ⟨rfl, ?_⟩)
          rwa [List.take_of_length_le (by omega)] at hall
      · rintro _ (⟨rfl, h⟩ | ⟨rfl, h⟩)
        · exact Tot.ret (by simp [vld, hf, h])
        · exact Tot.ret (by simp [vld, hf, h])
theorem Valid_ok (t : Node) : Evt (fun n => tree_Valid n t) (Vld t) := by
  refine Tot.of_eq ?_
  dsimp only [tree_Valid]
  simp only [Node.eta]
  refine Tot.bind (Tot.mono (Q' := (· = Vld t)) (Tot.bind ⟨_, Size_ok t, ?_⟩) (by rintro _ rfl; exact Tot.ret rfl))
  refine Tot.condD (fun h => ?_) (fun h => ?_)
  · have h64 : nsz t ≤ 64 := by omega
    refine Tot.bind (Tot.mono (valid_ok 16 t (by omega) h64) ?_)
    rintro _ rfl
    exact Tot.ret (by simp [Vld, h64])
  · exact Tot.ret (by have : ¬ nsz t ≤ 64 := by omega
                      simp [Vld, this])
theorem rValid_ok (t : Node) : Evt (fun n => ref41_Valid n t) (Vld t) := by
  refine Tot.of_eq ?_
  dsimp only [ref41_Valid]
  simp only [Node.eta]
  refine Tot.bind (Tot.mono (Q' := (· = Vld t)) (Tot.bind ⟨_, rSize_ok t, ?_⟩) (by rintro _ rfl; exact Tot.ret rfl))
  refine Tot.condD (fun h => ?_) (fun h => ?_)
  · have h64 : nsz t ≤ 64 := by omega
    refine Tot.bind (Tot.mono (rvalid_ok 16 t (by omega) h64) ?_)
    rintro _ rfl
    exact Tot.ret (by simp [Vld, h64])
  · exact Tot.ret (by have : ¬ nsz t ≤ 64 := by omega
                      simp [Vld, this])
end Go.Proofs.YtkhmdpekfcahkaaDoor

namespace Go.Proofs.YtkhmdpekfcahkaaDoor
open Go Go.Proofs.YtkhmdpekfcahkaaDoor.Gw
set_option linter.unusedVariables false

/- ### Strings as lists of bytes -/
def bs (l : List UInt8) : ByteArray := ⟨l.toArray⟩
theorem bs_toList (l : List UInt8) : (bs l).toList = l := by rw [Lib.toList_data]; rfl
theorem bs_size (l : List UInt8) : (bs l).size = l.length := rfl
theorem bs_app (a b : List UInt8) : bs a ++ bs b = bs (a ++ b) := by
  apply ByteArray.ext
  rw [ByteArray.data_append]
  simp [bs]
theorem beq_list (a b : List UInt8) : (a == b) = decide (a = b) := by
  by_cases h : a = b
  · simp [h]
  · simp [h]
/- ### Decimal numerals -/
theorem dec_small {u : Nat} (h : u < 10) : Lib.decDigits u = [UInt8.ofNat (48 + u)] := by rw [Lib.decDigits, dif_pos h]
theorem dec_big {u : Nat} (h : ¬ u < 10) : Lib.decDigits u = Lib.decDigits (u / 10) ++ [UInt8.ofNat (48 + u % 10)] := by rw [Lib.decDigits, dif_neg h]
theorem dec_len : ∀ (k r : Nat), r < 10 ^ (k + 1) → (Lib.decDigits r).length ≤ k + 1
  | 0, r, h => by rw [dec_small (by simpa using h)]; simp
  | k + 1, r, h => by
    by_cases h2 : r < 10
    · rw [dec_small h2]; simp
    · rw [dec_big h2, List.length_append]
      have := dec_len k (r / 10) (by rw [Nat.pow_succ] at h; omega)
      simp only [List.length_cons, List.length_nil]; omega
end Go.Proofs.YtkhmdpekfcahkaaDoor

namespace Go.Proofs.YtkhmdpekfcahkaaDoor
open Go Go.Proofs.YtkhmdpekfcahkaaDoor.Gw
set_option linter.unusedVariables false

/- ### The reference's text -/
end Go.Proofs.YtkhmdpekfcahkaaDoor

namespace Go.Proofs.YtkhmdpekfcahkaaDoor
open Go Go.Proofs.YtkhmdpekfcahkaaDoor.Gw
set_option linter.unusedVariables false

/- ### Reading: bytes -/
theorem bs_beq (a b : List UInt8) : ((bs a).toList == (bs b).toList) = decide (a = b) := by rw [bs_toList, bs_toList, beq_list]
/-- The sign and the digits of a text. -/
def split (l : List UInt8) : Bool × List UInt8 := match l with | [] => (false, []) | c :: d => if c = 45 then (true, d) else (false, c :: d)
/- ### Reading: numbers -/
end Go.Proofs.YtkhmdpekfcahkaaDoor

namespace Go.Proofs.YtkhmdpekfcahkaaDoor
open Go Go.Proofs.YtkhmdpekfcahkaaDoor.Gw
set_option linter.unusedVariables false

theorem Tot.cut {α β : Type} {f : Nat → Option α} {h : Nat → α → Option β} {Q : β → Prop} (r : α) (k : Tot f (· = r)) (k2 : Tot (fun n => h n r) Q) : Tot (fun n => (f n).bind (h n)) Q := Tot.bind (Tot.mono k (by rintro _ rfl; exact k2))
/- ### The text of a tree -/
def ltr (k : Int) : UInt8 := if k = 1 then 97 else if k = 2 then 116 else if k = 3 then 115 else if k = 4 then 102 else if k = 5 then 112 else if k = 6 then 105 else if k = 7 then 114 else 111
def dec (x : Int) : List UInt8 := Lib.decDigits x.toNat
def ctx (c : Int) : List UInt8 := if 0 < c then dec c else []
mutual
def txt : Node → List UInt8
  | .mk k nm c ks => if k = 1 ∨ k = 2 then ltr k :: dec nm else 40 :: ltr k :: (ctx c ++ (txts ks ++ [41]))
def txts : List Node → List UInt8
  | [] => []
  | t :: ts => 32 :: (txt t ++ txts ts)
end
theorem txt_leaf {t : Node} (h : t.Kind = 1 ∨ t.Kind = 2) : txt t = ltr t.Kind :: dec t.Name := by cases t; simp only [txt]; rw [if_pos h]
theorem txt_inner {t : Node} (h : ¬ (t.Kind = 1 ∨ t.Kind = 2)) : txt t = 40 :: ltr t.Kind :: (ctx t.Count ++ (txts t.Kids ++ [41])) := by cases t; simp only [txt]; rw [if_neg h]
theorem txts_app (a b : List Node) : txts (a ++ b) = txts a ++ txts b := by
  induction a with
  | nil => simp [txts]
  | cons x a ih => simp only [List.cons_append, txts, ih, List.append_assoc]
theorem txts_step {l : List Node} {j : Nat} {t : Node} (h : l[j]? = some t) : txts (l.take (j + 1)) = txts (l.take j) ++ 32 :: txt t := by
  rw [List.take_add_one, h, txts_app]; simp [txts]
theorem fit_cases {t : Node} (h : fitsB t = true) (hn : nsz t ≤ 64) : ((t.Kind = 1 ∨ t.Kind = 2) ∧ 0 ≤ t.Name ∧ t.Name < 64 ∧ t.Count = 0 ∧ t.Kids = []) ∨
    (3 ≤ t.Kind ∧ t.Kind ≤ 8 ∧ t.Name = 0 ∧ t.Count ≤ 1000 ∧ ((t.Kind = 5 ∨ t.Kind = 7 ∨ t.Kind = 8) ∧ 1 ≤ t.Count ∨ (t.Kind = 3 ∨ t.Kind = 4 ∨ t.Kind = 6) ∧ t.Count = 0)) := by
  have hk := nszs_len t.Kids
  rw [nsz_eq] at hn
  unfold fitsB at h
  split at h
  · rename_i h1
    simp only [decide_eq_true_eq] at h
    exact .inl ⟨h1, h.1, h.2.1, h.2.2.1, List.eq_nil_of_length_eq_zero h.2.2.2⟩
  · right
    split at h
    · simp only [decide_eq_true_eq] at h; omega
    · split at h
      · simp only [decide_eq_true_eq] at h; omega
      · split at h
        · simp only [decide_eq_true_eq] at h; omega
        · split at h
          · simp only [decide_eq_true_eq] at h; omega
          · cases h
theorem vld_fit {d : Nat} {t : Node} (h : vld d t = true) : ∃ d', d = d' + 1 ∧ fitsB t = true ∧ ∀ k ∈ t.Kids, vld d' k = true := by
  cases d with
  | zero => simp [vld] at h
  | succ d =>
    simp only [vld, Bool.and_eq_true, List.all_eq_true] at h
    exact ⟨d, rfl, h.1, h.2⟩
theorem dec_small3 {x : Int} (h : x < 64) : (dec x).length ≤ 2 := dec_len 1 x.toNat (by omega)
theorem dec_small4 {x : Int} (h : x ≤ 1000) : (dec x).length ≤ 4 := dec_len 3 x.toNat (by omega)
theorem ctx_len {x : Int} (h : x ≤ 1000) : (ctx x).length ≤ 4 := by
  unfold ctx; split
  · exact dec_small4 h
  · simp
theorem txt_len : ∀ (d : Nat) (t : Node), vld d t = true → nsz t ≤ 64 → (txt t).length + 1 ≤ 8 * nsz t := by
  intro d
  induction d with
  | zero => intro t h; simp [vld] at h
  | succ d ih =>
    intro t h hn
    obtain ⟨_, rfl', hf, hks⟩ := vld_fit h
    cases rfl'
    have key : ∀ (l : List Node), (∀ x ∈ l, vld d x = true) → nszs l ≤ 64 → (txts l).length ≤ 8 * nszs l := by
      intro l
      induction l with
      | nil => intro _ _; simp [txts]
      | cons x l ihl =>
        intro hl hm
        simp only [nszs] at hm ⊢
        simp only [txts, List.length_cons, List.length_append]
        have h1 := ih x (hl x (by simp)) (by omega)
        have h2 := ihl (fun y hy => hl y (by simp [hy])) (by omega)
        omega
    rcases fit_cases hf hn with ⟨h1, h2, h3, h4, h5⟩ | ⟨h1, h2, h3, h4, h5⟩
    · rw [txt_leaf h1, nsz_eq, h5]
      have := dec_small3 h3
      simp only [List.length_cons, nszs]; omega
    · rw [txt_inner (by omega)]
      rw [nsz_eq] at hn ⊢
      have h6 := key t.Kids hks (by omega)
      have h7 := ctx_len h4
      simp only [List.length_cons, List.length_append, List.length_nil]; omega
theorem txts_len {d : Nat} (l : List Node) (hl : ∀ x ∈ l, vld d x = true) (hm : nszs l ≤ 64) : (txts l).length ≤ 8 * nszs l := by
  induction l with
  | nil => simp [txts]
  | cons x l ihl =>
    simp only [nszs] at hm ⊢
    simp only [txts, List.length_cons, List.length_append]
    have h1 := txt_len d x (hl x (by simp)) (by omega)
    have h2 := ihl (fun y hy => hl y (by simp [hy])) (by omega)
    omega
/- ### Numbers of bytes -/
def nu (l : List UInt8) : List Int := l.map fun b => (b.toNat : Int)
theorem strNums_bs (l : List UInt8) : strNums (bs l) = nu l := rfl
theorem nu_len (a : List UInt8) : (nu a).length = a.length := List.length_map _
theorem bytesO_nu : ∀ l : List UInt8, bytesO (nu l) = some l
  | [] => rfl
  | b :: l => by
    have hb : b.toNat < 256 := b.toNat_lt
    show (if 0 ≤ (b.toNat : Int) ∧ (b.toNat : Int) < 256 then (bytesO (nu l)).map ((b.toNat : Int).toNat.toUInt8 :: ·) else none) = _
    rw [if_pos (by omega), bytesO_nu l]
    have : ((b.toNat : Int).toNat).toUInt8 = b := by
      rw [Int.toNat_natCast]
      apply UInt8.toNat_inj.1
      show b.toNat % 256 = b.toNat
      omega
    simp
theorem strO_nu (l : List UInt8) : strO (nu l) = some (bs l) := by unfold strO; rw [bytesO_nu]; rfl
theorem ltr_cases {k : Int} (h1 : 1 ≤ k) (h8 : k ≤ 8) : k = 1 ∨ k = 2 ∨ k = 3 ∨ k = 4 ∨ k = 5 ∨ k = 6 ∨ k = 7 ∨ k = 8 := by omega
theorem letter_ok (n : Nat) {k : Int} (h1 : 1 ≤ k) (h8 : k ≤ 8) : tree_letter n k = some ((ltr k).toNat : Int) := by
  rcases ltr_cases h1 h8 with rfl | rfl | rfl | rfl | rfl | rfl | rfl | rfl <;> rfl
theorem itoa_nat {x : Int} (h : 0 ≤ x) : Lib.itoa x = dec x := by
  unfold Lib.itoa dec; rw [if_neg (by omega)]
theorem Itoa_ok (n : Nat) {x : Int} (h0 : 0 ≤ x) (h1 : x ≤ 1000000) : strconv_Itoa n x = some (bs (dec x)) := by
  unfold strconv_Itoa; rw [if_pos (by omega), itoa_nat h0]; rfl
theorem leafQ (k : Int) : (cond (k == 1) (some true) (some (k == 2)) : Option Bool) = some (decide (k = 1 ∨ k = 2)) := by
  by_cases h : k = 1
  · rw [show (k == 1) = true by simp [h]]; simp [h]
  · rw [show (k == 1) = false by simp [h]]; simp [h]; rfl
theorem app_ok {α : Type} {xs ys : List α} (h : xs.length + ys.length ≤ 1099511627776) : app xs ys = some (xs ++ ys) := if_pos h
theorem WriteByte_ok {b : List Int} {c : Int} (hb : b.length ≤ 1000000) (n : Nat) : strings_Builder_WriteByte n (Builder.mk () b) c = some ((), Builder.mk () (b ++ [c])) := by
  unfold strings_Builder_WriteByte strings_Builder_copyCheck
  simp only [Option.bind_some]
  rw [app_ok (by simp; omega)]; rfl
theorem WriteString_ok {b : List Int} {l : List UInt8} (hb : b.length + l.length ≤ 1000000) (n : Nat) : strings_Builder_WriteString n (Builder.mk () b) (bs l) = some ((l.length : Int), (), Builder.mk () (b ++ nu l)) := by
  unfold strings_Builder_WriteString strings_Builder_copyCheck
  simp only [Option.bind_some, strNums_bs]
  rw [app_ok (by rw [nu_len]; omega)]; rfl
theorem write_ok : ∀ (d : Nat) (t : Node), vld d t = true → nsz t ≤ 64 → ∀ b : List Int, b.length + 8 * nsz t ≤ 100000 → Tot (fun n => tree_write n (Builder.mk () b) t) (· = Builder.mk () (b ++ nu (txt t))) := by
  intro d
  induction d with
  | zero => intro t h; simp [vld] at h
  | succ d ih =>
    intro t h hn b hb
    obtain ⟨_, rfl', hf, hks⟩ := vld_fit h
    cases rfl'
    have hlen := txt_len _ t h hn
    refine Tot.succ ?_
    dsimp only [tree_write, tree_write_F]
    simp only [leafQ, Option.bind_some]
    rcases fit_cases hf hn with ⟨h1, h2, h3, h4, h5⟩ | ⟨h1, h2, h3, h4, h5⟩
    · rw [txt_leaf h1] at hlen ⊢
      simp only [List.length_cons] at hlen
      simp only [decide_eq_true h1, cond_true, letter_ok _ (show 1 ≤ t.Kind by omega) (show t.Kind ≤ 8 by omega), Option.bind_some, WriteByte_ok (show b.length ≤ 1000000 by omega), Itoa_ok _ h2 (show t.Name ≤ 1000000 by omega)]
      rw [show (fun n => (strings_Builder_WriteString n (Builder.mk () (b ++ [((ltr t.Kind).toNat : Int)])) (bs (dec t.Name))).bind fun x => some (Builder.mk () x.2.2.buf)) = fun n => some (Builder.mk () (b ++ [((ltr t.Kind).toNat : Int)] ++ nu (dec t.Name))) from by
        funext n; rw [WriteString_ok (by simp; omega)]; rfl]
      exact Tot.ret (by rw [List.append_assoc]; rfl)
    · have hnl : ¬ (t.Kind = 1 ∨ t.Kind = 2) := by omega
      rw [txt_inner hnl] at hlen ⊢
      simp only [List.length_cons, List.length_append, List.length_nil] at hlen
      simp only [decide_eq_false hnl, cond_false, letter_ok _ (show 1 ≤ t.Kind by omega) (show t.Kind ≤ 8 by omega), Option.bind_some, WriteByte_ok (show b.length ≤ 1000000 by omega), WriteByte_ok (show (b ++ [(40 : Int)]).length ≤ 1000000 by simp; omega)]
      have hc := ctx_len h4
      refine Tot.cut (b ++ nu (40 :: ltr t.Kind :: ctx t.Count)) ?_ ?_
      · refine Tot.condD (fun hc => ?_) (fun hc => ?_)
        · simp only [Itoa_ok _ (show 0 ≤ t.Count by omega) (show t.Count ≤ 1000000 by omega), Option.bind_some]
          have hc4 := dec_small4 h4
          rw [show (fun n => (strings_Builder_WriteString n (Builder.mk () (b ++ [(40 : Int)] ++ [((ltr t.Kind).toNat : Int)])) (bs (dec t.Count))).bind fun x => some x.2.2.buf) = fun n => some (b ++ [(40 : Int)] ++ [((ltr t.Kind).toNat : Int)] ++ nu (dec t.Count)) from by
            funext n; rw [WriteString_ok (by simp; omega)]; rfl]
          refine Tot.ret ?_
          unfold ctx; rw [if_pos (by omega)]
          simp [nu]
        · refine Tot.ret ?_
          unfold ctx; rw [if_neg (by omega)]
          simp [nu]
      · have hm : nszs t.Kids ≤ 64 := by rw [nsz_eq] at hn; omega
        have hkl := nszs_len t.Kids
        refine Tot.cut (b ++ nu (40 :: ltr t.Kind :: (ctx t.Count ++ txts t.Kids))) ?_ ?_
        · refine Tot.mono (Tot.loop (Q := (· = b ++ nu (40 :: ltr t.Kind :: (ctx t.Count ++ txts t.Kids)))) (fun s : List Int × Int => ∃ j : Nat, s.2 = (j : Int) ∧ j ≤ t.Kids.length ∧ s.1 = b ++ nu (40 :: ltr t.Kind :: (ctx t.Count ++ txts (t.Kids.take j)))) (fun s => t.Kids.length - s.2.toNat) ⟨0, rfl, by omega, by simp [txts]⟩ ?_) (fun _ h => h)
          rintro ⟨_, i⟩ ⟨j, rfl, hj, rfl⟩
          dsimp only [tree_write_L1]
          refine Tot.condD (fun hlt => ?_) (fun hge => ?_)
          · refine Tot.idx (by omega) (by omega) fun k hk => ?_
            rw [Int.toNat_natCast] at hk
            have hst := nszs_step hk
            have hb1 := nszs_take t.Kids (j + 1)
            have htx := txts_step hk
            have hkm := List.mem_of_getElem? hk
            have hl := txts_len (t.Kids.take j) (fun x hx => hks x (List.mem_of_mem_take hx)) (by have := nszs_take t.Kids j; omega)
            rw [nsz_eq] at hb
            have hbl : (b ++ nu (40 :: ltr t.Kind :: (ctx t.Count ++ txts (t.Kids.take j)))).length ≤ b.length + 6 + 8 * nszs (t.Kids.take j) := by
              simp only [List.length_append, nu_len, List.length_cons]; omega
            simp only [WriteByte_ok (show (b ++ nu (40 :: ltr t.Kind :: (ctx t.Count ++ txts (t.Kids.take j)))).length ≤ 1000000 by omega), Option.bind_some, Node.eta]
            refine Tot.bind (Tot.mono (ih k (hks k hkm) (by omega) _ (by rw [List.length_append]; simp only [List.length_cons, List.length_nil]; omega)) ?_)
            rintro _ rfl
            refine Tot.ret ?_
            dsimp only
            rw [w64 (by omega) (by omega)]
            refine ⟨⟨j + 1, by omega, by omega, ?_⟩, by omega⟩
            rw [htx]; simp [nu]
          · refine Tot.ret ?_
            dsimp only
            rw [List.take_of_length_le (show t.Kids.length ≤ j by omega)]
        · have hl := txts_len t.Kids hks hm
          rw [nsz_eq] at hb
          simp only [WriteByte_ok (show (b ++ nu (40 :: ltr t.Kind :: (ctx t.Count ++ txts t.Kids))).length ≤ 1000000 by simp only [List.length_append, nu_len, List.length_cons]; omega), Option.bind_some]
          refine Tot.ret ?_
          simp [nu]
theorem Vld_iff {t : Node} (h : Vld t = true) : nsz t ≤ 64 ∧ vld 16 t = true := by
  simpa only [Vld, Bool.and_eq_true, decide_eq_true_eq] using h
theorem Text_ok (t : Node) : Evt (fun n => tree_Text n t) (bs (if Vld t then txt t else [])) := by
  refine Tot.of_eq ?_
  dsimp only [tree_Text]
  refine Tot.bind ⟨_, Valid_ok t, ?_⟩
  refine Tot.cond (fun h => ?_) (fun h => ?_)
  · obtain ⟨hn, hv⟩ := Vld_iff h
    refine Tot.bind (Tot.mono (write_ok 16 t hv hn [] (by simp only [List.length_nil]; omega)) ?_)
    rintro _ rfl
    rw [if_pos h]
    exact Tot.val (strO_nu _) rfl
  · rw [if_neg (by rw [h]; simp)]
    exact Tot.ret rfl
end Go.Proofs.YtkhmdpekfcahkaaDoor

namespace Go.Proofs.YtkhmdpekfcahkaaDoor
open Go Go.Proofs.YtkhmdpekfcahkaaDoor.Gw
set_option linter.unusedVariables false

/- ### The reference's text -/
theorem str_dig {x : Int} (h : 0 ≤ x) : strOfNums [IntKind.u8.wrap (IntKind.i64.wrap (48 + (x.tmod 10)))] = bs [UInt8.ofNat (48 + x.toNat % 10)] := by
  have e : x.tmod 10 = ((x.toNat % 10 : Nat) : Int) := by
    obtain ⟨m, rfl⟩ := Int.eq_ofNat_of_zero_le h
    rw [Int.toNat_natCast]; exact (Int.ofNat_tmod m 10).symm
  have h10 : x.toNat % 10 < 10 := Nat.mod_lt _ (by omega)
  rw [e, w64 (by omega) (by omega), wu8 (by omega) (by omega)]
  generalize x.toNat % 10 = r at h10
  have : r = 0 ∨ r = 1 ∨ r = 2 ∨ r = 3 ∨ r = 4 ∨ r = 5 ∨ r = 6 ∨ r = 7 ∨ r = 8 ∨ r = 9 := by omega
  rcases this with rfl | rfl | rfl | rfl | rfl | rfl | rfl | rfl | rfl | rfl <;> rfl
theorem Number_ok : ∀ (k : Nat), k ≤ 6 → ∀ (x : Int), 0 ≤ x → x < 10 ^ (k + 1) → Tot (fun n => ref41_Number n x) (· = bs (dec x)) := by
  intro k
  induction k with
  | zero =>
    intro _ x h0 h1
    refine Tot.succ ?_
    dsimp only [ref41_Number, ref41_Number_F]
    rw [decide_eq_true (show x < 10 by simpa using h1), str_dig h0]
    refine Tot.ret ?_
    unfold dec
    rw [dec_small (by omega), Nat.mod_eq_of_lt (by omega)]
  | succ k ih =>
    intro hk x h0 h1
    refine Tot.succ ?_
    dsimp only [ref41_Number, ref41_Number_F]
    rw [str_dig h0]
    refine Tot.condD (fun hlt => ?_) (fun hge => ?_)
    · refine Tot.ret ?_
      unfold dec
      rw [dec_small (by omega), Nat.mod_eq_of_lt (by omega)]
    · have e : x.tdiv 10 = ((x.toNat / 10 : Nat) : Int) := by
        obtain ⟨m, rfl⟩ := Int.eq_ofNat_of_zero_le h0
        rw [Int.toNat_natCast]; exact (Int.ofNat_tdiv m 10).symm
      have hb : x < 100000000 := by
        have : (10 : Int) ^ (k + 1 + 1) ≤ 10 ^ 8 := by
          have h2 : (10 : Nat) ^ (k + 1 + 1) ≤ 10 ^ 8 := Nat.pow_le_pow_right (by omega) (by omega)
          exact_mod_cast h2
        omega
      have hx : x.tdiv 10 < 10 ^ (k + 1) := by
        rw [e]
        have h2 : x.toNat < 10 ^ (k + 1) * 10 := by
          have h3 : ((x.toNat : Nat) : Int) < ((10 ^ (k + 1) * 10 : Nat) : Int) := by
            rw [Int.toNat_of_nonneg h0]; push_cast; rw [Int.pow_succ] at h1; exact h1
          exact_mod_cast h3
        have h3 := Nat.div_lt_of_lt_mul (show x.toNat < 10 * 10 ^ (k + 1) by omega)
        exact_mod_cast h3
      rw [w64 (by omega) (by omega)]
      refine Tot.bind (Tot.mono (ih (by omega) _ (by omega) hx) ?_)
      rintro _ rfl
      have hl := dec_len 7 x.toNat (by omega)
      have hd : dec x = dec (x.tdiv 10) ++ [UInt8.ofNat (48 + x.toNat % 10)] := by
        unfold dec
        rw [dec_big (show ¬ x.toNat < 10 by omega), e, Int.toNat_natCast]
      have hl2 : (dec x).length ≤ 8 := hl
      rw [hd, List.length_append] at hl2
      simp only [List.length_cons, List.length_nil] at hl2
      rw [bs_size, bs_size]
      refine Tot.need (by simp only [List.length_cons, List.length_nil]; omega) ?_
      refine Tot.ret ?_
      rw [bs_app, hd]
theorem Num_ok {x : Int} (h0 : 0 ≤ x) (h1 : x ≤ 1000) : Tot (fun n => ref41_Number n x) (· = bs (dec x)) := Number_ok 3 (by omega) x h0 (by omega)
theorem bidx_ltr {k : Int} (h1 : 3 ≤ k) (h8 : k ≤ 8) : bidx (ByteArray.mk #[32, 32, 32, 115, 102, 112, 105, 114, 111]) k = some ((ltr k).toNat : Int) := by
  rcases ltr_cases (by omega : 1 ≤ k) h8 with rfl | rfl | rfl | rfl | rfl | rfl | rfl | rfl <;> first | omega | rfl
theorem str_ltr {k : Int} (h1 : 3 ≤ k) (h8 : k ≤ 8) : strOfNums [((ltr k).toNat : Int)] = bs [ltr k] := by
  rcases ltr_cases (by omega : 1 ≤ k) h8 with rfl | rfl | rfl | rfl | rfl | rfl | rfl | rfl <;> first | omega | rfl
theorem rtext_ok : ∀ (d : Nat) (t : Node), vld d t = true → nsz t ≤ 64 → Tot (fun n => ref41_text n t) (· = bs (txt t)) := by
  intro d
  induction d with
  | zero => intro t h; simp [vld] at h
  | succ d ih =>
    intro t h hn
    obtain ⟨_, rfl', hf, hks⟩ := vld_fit h
    cases rfl'
    have hlen := txt_len _ t h hn
    refine Tot.succ ?_
    dsimp only [ref41_text, ref41_text_F]
    rcases fit_cases hf hn with ⟨h1, h2, h3, h4, h5⟩ | ⟨h1, h2, h3, h4, h5⟩
    · rw [txt_leaf h1] at hlen ⊢
      have hd2 := dec_small3 h3
      refine Tot.condE (fun hk => ?_) (fun hk => ?_)
      · refine Tot.bind (Tot.mono (Num_ok h2 (by omega)) ?_)
        rintro _ rfl
        rw [show (ByteArray.mk #[97]) = bs [97] from rfl, bs_size, bs_size]
        refine Tot.need (by simp only [List.length_cons, List.length_nil]; omega) (Tot.ret ?_)
        rw [bs_app, hk]; rfl
      · have hk2 : t.Kind = 2 := by omega
        rw [show (t.Kind == 2) = true by simp [hk2]]
        simp only [cond_true]
        refine Tot.bind (Tot.mono (Num_ok h2 (by omega)) ?_)
        rintro _ rfl
        rw [show (ByteArray.mk #[116]) = bs [116] from rfl, bs_size, bs_size]
        refine Tot.need (by simp only [List.length_cons, List.length_nil]; omega) (Tot.ret ?_)
        rw [bs_app, hk2]; rfl
    · have hnl : ¬ (t.Kind = 1 ∨ t.Kind = 2) := by omega
      rw [txt_inner hnl] at hlen ⊢
      simp only [List.length_cons, List.length_append, List.length_nil] at hlen
      rw [show (t.Kind == 1) = false by simp; omega, show (t.Kind == 2) = false by simp; omega]
      simp only [cond_false, bidx_ltr h1 h2, Option.bind_some, str_ltr h1 h2]
      rw [show (ByteArray.mk #[40]) = bs [40] from rfl, bs_size, bs_size, bs_app]
      refine Tot.need (by simp only [List.length_cons, List.length_nil]; omega) ?_
      have hc := ctx_len h4
      have hm : nszs t.Kids ≤ 64 := by rw [nsz_eq] at hn; omega
      have hkl := nszs_len t.Kids
      refine Tot.cut (bs (40 :: ltr t.Kind :: ctx t.Count)) ?_ ?_
      · refine Tot.condD (fun hc => ?_) (fun hc => ?_)
        · have hc4 := dec_small4 h4
          refine Tot.bind (Tot.mono (Num_ok (show 0 ≤ t.Count by omega) h4) ?_)
          rintro _ rfl
          rw [bs_size, bs_size]
          refine Tot.need (by simp only [List.length_append, List.length_cons, List.length_nil]; omega) (Tot.ret ?_)
          unfold ctx; rw [if_pos (by omega), bs_app]; rfl
        · refine Tot.ret ?_
          unfold ctx; rw [if_neg (by omega)]; rfl
      · refine Tot.cut (bs (40 :: ltr t.Kind :: (ctx t.Count ++ txts t.Kids))) ?_ ?_
        · refine Tot.mono (Tot.loop (Q := (· = bs (40 :: ltr t.Kind :: (ctx t.Count ++ txts t.Kids)))) (fun s : ByteArray × Int => ∃ j : Nat, s.2 = (j : Int) ∧ j ≤ t.Kids.length ∧ s.1 = bs (40 :: ltr t.Kind :: (ctx t.Count ++ txts (t.Kids.take j)))) (fun s => t.Kids.length - s.2.toNat) ⟨0, rfl, by omega, by simp [txts]⟩ ?_) (fun _ h => h)
          rintro ⟨_, i⟩ ⟨j, rfl, hj, rfl⟩
          dsimp only [ref41_text_L1]
          refine Tot.condD (fun hlt => ?_) (fun hge => ?_)
          · refine Tot.idx (by omega) (by omega) fun k hk => ?_
            rw [Int.toNat_natCast] at hk
            have hst := nszs_step hk
            have hb1 := nszs_take t.Kids (j + 1)
            have htx := txts_step hk
            have hkm := List.mem_of_getElem? hk
            have hl := txts_len (t.Kids.take j) (fun x hx => hks x (List.mem_of_mem_take hx)) (by have := nszs_take t.Kids j; omega)
            have hlk := txt_len d k (hks k hkm) (by omega)
            simp only [Node.eta]
            refine Tot.bind (Tot.mono (ih k (hks k hkm) (by omega)) ?_)
            rintro _ rfl
            rw [show (ByteArray.mk #[32]) = bs [32] from rfl, bs_app, bs_size, bs_size, bs_size, bs_size]
            refine Tot.need (by simp only [List.length_cons, List.length_nil]; omega) ?_
            refine Tot.need (by simp only [List.length_cons, List.length_append, List.length_nil]; omega) ?_
            refine Tot.ret ?_
            dsimp only
            rw [w64 (by omega) (by omega)]
            refine ⟨⟨j + 1, by omega, by omega, ?_⟩, by omega⟩
            rw [htx, bs_app]; simp
          · refine Tot.ret ?_
            dsimp only
            rw [List.take_of_length_le (show t.Kids.length ≤ j by omega)]
        · have hl := txts_len t.Kids hks hm
          rw [show (ByteArray.mk #[41]) = bs [41] from rfl, bs_size, bs_size]
          refine Tot.need (by simp only [List.length_cons, List.length_append, List.length_nil]; omega) (Tot.ret ?_)
          rw [bs_app]; simp
theorem rText_ok (t : Node) : Evt (fun n => ref41_Text n t) (bs (if Vld t then txt t else [])) := by
  refine Tot.of_eq ?_
  dsimp only [ref41_Text]
  simp only [Node.eta]
  refine Tot.bind ⟨_, rValid_ok t, ?_⟩
  refine Tot.cond (fun h => ?_) (fun h => ?_)
  · simp only [Bool.not_eq_true'] at h
    rw [if_neg (by rw [h]; simp)]
    exact Tot.ret rfl
  · simp only [Bool.not_eq_false'] at h
    obtain ⟨hn, hv⟩ := Vld_iff h
    refine Tot.bind (Tot.mono (rtext_ok 16 t hv hn) ?_)
    rintro _ rfl
    rw [if_pos h]
    exact Tot.ret rfl
/- ### Trees that are the same -/
end Go.Proofs.YtkhmdpekfcahkaaDoor

namespace Go.Proofs.YtkhmdpekfcahkaaDoor
open Go Go.Proofs.YtkhmdpekfcahkaaDoor.Gw
set_option linter.unusedVariables false

/- ### The tree of a mission -/
def segN (i : Nat) (t : Task) : Node := .mk 8 0 t.Limit [.mk 7 0 t.Tries [.mk 4 0 0 [.mk 2 (i : Int) 0 [], .mk 1 (i : Int) 0 [], .mk 3 0 0 [.mk 1 ((32 + i : Nat) : Int) 0 [], .mk 2 63 0 []]]]]
def segs : Nat → List Task → List Node
  | _, [] => []
  | i, t :: ts => segN i t :: segs (i + 1) ts
def mT (T : List Task) : Node := .mk 3 0 0 (segs 0 T)
theorem get_some {α : Type} {l : List α} {i : Nat} (h : i < l.length) : ∃ v, l[i]? = some v ∧ idx l (i : Int) = some v := ⟨l[i], List.getElem?_eq_getElem h, by rw [idx_nat]; exact List.getElem?_eq_getElem h⟩
theorem seg_sz (i : Nat) (t : Task) : nsz (segN i t) = 8 := rfl
theorem segs_sz : ∀ (T : List Task) (i : Nat), nszs (segs i T) = 8 * T.length
  | [], i => rfl
  | t :: T, i => by simp only [segs, nszs, seg_sz, segs_sz T, List.length_cons]; omega
def goodB (t : Task) : Bool := decide (((t.Kind = 1 ∧ 0 ≤ t.Cell.X ∧ t.Cell.X ≤ 63 ∧ 0 ≤ t.Cell.Y ∧ t.Cell.Y ≤ 63) ∨ ((t.Kind = 2 ∨ t.Kind = 3) ∧ t.Cell.X = 0 ∧ t.Cell.Y = 0)) ∧ (1 ≤ t.Limit ∧ t.Limit ≤ 1000) ∧ 1 ≤ t.Tries ∧ t.Tries ≤ 10)
theorem within_eq (n : Nat) (a b c : Int) : mission_within n a b c = some (decide (b ≤ a ∧ a ≤ c)) := by
  unfold mission_within
  by_cases h : a ≥ b <;> by_cases h' : a ≤ c <;> simp [h, h'] <;> omega
theorem cond_and (p q : Bool) : cond p (some q) (some false) = some (p && q) := by cases p <;> rfl
theorem valid_eq (n : Nat) (t : Task) : mission_valid n t = some (goodB t) := by
  obtain ⟨k, ⟨x, y⟩, l, r⟩ := t
  unfold mission_valid goodB
  simp only [within_eq, Option.bind_some, cond_and]
  by_cases h1 : k = 1
  · subst h1
    simp only [beq_self_eq_true, cond_true, Option.bind_some, Option.some.injEq]
    rw [Bool.eq_iff_iff]
    simp only [Bool.and_eq_true, decide_eq_true_eq]
    constructor
    · rintro ⟨⟨h1, h2⟩, ⟨h3, h4⟩, ⟨h5, h6⟩, h7, h8⟩
      simp
      omega
    · rintro ⟨h1, ⟨h2, h3⟩, h4, h5⟩
      simp at h1
      omega
  rw [beq_eq_false_iff_ne.2 h1]
  by_cases h2 : k = 2
  · subst h2
    simp only [beq_self_eq_true, cond_true, cond_false, Option.bind_some, Option.some.injEq]
    rw [Bool.eq_iff_iff]
    simp only [Bool.and_eq_true, decide_eq_true_eq]
    constructor
    · rintro ⟨⟨h1, h2⟩, ⟨h3, h4⟩, ⟨h5, h6⟩, h7, h8⟩
      simp
      omega
    · rintro ⟨h1, ⟨h2, h3⟩, h4, h5⟩
      simp at h1
      omega
  rw [beq_eq_false_iff_ne.2 h2]
  by_cases h3 : k = 3
  · subst h3
    simp only [beq_self_eq_true, cond_true, cond_false, Option.bind_some, Option.some.injEq]
    rw [Bool.eq_iff_iff]
    simp only [Bool.and_eq_true, decide_eq_true_eq]
    constructor
    · rintro ⟨⟨h1, h2⟩, ⟨h3, h4⟩, ⟨h5, h6⟩, h7, h8⟩
      simp
      omega
    · rintro ⟨h1, ⟨h2, h3⟩, h4, h5⟩
      simp at h1
      omega
  rw [beq_eq_false_iff_ne.2 h3]
  simp only [cond_false, Option.bind_some, Option.some.injEq]
  symm
  rw [decide_eq_false_iff_not]
  omega
theorem segs_app : ∀ (a b : List Task) (i : Nat), segs i (a ++ b) = segs i a ++ segs (i + a.length) b
  | [], b, i => by simp [segs]
  | t :: a, b, i => by simp only [List.cons_append, segs, segs_app a b, List.length_cons]; rw [show i + 1 + a.length = i + (a.length + 1) by omega]
theorem segs_len : ∀ (T : List Task) (i : Nat), (segs i T).length = T.length
  | [], i => rfl
  | t :: T, i => by simp only [segs, List.length_cons, segs_len T]
def codeM (T : List Task) : Int := if T.length > 7 then 6 else if T.all goodB then 0 else 1
theorem all_take {α : Type} {p : α → Bool} {l : List α} {j : Nat} {k : α} (h : l[j]? = some k) (h1 : (l.take j).all p = true) (h2 : p k = true) : (l.take (j + 1)).all p = true := by
  rw [List.take_add_one, h, List.all_append, h1]; simp [h2]
theorem all_not {α : Type} {p : α → Bool} {l : List α} {j : Nat} {k : α} (h : l[j]? = some k) (h2 : p k = false) : l.all p = false := by
  rw [List.all_eq_false]; exact ⟨k, List.mem_of_getElem? h, by simp [h2]⟩
theorem Build_eq (T : List Task) : Evt (fun n => mission_Build n T) (if codeM T = 0 then mT T else Node.mk 0 0 0 [], codeM T) := by
  refine Tot.of_eq ?_
  dsimp only [mission_Build]
  unfold codeM
  refine Tot.condD (fun h => ?_) (fun h => ?_)
  · refine Tot.ret ?_
    rw [if_pos (show T.length > 7 by omega)]; rfl
  rw [if_neg (show ¬ T.length > 7 by omega)]
  refine Tot.bind (Tot.mono (Q' := fun o : Out (List Node) (Node × Int) => (o = .go (segs 0 T) ∧ T.all goodB = true) ∨ (o = .done (Node.mk 0 0 0 [], 1) ∧ T.all goodB = false)) (Tot.loop (fun s => ∃ j : Nat, j ≤ T.length ∧ s = (segs 0 (T.take j), (j : Int)) ∧ (T.take j).all goodB = true) (fun s => T.length - s.2.toNat) ⟨0, by omega, rfl, rfl⟩ ?_) ?_)
  · rintro _ ⟨j, hj, rfl, hall⟩
    dsimp only [mission_Build_L1]
    refine Tot.condD (fun hlt => ?_) (fun hge => ?_)
    · obtain ⟨t, t1, t2⟩ := get_some (l := T) (i := j) (by omega)
      refine Tot.idxv t2 ?_
      refine Tot.bind (Tot.at_ (fun n => valid_eq n t) ?_)
      refine Tot.cond (fun hv => ?_) (fun hv => ?_)
      · simp only [Bool.not_eq_true'] at hv
        exact Tot.ret (.inr ⟨rfl, all_not t1 hv⟩)
      · simp only [Bool.not_eq_false'] at hv
        refine Tot.bind (Tot.at_ (fun n => rfl) ?_)
        refine Tot.app (by rw [segs_len, List.length_take]; simp; omega) (Tot.ret ?_)
        dsimp only
        rw [w64 (by omega) (by omega), w64 (by omega) (by omega)]
        refine ⟨⟨j + 1, by omega, ?_, all_take t1 hall hv⟩, by omega⟩
        rw [List.take_add_one, t1, segs_app]
        simp only [List.length_take, Option.toList_some, segs]
        rw [show 0 + min j T.length = j by omega]
        rfl
    · refine Tot.ret (.inl ?_)
      rw [List.take_of_length_le (by omega)] at hall ⊢
      exact ⟨rfl, hall⟩
  · rintro _ (⟨rfl, h⟩ | ⟨rfl, h⟩)
    · exact Tot.ret (by rw [h]; rfl)
    · exact Tot.ret (by rw [h]; rfl)
theorem vld_seg {i : Nat} {t : Task} (h : goodB t = true) (hi : i < 8) : ∀ d, 5 ≤ d → vld d (segN i t) = true := by
  intro d hd
  obtain ⟨e, rfl⟩ : ∃ e, d = e + 5 := ⟨d - 5, by omega⟩
  simp only [goodB, decide_eq_true_eq] at h
  simp [segN, vld, fitsB]
  omega
theorem vld_segs : ∀ (T : List Task) (i : Nat), T.all goodB = true → i + T.length ≤ 8 → (segs i T).all (vld 15) = true
  | [], i, _, _ => rfl
  | t :: T, i, h, hi => by
    simp only [List.all_cons, Bool.and_eq_true] at h
    simp only [List.length_cons] at hi
    simp only [segs, List.all_cons, vld_seg h.1 (by omega : i < 8) 15 (by omega), vld_segs T (i + 1) h.2 (by omega), Bool.and_self]
theorem mT_sz (T : List Task) : nsz (mT T) = 1 + 8 * T.length := by simp [mT, nsz, segs_sz]
theorem mT_vld {T : List Task} (h : T.all goodB = true) (hm : T.length ≤ 7) : Vld (mT T) = true := by
  unfold Vld
  rw [mT_sz, decide_eq_true (by omega), Bool.true_and]
  show (fitsB (mT T) && (segs 0 T).all (vld 15)) = true
  rw [vld_segs T 0 h (by omega)]
  simp [fitsB, mT]
theorem rRight_eq (n : Nat) (t : Task) : ref42_Right n t = some (goodB t) := by
  obtain ⟨k, ⟨x, y⟩, l, r⟩ := t
  unfold ref42_Right goodB
  by_cases a : l < 1
  · simp only [decide_eq_true a, cond_true, Option.bind_some]
    symm; rw [Option.some.injEq, decide_eq_false_iff_not]; omega
  by_cases b : l > 1000
  · simp only [decide_eq_false a, decide_eq_true b, cond_true, cond_false, Option.bind_some]
    symm; rw [Option.some.injEq, decide_eq_false_iff_not]; omega
  by_cases c : r < 1
  · simp only [decide_eq_false a, decide_eq_false b, decide_eq_true c, cond_true, cond_false, Option.bind_some]
    symm; rw [Option.some.injEq, decide_eq_false_iff_not]; omega
  by_cases d : r > 10
  · simp only [decide_eq_false a, decide_eq_false b, decide_eq_false c, decide_eq_true d, cond_true, cond_false, Option.bind_some]
    symm; rw [Option.some.injEq, decide_eq_false_iff_not]; omega
  simp only [decide_eq_false a, decide_eq_false b, decide_eq_false c, decide_eq_false d, cond_false, Option.bind_some, cond_and]
  by_cases h1 : k = 1
  · subst h1
    simp only [beq_self_eq_true, cond_true, Option.some.injEq]
    rw [Bool.eq_iff_iff]
    simp only [Bool.and_eq_true, decide_eq_true_eq]
    constructor
    · rintro ⟨h1, h2, h3, h4⟩
      simp
      omega
    · rintro ⟨h1, ⟨h2, h3⟩, h4, h5⟩
      simp at h1
      omega
  rw [beq_eq_false_iff_ne.2 h1]
  have key : (k = 2 ∨ k = 3) → ((x == 0) && ((y == 0) && true)) = decide (((k = 1 ∧ 0 ≤ x ∧ x ≤ 63 ∧ 0 ≤ y ∧ y ≤ 63) ∨ ((k = 2 ∨ k = 3) ∧ x = 0 ∧ y = 0)) ∧ (1 ≤ l ∧ l ≤ 1000) ∧ 1 ≤ r ∧ r ≤ 10) := by
    intro hk
    rw [Bool.eq_iff_iff]
    simp only [Bool.and_eq_true, decide_eq_true_eq, beq_iff_eq, and_true]
    constructor
    · rintro ⟨rfl, rfl⟩
      refine ⟨.inr ⟨hk, rfl, rfl⟩, ?_⟩
      omega
    · rintro ⟨h | h, _⟩
      · exact absurd h.1 h1
      · exact h.2
  by_cases h2 : k = 2
  · subst h2
    simp only [beq_self_eq_true, cond_true, cond_false, Option.bind_some, Option.some.injEq]
    simpa using key (.inl rfl)
  rw [beq_eq_false_iff_ne.2 h2]
  by_cases h3 : k = 3
  · subst h3
    simp only [beq_self_eq_true, cond_false, Option.bind_some, Option.some.injEq]
    simpa using key (.inr rfl)
  rw [beq_eq_false_iff_ne.2 h3]
  simp only [cond_false, Option.bind_some, Option.some.injEq, Bool.false_and]
  symm
  rw [decide_eq_false_iff_not]
  omega
theorem rBuild_eq (T : List Task) : Evt (fun n => ref42_Build n T) (if codeM T = 0 then mT T else Node.mk 0 0 0 [], codeM T) := by
  refine Tot.of_eq ?_
  dsimp only [ref42_Build]
  unfold codeM
  refine Tot.condD (fun h => ?_) (fun h => ?_)
  · refine Tot.ret ?_
    rw [if_pos (show T.length > 7 by omega)]; rfl
  rw [if_neg (show ¬ T.length > 7 by omega)]
  refine Tot.bind (Tot.mono (Q' := fun o : Out Unit (Node × Int) => (o = .go () ∧ T.all goodB = true) ∨ (o = .done (Node.mk 0 0 0 [], 1) ∧ T.all goodB = false)) (Tot.loop (fun s : Int => ∃ j : Nat, j ≤ T.length ∧ s = (j : Int) ∧ (T.take j).all goodB = true) (fun s => T.length - s.toNat) ⟨0, by omega, rfl, rfl⟩ ?_) ?_)
  · rintro _ ⟨j, hj, rfl, hall⟩
    dsimp only [ref42_Build_L1]
    refine Tot.condD (fun hlt => ?_) (fun hge => ?_)
    · obtain ⟨t, t1, t2⟩ := get_some (l := T) (i := j) (by omega)
      refine Tot.idxv t2 ?_
      refine Tot.bind (Tot.at_ (fun n => rRight_eq n t) ?_)
      refine Tot.cond (fun hv => ?_) (fun hv => ?_)
      · simp only [Bool.not_eq_true'] at hv
        exact Tot.ret (.inr ⟨rfl, all_not t1 hv⟩)
      · simp only [Bool.not_eq_false'] at hv
        refine Tot.ret ?_
        dsimp only
        rw [w64 (by omega) (by omega)]
        exact ⟨⟨j + 1, by omega, rfl, all_take t1 hall hv⟩, by omega⟩
    · refine Tot.ret (.inl ?_)
      rw [List.take_of_length_le (by omega)] at hall
      exact ⟨rfl, hall⟩
  · rintro _ (⟨rfl, h⟩ | ⟨rfl, h⟩)
    · rw [h]
      refine Tot.bind (Tot.mono (Q' := (· = segs 0 T)) (Tot.loop (fun s : List Node × Int => ∃ j : Nat, j ≤ T.length ∧ s = (segs 0 (T.take j), (j : Int))) (fun s => T.length - s.2.toNat) ⟨0, by omega, rfl⟩ ?_) ?_)
      · rintro _ ⟨j, hj, rfl⟩
        dsimp only [ref42_Build_L3]
        refine Tot.condD (fun hlt => ?_) (fun hge => ?_)
        · obtain ⟨t, t1, t2⟩ := get_some (l := T) (i := j) (by omega)
          refine Tot.bind (Tot.mono (Tot.idxv t2 (Tot.ret rfl)) ?_)
          rintro _ rfl
          refine Tot.idxv t2 (Tot.app (by rw [segs_len, List.length_take]; simp; omega) (Tot.ret ?_))
          dsimp only
          rw [w64 (by omega) (by omega), w64 (by omega) (by omega)]
          refine ⟨⟨j + 1, by omega, ?_⟩, by omega⟩
          rw [List.take_add_one, t1, segs_app]
          simp only [List.length_take, Option.toList_some, segs]
          rw [show 0 + min j T.length = j by omega]
          rfl
        · refine Tot.ret ?_
          dsimp only
          rw [List.take_of_length_le (by omega)]
      · rintro _ rfl
        exact Tot.ret rfl
    · rw [h]; exact Tot.ret rfl
theorem awake_ok : Evt (fun n => law42_awake n) true := Evt.of 40 (fun n => by kernel_rfl)
theorem law_MissionBuilds (l : List Task) (_ : l.length ≤ maxLen ∧ ∀ y ∈ l, okTask y) : Evt (fun n => law42_MissionBuilds n l) true := by
  refine Tot.of_eq ?_
  dsimp only [law42_MissionBuilds]
  refine Tot.cut (decide (9 < l.length)) ?_ ?_
  · refine Tot.bind ⟨_, awake_ok, ?_⟩
    dsimp only [Bool.not_true, cond_false]
    refine Tot.ret ?_
    by_cases h : 9 < l.length
    · rw [decide_eq_true h, decide_eq_true]; omega
    · rw [decide_eq_false h, decide_eq_false]; omega
  refine Tot.condD (fun _ => Tot.bind ⟨_, awake_ok, Tot.ret rfl⟩) (fun _ => ?_)
  refine Tot.bind ⟨_, Build_eq l, Tot.bind ⟨_, rBuild_eq l, ?_⟩⟩
  dsimp only
  simp only [bne_self_eq_false, cond_false, Node.eta]
  refine Tot.condN (fun h => ?_) (fun h => ?_)
  · rw [if_neg h]
    exact Tot.bind (Tot.ret (Tot.ret rfl))
  · rw [if_pos h]
    have hv : Vld (mT l) = true := by
      unfold codeM at h
      split at h
      · cases h
      · split at h
        · rename_i h7 hg; exact mT_vld hg (by omega)
        · cases h
    refine Tot.cut true (Tot.bind ⟨_, Valid_ok _, ?_⟩) (Tot.ret rfl)
    rw [hv]
    simp only [cond_true]
    refine Tot.bind ⟨_, Text_ok _, Tot.bind ⟨_, Text_ok _, ?_⟩⟩
    dsimp only
    rw [bs_beq, decide_eq_true rfl]
    simp only [cond_true]
    refine Tot.bind (Tot.mono (Q' := (· = true)) ?_ (by rintro _ rfl; exact Tot.ret rfl))
    dsimp only [ref42_Same]
    simp only [Node.eta]
    refine Tot.bind ⟨_, rText_ok _, Tot.bind ⟨_, rText_ok _, Tot.ret ?_⟩⟩
    rw [bs_beq, decide_eq_true rfl]
end Go.Proofs.YtkhmdpekfcahkaaDoor
