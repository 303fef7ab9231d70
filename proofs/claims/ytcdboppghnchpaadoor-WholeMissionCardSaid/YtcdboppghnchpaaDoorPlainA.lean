/-
  Plain laws on the plain functions.
-/
import Derived.Test.YtcdboppghnchpaaDoorDataA
import Derived.Lib.Strings
namespace Go.Proofs.YtcdboppghnchpaaDoor
open Go Go.Proofs.YtcdboppghnchpaaDoor.Gw
set_option linter.unusedVariables false

/- ### Trees -/
theorem Node.eta (t : Node) : Node.mk t.Kind t.Name t.Count t.Kids = t := by cases t; rfl
theorem Node.kid_lt {t k : Node} (h : k ∈ t.Kids) : SizeOf.sizeOf k < SizeOf.sizeOf t := by
  have := List.sizeOf_lt_of_mem h
  cases t
  simp only [Node.mk.sizeOf_spec]
  dsimp only at this
  omega
theorem Node.ind {P : Node → Prop} (h : ∀ t, (∀ k ∈ t.Kids, P k) → P t) (t : Node) : P t :=
  h t fun k hk => Node.ind h k
termination_by SizeOf.sizeOf t
decreasing_by exact Node.kid_lt hk
mutual
/-- The number of nodes. -/
def nsz : Node → Nat | .mk _ _ _ ks => 1 + nszs ks
def nszs : List Node → Nat | [] => 0 | t :: ts => nsz t + nszs ts
end
theorem nsz_eq (t : Node) : nsz t = 1 + nszs t.Kids := by cases t; rfl
theorem nszs_app (a b : List Node) : nszs (a ++ b) = nszs a + nszs b := by
  induction a with
  | nil => simp [nszs]
  | cons x a ih => simp only [List.cons_append, nszs, ih]; omega
theorem nsz_pos (t : Node) : 1 ≤ nsz t := by rw [nsz_eq]; omega
theorem nszs_len (l : List Node) : l.length ≤ nszs l := by
  induction l with
  | nil => simp
  | cons x a ih => have := nsz_pos x; simp only [List.length_cons, nszs]; omega
theorem nszs_take (l : List Node) (j : Nat) : nszs (l.take j) ≤ nszs l := by
  have := nszs_app (l.take j) (l.drop j)
  rw [List.take_append_drop] at this
  omega
theorem nszs_step {l : List Node} {j : Nat} {k : Node} (h : l[j]? = some k) : nszs (l.take (j + 1)) = nszs (l.take j) + nsz k := by
  rw [List.take_add_one, h, nszs_app]; simp [nszs]
theorem nszs_mem {l : List Node} {k : Node} (h : k ∈ l) : nsz k ≤ nszs l := by
  induction l with
  | nil => cases h
  | cons x a ih =>
    simp only [nszs]
    rcases List.mem_cons.1 h with rfl | h
    · omega
    · have := ih h; omega

/- ### Size -/
theorem size_ok (t : Node) : ∀ lim : Int, 1 ≤ lim → lim ≤ 65 → Tot (fun n => tree_size n t lim) (· = min (nsz t : Int) lim) := by
  induction t using Node.ind with
  | h t ih =>
  intro lim h1 h65
  refine Tot.succ ?_
  dsimp only [tree_size, tree_size_F]
  refine Tot.bind (Tot.loop (fun s : Int × Int => ∃ j : Nat, s.2 = (j : Int) ∧ j ≤ t.Kids.length ∧ s.1 = min ((1 + nszs (t.Kids.take j) : Nat) : Int) lim) (fun s => t.Kids.length - s.2.toNat) ⟨0, rfl, by omega, by simp [nszs]; omega⟩ ?_ |>.mono (Q' := (· = min (nsz t : Int) lim)) ?_)
  · rintro ⟨c, i⟩ ⟨j, rfl, hj, rfl⟩
    dsimp only [tree_size_L1]
    have hb := nszs_take t.Kids j
    refine Tot.condD (fun hlt => ?_) (fun hge => ?_)
    · refine Tot.idx (by omega) (by omega) fun k hk => ?_
      rw [Int.toNat_natCast] at hk
      have hst := nszs_step hk
      have hb1 := nszs_take t.Kids (j + 1)
      refine Tot.condD (fun hle => ?_) (fun hgt => ?_)
      · refine Tot.ret ?_
        dsimp only
        rw [nsz_eq]; omega
      · have hn : (1 + nszs (t.Kids.take j) : Nat) < lim := by omega
        have hjl := nszs_len (t.Kids.take j)
        rw [List.length_take, Nat.min_eq_left hj] at hjl
        rw [Node.eta, w64 (by omega) (by omega)]
        refine Tot.bind (Tot.mono (ih k (List.mem_of_getElem? hk) _ (by omega) (by omega)) ?_)
        rintro _ rfl
        refine Tot.ret ?_
        dsimp only
        rw [w64 (by omega) (by omega), w64 (by omega) (by omega)]
        refine ⟨⟨j + 1, by omega, by omega, ?_⟩, by omega⟩
        rw [hst]; omega
    · refine Tot.ret ?_
      dsimp only
      rw [nsz_eq]
      have : t.Kids.take j = t.Kids := List.take_of_length_le (by omega)
      rw [this]
  · rintro _ rfl
    exact Tot.ret rfl
theorem Size_ok (t : Node) : Evt (fun n => tree_Size n t) (min (nsz t : Int) 65) := by
  refine Tot.of_eq ?_
  dsimp only [tree_Size]
  simp only [Node.eta]
  refine Tot.bind (Tot.mono (size_ok t 65 (by omega) (by omega)) ?_)
  rintro _ rfl
  exact Tot.ret rfl
end Go.Proofs.YtcdboppghnchpaaDoor

namespace Go.Proofs.YtcdboppghnchpaaDoor
open Go Go.Proofs.YtcdboppghnchpaaDoor.Gw
set_option linter.unusedVariables false

/- ### Valid trees -/
/-- A node has the fields of its kind. -/
def fitsB (t : Node) : Bool :=
  if t.Kind = 1 ∨ t.Kind = 2 then decide (0 ≤ t.Name ∧ t.Name < 64 ∧ t.Count = 0 ∧ t.Kids.length = 0)
  else if t.Kind = 3 ∨ t.Kind = 4 then decide (t.Name = 0 ∧ t.Count = 0)
  else if t.Kind = 5 then decide (t.Name = 0 ∧ 1 ≤ t.Count ∧ t.Count ≤ t.Kids.length)
  else if t.Kind = 6 then decide (t.Name = 0 ∧ t.Count = 0 ∧ t.Kids.length = 1)
  else if t.Kind = 7 ∨ t.Kind = 8 then decide (t.Name = 0 ∧ 1 ≤ t.Count ∧ t.Count ≤ 1000 ∧ t.Kids.length = 1)
  else false
def vld : Nat → Node → Bool
  | 0, _ => false
  | d + 1, t => fitsB t && t.Kids.all (vld d)
/-- The tree is valid. -/
def Vld (t : Node) : Bool := decide (nsz t ≤ 64) && vld 16 t
theorem fits_eq (n : Nat) (t : Node) : tree_fits n t = some (fitsB t) := by
  obtain ⟨k, nm, c, ks⟩ := t
  unfold tree_fits fitsB
  dsimp only
  by_cases h1 : k = 1
  · subst h1
    by_cases a : nm ≥ 0 <;> by_cases b : nm < 64 <;> by_cases d : c = 0 <;> by_cases e : ks.length = 0 <;> simp [Bool.cond_eq_ite, a, b, d, e] <;> (try omega)
  by_cases h2 : k = 2
  · subst h2
    by_cases a : nm ≥ 0 <;> by_cases b : nm < 64 <;> by_cases d : c = 0 <;> by_cases e : ks.length = 0 <;> simp [Bool.cond_eq_ite, a, b, d, e] <;> (try omega)
  by_cases h3 : k = 3
  · subst h3
    by_cases a : nm = 0 <;> by_cases d : c = 0 <;> simp [Bool.cond_eq_ite, a, d] <;> (try omega)
  by_cases h4 : k = 4
  · subst h4
    by_cases a : nm = 0 <;> by_cases d : c = 0 <;> simp [Bool.cond_eq_ite, a, d] <;> (try omega)
  by_cases h5 : k = 5
  · subst h5
    by_cases a : nm = 0 <;> by_cases d : c ≥ 1 <;> by_cases e : c ≤ ks.length <;> simp [Bool.cond_eq_ite, a, d, e] <;> (try omega)
  by_cases h6 : k = 6
  · subst h6
    by_cases a : nm = 0 <;> by_cases d : c = 0 <;> by_cases e : ks.length = 1 <;> simp [Bool.cond_eq_ite, a, d, e] <;> (try omega)
  by_cases h7 : k = 7
  · subst h7
    by_cases a : nm = 0 <;> by_cases d : c ≥ 1 <;> by_cases e : c ≤ 1000 <;> by_cases f : ks.length = 1 <;> simp [Bool.cond_eq_ite, a, d, e, f] <;> (try omega)
  by_cases h8 : k = 8
  · subst h8
    by_cases a : nm = 0 <;> by_cases d : c ≥ 1 <;> by_cases e : c ≤ 1000 <;> by_cases f : ks.length = 1 <;> simp [Bool.cond_eq_ite, a, d, e, f] <;> (try omega)
  simp [Bool.cond_eq_ite, h1, h2, h3, h4, h5, h6, h7, h8]
theorem all_take_step {p : Node → Bool} {l : List Node} {j : Nat} {k : Node} (h : l[j]? = some k) (h1 : (l.take j).all p = true) (h2 : p k = true) : (l.take (j + 1)).all p = true := by
  rw [List.take_add_one, h, List.all_append, h1]; simp [h2]
theorem all_false {p : Node → Bool} {l : List Node} {j : Nat} {k : Node} (h : l[j]? = some k) (h2 : p k = false) : l.all p = false := by
  rw [List.all_eq_false]; exact ⟨k, List.mem_of_getElem? h, by simp [h2]⟩
theorem valid_ok : ∀ (d : Nat) (t : Node), d ≤ 16 → nsz t ≤ 64 → Tot (fun n => tree_valid n t (d : Int)) (· = vld d t) := by
  intro d
  induction d with
  | zero =>
    intro t _ _
    refine Tot.succ ?_
    dsimp only [tree_valid, tree_valid_F]
    exact Tot.ret rfl
  | succ d ih =>
    intro t hd ht
    refine Tot.succ ?_
    dsimp only [tree_valid, tree_valid_F]
    simp only [Node.eta, fits_eq, Option.bind_some]
    rw [show (((d + 1 : Nat) : Int) == 0) = false from by simp; omega]
    dsimp only [cond_false]
    simp only [cond_false, Option.bind_some]
    have hk := nszs_len t.Kids
    rw [nsz_eq] at ht
    refine Tot.cond (fun hf => ?_) (fun hf => ?_)
    · refine Tot.ret ?_
      simp only [Bool.not_eq_true'] at hf
      simp [vld, hf]
    · simp only [Bool.not_eq_false'] at hf
      refine Tot.bind (Tot.mono (Q' := fun o : Out Unit Bool => (o = .go () ∧ t.Kids.all (vld d) = true) ∨ (o = .done false ∧ t.Kids.all (vld d) = false)) (Tot.loop (fun s : Int => ∃ j : Nat, s = (j : Int) ∧ j ≤ t.Kids.length ∧ (t.Kids.take j).all (vld d) = true) (fun s => t.Kids.length - s.toNat) ⟨0, rfl, by omega, by simp⟩ ?_) ?_)
      · rintro i ⟨j, rfl, hj, hall⟩
        dsimp only [tree_valid_L1]
        refine Tot.condD (fun hlt => ?_) (fun hge => ?_)
        · refine Tot.idx (by omega) (by omega) fun k hkk => ?_
          rw [Int.toNat_natCast] at hkk
          rw [Node.eta, w64 (by omega) (by omega), show ((d + 1 : Nat) : Int) - 1 = (d : Int) by omega]
          have hm := nszs_mem (List.mem_of_getElem? hkk)
          refine Tot.bind (Tot.mono (ih k (by omega) (by omega)) ?_)
          rintro _ rfl
          refine Tot.cond (fun hv => ?_) (fun hv => ?_)
          · simp only [Bool.not_eq_true'] at hv
            exact Tot.ret (.inr ⟨rfl, all_false hkk hv⟩)
          · simp only [Bool.not_eq_false'] at hv
            refine Tot.ret ?_
            dsimp only
            rw [w64 (by omega) (by omega)]
            exact ⟨⟨j + 1, by omega, by omega, all_take_step hkk hall hv⟩, by omega⟩
        · refine Tot.ret (.inl ⟨rfl, ?_⟩)
          rwa [List.take_of_length_le (by omega)] at hall
      · rintro _ (⟨rfl, h⟩ | ⟨rfl, h⟩)
        · exact Tot.ret (by simp [vld, hf, h])
        · exact Tot.ret (by simp [vld, hf, h])
theorem Valid_ok (t : Node) : Evt (fun n => tree_Valid n t) (Vld t) := by
  refine Tot.of_eq ?_
  dsimp only [tree_Valid]
  simp only [Node.eta]
  refine Tot.bind (Tot.mono (Q' := (· = Vld t)) (Tot.bind ⟨_, Size_ok t, ?_⟩) (by rintro _ rfl; exact Tot.ret rfl))
  refine Tot.condD (fun h => ?_) (fun h => ?_)
  · have h64 : nsz t ≤ 64 := by omega
    refine Tot.bind (Tot.mono (valid_ok 16 t (by omega) h64) ?_)
    rintro _ rfl
    exact Tot.ret (by simp [Vld, h64])
  · exact Tot.ret (by have : ¬ nsz t ≤ 64 := by omega
                      simp [Vld, this])
end Go.Proofs.YtcdboppghnchpaaDoor

namespace Go.Proofs.YtcdboppghnchpaaDoor
open Go Go.Proofs.YtcdboppghnchpaaDoor.Gw
set_option linter.unusedVariables false

/- ### The nodes of a tree, in preorder -/
/-- The numbers of kids, if the first one has the number k. -/
def kix : Nat → List Node → List Int
  | _, [] => []
  | k, t :: ts => (k : Int) :: kix (k + nsz t) ts
mutual
def flat : Nat → Node → List Node_2
  | k, .mk kd nm c ks => Node_2.mk kd nm c (kix (k + 1) ks) :: flats (k + 1) ks
def flats : Nat → List Node → List Node_2
  | _, [] => []
  | k, t :: ts => flat k t ++ flats (k + nsz t) ts
end
theorem flat_eq (k : Nat) (t : Node) : flat k t = Node_2.mk t.Kind t.Name t.Count (kix (k + 1) t.Kids) :: flats (k + 1) t.Kids := by cases t; rfl
theorem flats_app (a b : List Node) : ∀ k, flats k (a ++ b) = flats k a ++ flats (k + nszs a) b := by
  induction a with
  | nil => intro k; simp [flats, nszs]
  | cons x a ih => intro k; simp only [List.cons_append, flats, ih, nszs, List.append_assoc]; rw [show k + nsz x + nszs a = k + (nsz x + nszs a) by omega]
theorem kix_app (a b : List Node) : ∀ k, kix k (a ++ b) = kix k a ++ kix (k + nszs a) b := by
  induction a with
  | nil => intro k; simp [kix, nszs]
  | cons x a ih => intro k; simp only [List.cons_append, kix, ih, nszs]; rw [show k + nsz x + nszs a = k + (nsz x + nszs a) by omega]
theorem kix_len (a : List Node) : ∀ k, (kix k a).length = a.length := by
  induction a with
  | nil => intro k; rfl
  | cons x a ih => intro k; simp only [kix, List.length_cons, ih]
theorem flat_len (t : Node) : ∀ k, (flat k t).length = nsz t := by
  induction t using Node.ind with
  | h t ih =>
  intro k
  rw [flat_eq, nsz_eq, List.length_cons]
  have key : ∀ (l : List Node), (∀ x ∈ l, x ∈ t.Kids) → ∀ k, (flats k l).length = nszs l := by
    intro l
    induction l with
    | nil => intro _ k; rfl
    | cons x l ihl =>
      intro hl k
      simp only [flats, List.length_append, nszs]
      rw [ih x (hl x (by simp)), ihl (fun y hy => hl y (by simp [hy]))]
  rw [key t.Kids (fun _ h => h)]; omega
theorem flats_len (l : List Node) : ∀ k, (flats k l).length = nszs l := by
  induction l with
  | nil => intro k; rfl
  | cons x l ih => intro k; simp only [flats, List.length_append, nszs, flat_len, ih]
theorem flats_step {l : List Node} {j k : Nat} {t : Node} (h : l[j]? = some t) : flats k (l.take (j + 1)) = flats k (l.take j) ++ flat (k + nszs (l.take j)) t := by
  rw [List.take_add_one, h, flats_app]; simp [flats]
theorem kix_step {l : List Node} {j k : Nat} {t : Node} (h : l[j]? = some t) : kix k (l.take (j + 1)) = kix k (l.take j) ++ [((k + nszs (l.take j) : Nat) : Int)] := by
  rw [List.take_add_one, h, kix_app]; simp [kix]
theorem idx_mid {α : Type} (a b : List α) (x : α) : idx (a ++ x :: b) (a.length : Int) = some x := by
  rw [idx_nat, List.getElem?_append_right (by omega)]; simp
theorem upd_mid {α : Type} (a b : List α) (x y : α) : upd (a ++ x :: b) (a.length : Int) y = a ++ y :: b := by
  unfold upd; rw [Int.toNat_natCast, List.set_append_right _ _ (by omega)]; simp
theorem addN_eq (t : Node) : ∀ ns : List Node_2, ns.length + nsz t ≤ 1000000 → Tot (fun n => addN n ns t) (· = ((ns.length : Int), ns ++ flat ns.length t)) := by
  induction t using Node.ind with
  | h t ih =>
  intro ns hb
  rw [nsz_eq] at hb
  refine Tot.succ ?_
  dsimp only [addN, addN_F]
  refine Tot.app (by simp; omega) ?_
  have hk := nszs_len t.Kids
  refine Tot.bind (Tot.mono (Tot.loop (Q := (· = ns ++ flat ns.length t)) (fun s : Int × List Node_2 => ∃ j : Nat, s.1 = (j : Int) ∧ j ≤ t.Kids.length ∧ s.2 = ns ++ Node_2.mk t.Kind t.Name t.Count (kix (ns.length + 1) (t.Kids.take j)) :: flats (ns.length + 1) (t.Kids.take j)) (fun s => t.Kids.length - s.1.toNat) ⟨0, rfl, by omega, by simp [kix, flats]⟩ ?_) ?_)
  · rintro ⟨i, _⟩ ⟨j, rfl, hj, rfl⟩
    dsimp only [addN_L]
    refine Tot.condD (fun hlt => ?_) (fun hge => ?_)
    · refine Tot.idx (by omega) (by omega) fun k hkk => ?_
      rw [Int.toNat_natCast] at hkk
      have hm := nszs_step hkk
      have hb1 := nszs_take t.Kids (j + 1)
      have hl : (ns ++ Node_2.mk t.Kind t.Name t.Count (kix (ns.length + 1) (t.Kids.take j)) :: flats (ns.length + 1) (t.Kids.take j)).length = ns.length + 1 + nszs (t.Kids.take j) := by
        simp only [List.length_append, List.length_cons, flats_len]; omega
      refine Tot.bind (Tot.mono (ih k (List.mem_of_getElem? hkk) _ (by rw [hl]; omega)) ?_)
      rintro _ rfl
      dsimp only
      rw [List.append_assoc, List.cons_append]
      refine Tot.idxv (idx_mid _ _ _) ?_
      dsimp only
      refine Tot.app (by rw [kix_len, List.length_take]; simp; omega) ?_
      refine Tot.ret ?_
      dsimp only
      rw [upd_mid, w64 (by omega) (by omega)]
      refine ⟨⟨j + 1, by omega, by omega, ?_⟩, by omega⟩
      rw [kix_step hkk, flats_step hkk, hl]
    · refine Tot.ret ?_
      dsimp only
      rw [flat_eq, List.take_of_length_le (show t.Kids.length ≤ j by omega)]
  · rintro _ rfl
    exact Tot.ret rfl
theorem add_eq (t : Node) (h : nsz t ≤ 1000) : Tot (fun n => tree_Runner_add n (Runner.mk [] [] []) t) (· = (0, Runner.mk (flat 0 t) [] [])) := by
  dsimp only [tree_Runner_add]
  refine Tot.bind (Tot.mono (addN_eq t [] (by simp; omega)) ?_)
  rintro _ rfl
  exact Tot.ret rfl
/-- New's runner. -/
def newR (t : Node) : Runner := Runner.mk (flat 0 t) (List.replicate (nsz t) 0) (List.replicate (nsz t) false)
theorem mk_nat {α : Type} (n : Nat) (z : α) (h : n ≤ 1000000) : mk (n : Int) z = some (List.replicate n z) := by
  unfold mk; rw [if_pos (by omega)]; simp
theorem New_eq (t : Node) : Evt (fun n => tree_New n t) (if Vld t then (some (newR t), 0) else (none, 1)) := by
  refine Tot.of_eq ?_
  dsimp only [tree_New]
  simp only [Node.eta]
  refine Tot.bind ⟨_, Valid_ok t, ?_⟩
  refine Tot.cond (fun h => ?_) (fun h => ?_)
  · simp only [Bool.not_eq_true'] at h
    exact Tot.ret (by simp [h])
  · simp only [Bool.not_eq_false'] at h
    have hs : nsz t ≤ 64 := by simp only [Vld, Bool.and_eq_true, decide_eq_true_eq] at h; exact h.1
    refine Tot.bind (Tot.mono (add_eq t (by omega)) ?_)
    rintro _ rfl
    dsimp only
    rw [flat_len, mk_nat _ _ (by omega), mk_nat _ _ (by omega)]
    exact Tot.ret (by rw [if_pos h]; rfl)
end Go.Proofs.YtcdboppghnchpaaDoor

namespace Go.Proofs.YtcdboppghnchpaaDoor
open Go Go.Proofs.YtcdboppghnchpaaDoor.Gw
set_option linter.unusedVariables false

/- ### The state of a tree -/
/-- Of each node: its counter, its status in the present tick, whether it is active. -/
inductive ST where
  | mk (c s : Int) (a : Bool) (ks : List ST)
def ST.c : ST → Int | .mk c _ _ _ => c
def ST.s : ST → Int | .mk _ s _ _ => s
def ST.a : ST → Bool | .mk _ _ a _ => a
def ST.ks : ST → List ST | .mk _ _ _ ks => ks
mutual
/-- In preorder. -/
def pre {α : Type} (f : ST → α) : ST → List α
  | .mk c s a ks => f (.mk c s a ks) :: pres f ks
def pres {α : Type} (f : ST → α) : List ST → List α
  | [] => []
  | x :: l => pre f x ++ pres f l
end
mutual
/-- Without statuses. -/
def clr : ST → ST
  | .mk c _ a ks => .mk c 0 a (clrs ks)
def clrs : List ST → List ST
  | [] => []
  | x :: l => clr x :: clrs l
end
mutual
/-- A state is one of a tree. -/
def shp : Node → ST → Prop
  | .mk _ _ _ ks, .mk _ _ _ ss => shps ks ss
def shps : List Node → List ST → Prop
  | [], [] => True
  | t :: ts, s :: ss => shp t s ∧ shps ts ss
  | _, _ => False
end
def actS (A : List Int) (nm : Int) : Int := match idx A nm with
  | some v => if 1 ≤ v ∧ v ≤ 3 then v else 3
  | none => 3
def tstS (B : List Bool) (nm : Int) : Int := match idx B nm with
  | some true => 2
  | _ => 3
/-- The first status that is another one. -/
def firstS (on : Int) : List ST → Int
  | [] => on
  | r :: l => if r.s = on then firstS on l else r.s
def cntS (x : Int) : List ST → Nat
  | [] => 0
  | r :: l => (if r.s = x then 1 else 0) + cntS x l
def parS (ct : Int) (n : Nat) (l : List ST) : Int := if ct ≤ cntS 2 l then 2 else if (n : Int) - ct < cntS 3 l then 3 else 1
def kidS : List ST → Int
  | [] => 0
  | r :: _ => r.s
/-- A decorator's status and counter. -/
def decS (kd ct c k : Int) : Int := if kd = 6 then (if k = 1 then 1 else 5 - k) else if kd = 7 then (if k = 3 then (if c + 1 < ct then 1 else 3) else k) else (if k = 1 then (if c + 1 = ct then 3 else 1) else k)
def decC (kd c k : Int) : Int := if kd = 7 then (if k = 3 then c + 1 else c) else if kd = 8 then (if k = 1 then c + 1 else c) else c
mutual
/-- A tick. -/
def tickD (A : List Int) (B : List Bool) : Node → ST → ST
  | .mk kd nm ct ks, .mk c _ a ss =>
    if kd = 1 then .mk c (actS A nm) a (clrs ss)
    else if kd = 2 then .mk c (tstS B nm) a (clrs ss)
    else if kd = 3 then .mk c (firstS 2 (chD A B 2 ks ss)) a (chD A B 2 ks ss)
    else if kd = 4 then .mk c (firstS 3 (chD A B 3 ks ss)) a (chD A B 3 ks ss)
    else if kd = 5 then .mk c (parS ct ks.length (allD A B ks ss)) a (allD A B ks ss)
    else .mk (decC kd c (kidS (allD A B ks ss))) (decS kd ct c (kidS (allD A B ks ss))) a (allD A B ks ss)
def chD (A : List Int) (B : List Bool) (on : Int) : List Node → List ST → List ST
  | t :: ts, s :: ss => if (tickD A B t s).s = on then tickD A B t s :: chD A B on ts ss else tickD A B t s :: clrs ss
  | _, _ => []
def allD (A : List Int) (B : List Bool) : List Node → List ST → List ST
  | t :: ts, s :: ss => tickD A B t s :: allD A B ts ss
  | _, _ => []
end
mutual
/-- The numbers of the actions that were ticked. -/
def tkd : Nat → Node → ST → List Int
  | k, .mk kd _ _ ks, .mk _ s _ ss => if kd = 1 then (if s = 0 then [] else [(k : Int)]) else tkds (k + 1) ks ss
def tkds : Nat → List Node → List ST → List Int
  | k, t :: ts, s :: ss => tkd k t s ++ tkds (k + nsz t) ts ss
  | _, _, _ => []
end
mutual
/-- Counters are reset, and the active actions are marked. -/
def setD (up : Bool) : Node → ST → ST
  | .mk kd _ _ ks, .mk c s _ ss => .mk (if (up && decide (s = 1)) = true then c else 0) s (up && decide (s = 1) && decide (kd = 1)) (setsD (up && decide (s = 1)) ks ss)
def setsD (up : Bool) : List Node → List ST → List ST
  | t :: ts, s :: ss => setD up t s :: setsD up ts ss
  | _, _ => []
end
mutual
/-- The state before the first tick. -/
def ini : Node → ST | .mk _ _ _ ks => .mk 0 0 false (inis ks)
def inis : List Node → List ST
  | [] => []
  | t :: ts => ini t :: inis ts
end
theorem pre_eq {α : Type} (f : ST → α) (x : ST) : pre f x = f x :: pres f x.ks := by cases x; rfl
theorem clr_eq (x : ST) : clr x = .mk x.c 0 x.a (clrs x.ks) := by cases x; rfl
theorem shp_eq (t : Node) (x : ST) : shp t x = shps t.Kids x.ks := by cases t; cases x; rfl
theorem tkd_eq (k : Nat) (t : Node) (x : ST) : tkd k t x = if t.Kind = 1 then (if x.s = 0 then [] else [(k : Int)]) else tkds (k + 1) t.Kids x.ks := by cases t; cases x; rfl
theorem ini_eq (t : Node) : ini t = .mk 0 0 false (inis t.Kids) := by cases t; rfl
theorem tickD_eq (A : List Int) (B : List Bool) (t : Node) (x : ST) : tickD A B t x =
    if t.Kind = 1 then .mk x.c (actS A t.Name) x.a (clrs x.ks)
    else if t.Kind = 2 then .mk x.c (tstS B t.Name) x.a (clrs x.ks)
    else if t.Kind = 3 then .mk x.c (firstS 2 (chD A B 2 t.Kids x.ks)) x.a (chD A B 2 t.Kids x.ks)
    else if t.Kind = 4 then .mk x.c (firstS 3 (chD A B 3 t.Kids x.ks)) x.a (chD A B 3 t.Kids x.ks)
    else if t.Kind = 5 then .mk x.c (parS t.Count t.Kids.length (allD A B t.Kids x.ks)) x.a (allD A B t.Kids x.ks)
    else .mk (decC t.Kind x.c (kidS (allD A B t.Kids x.ks))) (decS t.Kind t.Count x.c (kidS (allD A B t.Kids x.ks))) x.a (allD A B t.Kids x.ks) := by cases t; cases x; rfl
theorem setD_eq (up : Bool) (t : Node) (x : ST) : setD up t x = .mk (if (up && decide (x.s = 1)) = true then x.c else 0) x.s (up && decide (x.s = 1) && decide (t.Kind = 1)) (setsD (up && decide (x.s = 1)) t.Kids x.ks) := by cases t; cases x; rfl
theorem shps_len : ∀ (ts : List Node) (ss : List ST), shps ts ss → ss.length = ts.length
  | [], [], _ => rfl
  | t :: ts, s :: ss, h => by simp [shps_len ts ss h.2]
  | [], _ :: _, h => h.elim
  | _ :: _, [], h => h.elim
theorem shps_get : ∀ (ts : List Node) (ss : List ST), shps ts ss → ∀ (j : Nat) (t : Node), ts[j]? = some t → ∃ s, ss[j]? = some s ∧ shp t s
  | [], _, _, j, t, h => by simp at h
  | t :: ts, s :: ss, h, 0, u, hu => by simp at hu; subst hu; exact ⟨s, rfl, h.1⟩
  | t :: ts, s :: ss, h, j + 1, u, hu => by
    obtain ⟨x, h1, h2⟩ := shps_get ts ss h.2 j u (by simpa using hu)
    exact ⟨x, by simpa using h1, h2⟩
  | _ :: _, [], h, _, _, _ => h.elim
/-- A state is turned, kid by kid. -/
theorem ST.ind {P : Node → ST → Prop} (h : ∀ t x, (∀ (j : Nat) (u : Node) (y : ST), t.Kids[j]? = some u → x.ks[j]? = some y → P u y) → P t x) (t : Node) : ∀ x, P t x := by
  induction t using Node.ind with
  | h t ih => exact fun x => h t x fun j u y hu _ => ih u (List.mem_of_getElem? hu) y
theorem pres_app {α : Type} (f : ST → α) (a b : List ST) : pres f (a ++ b) = pres f a ++ pres f b := by
  induction a with
  | nil => rfl
  | cons x a ih => simp only [List.cons_append, pres, ih, List.append_assoc]
theorem pres_step {α : Type} {f : ST → α} {l : List ST} {j : Nat} {x : ST} (h : l[j]? = some x) : pres f (l.take (j + 1)) = pres f (l.take j) ++ pre f x := by
  rw [List.take_add_one, h, pres_app]; simp [pres]
theorem drop_step {α : Type} {l : List α} {j : Nat} {x : α} (h : l[j]? = some x) : l.drop j = x :: l.drop (j + 1) := by
  obtain ⟨hl, rfl⟩ := List.getElem?_eq_some_iff.1 h
  exact List.drop_eq_getElem_cons hl
theorem pre_len {α : Type} (f : ST → α) (t : Node) : ∀ x, shp t x → (pre f x).length = nsz t := by
  induction t using Node.ind with
  | h t ih =>
  intro x hx
  rw [pre_eq, nsz_eq, List.length_cons]
  rw [shp_eq] at hx
  have key : ∀ (ts : List Node) (ss : List ST), (∀ u ∈ ts, u ∈ t.Kids) → shps ts ss → (pres f ss).length = nszs ts := by
    intro ts
    induction ts with
    | nil => intro ss _ h; cases ss with
      | nil => rfl
      | cons => exact h.elim
    | cons u ts ihl =>
      intro ss hm h
      cases ss with
      | nil => exact h.elim
      | cons s ss =>
        simp only [pres, List.length_append, nszs]
        rw [ih u (hm u (by simp)) s h.1, ihl ss (fun y hy => hm y (by simp [hy])) h.2]
  rw [key _ _ (fun _ h => h) hx]; omega
theorem pres_len {α : Type} (f : ST → α) : ∀ (ts : List Node) (ss : List ST), shps ts ss → (pres f ss).length = nszs ts
  | [], [], _ => rfl
  | t :: ts, s :: ss, h => by simp only [pres, List.length_append, nszs, pre_len f t s h.1, pres_len f ts ss h.2]
  | [], _ :: _, h => h.elim
  | _ :: _, [], h => h.elim
theorem shps_take : ∀ (ts : List Node) (ss : List ST), shps ts ss → ∀ j, shps (ts.take j) (ss.take j)
  | [], [], _, j => by simp [shps]
  | t :: ts, s :: ss, h, 0 => by simp [shps]
  | t :: ts, s :: ss, h, j + 1 => ⟨h.1, shps_take ts ss h.2 j⟩
  | [], _ :: _, h, _ => h.elim
  | _ :: _, [], h, _ => h.elim
theorem shps_drop : ∀ (ts : List Node) (ss : List ST), shps ts ss → ∀ j, shps (ts.drop j) (ss.drop j)
  | [], [], _, j => by simp [shps]
  | t :: ts, s :: ss, h, 0 => h
  | t :: ts, s :: ss, h, j + 1 => shps_drop ts ss h.2 j
  | [], _ :: _, h, _ => h.elim
  | _ :: _, [], h, _ => h.elim
end Go.Proofs.YtcdboppghnchpaaDoor

namespace Go.Proofs.YtcdboppghnchpaaDoor
open Go Go.Proofs.YtcdboppghnchpaaDoor.Gw
set_option linter.unusedVariables false

def zeros (n : Nat) : List Int := List.replicate n 0
theorem zeros_add (a b : Nat) : zeros (a + b) = zeros a ++ zeros b := by simp [zeros, List.replicate_append_replicate]
mutual
/-- The state fits the tree, and the counters are below their Counts. -/
def wf : Node → ST → Prop
  | .mk kd _ ct ks, .mk c _ _ ss => (0 ≤ c ∧ (c = 0 ∨ ((kd = 7 ∨ kd = 8) ∧ c < ct))) ∧ wfs ks ss
def wfs : List Node → List ST → Prop
  | [], [] => True
  | t :: ts, s :: ss => wf t s ∧ wfs ts ss
  | _, _ => False
end
theorem wf_eq (t : Node) (x : ST) : wf t x = ((0 ≤ x.c ∧ (x.c = 0 ∨ ((t.Kind = 7 ∨ t.Kind = 8) ∧ x.c < t.Count))) ∧ wfs t.Kids x.ks) := by cases t; cases x; rfl
theorem wfs_of {p : Node → ST → Prop} : ∀ {ts : List Node} {ss : List ST}, wfs ts ss → (∀ u ∈ ts, ∀ y, wf u y → shp u y) → shps ts ss
  | [], [], _, _ => trivial
  | t :: ts, s :: ss, h, k => ⟨k t (by simp) s h.1, wfs_of (p := p) h.2 fun u hu => k u (by simp [hu])⟩
  | [], _ :: _, h, _ => h.elim
  | _ :: _, [], h, _ => h.elim
theorem wf_shp (t : Node) : ∀ x, wf t x → shp t x := by
  induction t using Node.ind with
  | h t ih =>
  intro x h
  rw [wf_eq] at h
  rw [shp_eq]
  exact wfs_of (p := fun _ _ => True) h.2 ih
theorem wfs_shps {ts : List Node} {ss : List ST} (h : wfs ts ss) : shps ts ss := wfs_of (p := fun _ _ => True) h fun u _ => wf_shp u
theorem wfs_get : ∀ {ts : List Node} {ss : List ST}, wfs ts ss → ∀ {j : Nat} {t : Node}, ts[j]? = some t → ∃ s, ss[j]? = some s ∧ wf t s
  | [], [], _, j, t, h => by simp at h
  | t :: ts, s :: ss, h, 0, u, hu => by simp at hu; subst hu; exact ⟨s, rfl, h.1⟩
  | t :: ts, s :: ss, h, j + 1, u, hu => by
    obtain ⟨x, h1, h2⟩ := wfs_get h.2 (j := j) (t := u) (by simpa using hu)
    exact ⟨x, by simpa using h1, h2⟩
  | [], _ :: _, h, _, _, _ => h.elim
  | _ :: _, [], h, _, _, _ => h.elim
theorem allD_get {A : List Int} {B : List Bool} : ∀ {ts : List Node} {ss : List ST} {j : Nat} {t : Node} {s : ST}, ts[j]? = some t → ss[j]? = some s → (allD A B ts ss)[j]? = some (tickD A B t s)
  | [], _, j, t, s, h, _ => by simp at h
  | _ :: _, [], j, t, s, _, h => by simp at h
  | t :: ts, s :: ss, 0, u, y, h, k => by simp at h k; subst h k; rfl
  | t :: ts, s :: ss, j + 1, u, y, h, k => by
    have := allD_get (A := A) (B := B) (ts := ts) (ss := ss) (j := j) (t := u) (s := y) (by simpa using h) (by simpa using k)
    simpa [allD] using this
theorem allD_len {A : List Int} {B : List Bool} : ∀ {ts : List Node} {ss : List ST}, shps ts ss → (allD A B ts ss).length = ts.length
  | [], [], _ => rfl
  | t :: ts, s :: ss, h => by simp [allD, allD_len h.2]
  | [], _ :: _, h => h.elim
  | _ :: _, [], h => h.elim
theorem pre_c_clr (t : Node) : ∀ x, shp t x → pre ST.c (clr x) = pre ST.c x := by
  induction t using Node.ind with
  | h t ih =>
  intro x h
  rw [shp_eq] at h
  rw [clr_eq, pre_eq, pre_eq ST.c x]
  have key : ∀ (ts : List Node) (ss : List ST), (∀ u ∈ ts, u ∈ t.Kids) → shps ts ss → pres ST.c (clrs ss) = pres ST.c ss := by
    intro ts
    induction ts with
    | nil => intro ss _ h; cases ss with
      | nil => rfl
      | cons => exact h.elim
    | cons u ts ihl =>
      intro ss hm h
      cases ss with
      | nil => exact h.elim
      | cons s ss => simp only [clrs, pres]; rw [ih u (hm u (by simp)) s h.1, ihl ss (fun y hy => hm y (by simp [hy])) h.2]
  show _ :: pres ST.c (clrs x.ks) = _
  rw [key _ _ (fun _ h => h) h]; rfl
theorem pres_c_clrs : ∀ {ts : List Node} {ss : List ST}, shps ts ss → pres ST.c (clrs ss) = pres ST.c ss
  | [], [], _ => rfl
  | t :: ts, s :: ss, h => by simp only [clrs, pres, pre_c_clr t s h.1, pres_c_clrs h.2]
  | [], _ :: _, h => h.elim
  | _ :: _, [], h => h.elim
theorem pre_s_clr (t : Node) : ∀ x, shp t x → pre ST.s (clr x) = zeros (nsz t) := by
  induction t using Node.ind with
  | h t ih =>
  intro x h
  rw [shp_eq] at h
  rw [clr_eq, pre_eq, nsz_eq, zeros_add]
  have key : ∀ (ts : List Node) (ss : List ST), (∀ u ∈ ts, u ∈ t.Kids) → shps ts ss → pres ST.s (clrs ss) = zeros (nszs ts) := by
    intro ts
    induction ts with
    | nil => intro ss _ h; cases ss with
      | nil => rfl
      | cons => exact h.elim
    | cons u ts ihl =>
      intro ss hm h
      cases ss with
      | nil => exact h.elim
      | cons s ss => simp only [clrs, pres, nszs]; rw [ih u (hm u (by simp)) s h.1, ihl ss (fun y hy => hm y (by simp [hy])) h.2, zeros_add]
  show _ :: pres ST.s (clrs x.ks) = _
  rw [key _ _ (fun _ h => h) h]; rfl
theorem pres_s_clrs : ∀ {ts : List Node} {ss : List ST}, shps ts ss → pres ST.s (clrs ss) = zeros (nszs ts)
  | [], [], _ => rfl
  | t :: ts, s :: ss, h => by simp only [clrs, pres, nszs, pre_s_clr t s h.1, pres_s_clrs h.2, zeros_add]
  | [], _ :: _, h => h.elim
  | _ :: _, [], h => h.elim
theorem tkds_app : ∀ {a : List Node} {x : List ST} {b : List Node} {y : List ST} {k : Nat}, a.length = x.length → tkds k (a ++ b) (x ++ y) = tkds k a x ++ tkds (k + nszs a) b y
  | [], [], b, y, k, _ => by simp [tkds, nszs]
  | t :: a, s :: x, b, y, k, h => by
    simp only [List.cons_append, tkds, nszs]
    rw [tkds_app (a := a) (x := x) (by simpa using h), List.append_assoc, show k + nsz t + nszs a = k + (nsz t + nszs a) by omega]
  | [], _ :: _, _, _, _, h => by simp at h
  | _ :: _, [], _, _, _, h => by simp at h
theorem tkd_clr (t : Node) : ∀ x k, tkd k t (clr x) = [] := by
  induction t using Node.ind with
  | h t ih =>
  intro x k
  rw [tkd_eq, clr_eq]
  split
  · rfl
  · show tkds (k + 1) t.Kids (clrs x.ks) = []
    have key : ∀ (ts : List Node) (ss : List ST) (k : Nat), (∀ u ∈ ts, u ∈ t.Kids) → tkds k ts (clrs ss) = [] := by
      intro ts
      induction ts with
      | nil => intro ss k _; cases ss <;> rfl
      | cons u ts ihl =>
        intro ss k hm
        cases ss with
        | nil => rfl
        | cons s ss => simp only [clrs, tkds]; rw [ih u (hm u (by simp)), ihl ss _ (fun y hy => hm y (by simp [hy]))]; rfl
    exact key _ _ _ fun _ h => h
theorem tkds_clrs : ∀ (ts : List Node) (ss : List ST) (k : Nat), tkds k ts (clrs ss) = []
  | [], ss, k => by cases ss <;> rfl
  | t :: ts, [], k => rfl
  | t :: ts, s :: ss, k => by simp only [clrs, tkds, tkd_clr, tkds_clrs ts ss]; rfl
theorem tkd_len (t : Node) : ∀ x k, (tkd k t x).length ≤ nsz t := by
  induction t using Node.ind with
  | h t ih =>
  intro x k
  rw [tkd_eq, nsz_eq]
  split
  · split <;> simp
  · have key : ∀ (ts : List Node) (ss : List ST) (k : Nat), (∀ u ∈ ts, u ∈ t.Kids) → (tkds k ts ss).length ≤ nszs ts := by
      intro ts
      induction ts with
      | nil => intro ss k _; cases ss <;> simp [tkds]
      | cons u ts ihl =>
        intro ss k hm
        cases ss with
        | nil => simp [tkds]
        | cons s ss =>
          simp only [tkds, nszs, List.length_append]
          have h1 := ih u (hm u (by simp)) s k
          have h2 := ihl ss (k + nsz u) (fun y hy => hm y (by simp [hy]))
          omega
    have := key t.Kids x.ks (k + 1) fun _ h => h
    omega
theorem tkds_len : ∀ (ts : List Node) (ss : List ST) (k : Nat), (tkds k ts ss).length ≤ nszs ts
  | [], ss, k => by cases ss <;> simp [tkds]
  | t :: ts, [], k => by simp [tkds]
  | t :: ts, s :: ss, k => by
    have h1 := tkd_len t s k
    have h2 := tkds_len ts ss (k + nsz t)
    simp only [tkds, nszs, List.length_append]; omega
theorem tkds_step {ts : List Node} {R : List ST} {j k : Nat} {t : Node} {r : ST} (h : ts[j]? = some t) (h' : R[j]? = some r) : tkds k (ts.take (j + 1)) (R.take (j + 1)) = tkds k (ts.take j) (R.take j) ++ tkd (k + nszs (ts.take j)) t r := by
  have h1 := (List.getElem?_eq_some_iff.1 h).1
  have h2 := (List.getElem?_eq_some_iff.1 h').1
  rw [List.take_add_one, List.take_add_one, h, h', tkds_app (by simp; omega)]
  simp [tkds]
/-- All have the status. -/
theorem chD_all {A : List Int} {B : List Bool} {on : Int} : ∀ {ts : List Node} {ss : List ST}, (∀ r ∈ allD A B ts ss, r.s = on) → chD A B on ts ss = allD A B ts ss
  | [], ss, _ => by cases ss <;> rfl
  | t :: ts, [], _ => rfl
  | t :: ts, s :: ss, h => by
    simp only [chD, allD] at h ⊢
    rw [if_pos (h _ (by simp)), chD_all fun r hr => h r (by simp [hr])]
theorem firstS_all {on : Int} : ∀ {l : List ST}, (∀ r ∈ l, r.s = on) → firstS on l = on
  | [], _ => rfl
  | r :: l, h => by
    simp only [firstS]
    rw [if_pos (h r (by simp)), firstS_all fun x hx => h x (by simp [hx])]
theorem chD_cut {A : List Int} {B : List Bool} {on : Int} : ∀ {ts : List Node} {ss : List ST} {j : Nat} {t : Node} {s : ST}, ts[j]? = some t → ss[j]? = some s → (∀ r ∈ (allD A B ts ss).take j, r.s = on) → (tickD A B t s).s ≠ on →
    chD A B on ts ss = (allD A B ts ss).take (j + 1) ++ clrs (ss.drop (j + 1)) ∧ firstS on (chD A B on ts ss) = (tickD A B t s).s
  | [], _, j, t, s, h, _, _, _ => by simp at h
  | _ :: _, [], j, t, s, _, h, _, _ => by simp at h
  | t :: ts, s :: ss, 0, u, y, h, k, _, hn => by
    simp at h k
    subst h k
    simp only [chD, allD]
    rw [if_neg hn]
    exact ⟨by simp, by simp only [firstS]; rw [if_neg hn]⟩
  | t :: ts, s :: ss, j + 1, u, y, h, k, ha, hn => by
    simp only [allD, List.take_succ_cons] at ha
    have h0 := ha _ (List.mem_cons_self)
    obtain ⟨h1, h2⟩ := chD_cut (A := A) (B := B) (on := on) (ts := ts) (ss := ss) (j := j) (t := u) (s := y) (by simpa using h) (by simpa using k) (fun r hr => ha r (List.mem_cons_of_mem _ hr)) hn
    simp only [chD, allD]
    rw [if_pos h0]
    refine ⟨by rw [h1]; simp, ?_⟩
    simp only [firstS]
    rw [if_pos h0, h2]
theorem kix_get : ∀ {l : List Node} {j k : Nat} {t : Node}, l[j]? = some t → idx (kix k l) (j : Int) = some ((k + nszs (l.take j) : Nat) : Int)
  | [], j, k, t, h => by simp at h
  | x :: l, 0, k, t, h => by simp [kix, idx, nszs]
  | x :: l, j + 1, k, t, h => by
    have := kix_get (l := l) (j := j) (k := k + nsz x) (t := t) (by simpa using h)
    rw [idx_nat] at this ⊢
    simp only [kix, List.getElem?_cons_succ, this, List.take_succ_cons, nszs]
    congr 2
    omega
theorem tkds_cut {ks : List Node} {R X : List ST} {k j : Nat} (h : R.length = ks.length) : tkds k ks (R.take j ++ clrs X) = tkds k (ks.take j) (R.take j) := by
  have := tkds_app (a := ks.take j) (x := R.take j) (b := ks.drop j) (y := clrs X) (k := k) (by simp [h])
  rw [List.take_append_drop, tkds_clrs, List.append_nil] at this
  exact this
theorem shp_clr (t : Node) : ∀ x, shp t x → shp t (clr x) := by
  induction t using Node.ind with
  | h t ih =>
  intro x h
  rw [shp_eq] at h ⊢
  rw [clr_eq]
  show shps t.Kids (clrs x.ks)
  have key : ∀ (ts : List Node) (ss : List ST), (∀ u ∈ ts, u ∈ t.Kids) → shps ts ss → shps ts (clrs ss) := by
    intro ts
    induction ts with
    | nil => intro ss _ h; cases ss with
      | nil => trivial
      | cons => exact h.elim
    | cons u ts ihl =>
      intro ss hm h
      cases ss with
      | nil => exact h.elim
      | cons s ss => exact ⟨ih u (hm u (by simp)) s h.1, ihl ss (fun y hy => hm y (by simp [hy])) h.2⟩
  exact key _ _ (fun _ h => h) h
theorem shps_clrs : ∀ {ts : List Node} {ss : List ST}, shps ts ss → shps ts (clrs ss)
  | [], [], _ => trivial
  | t :: ts, s :: ss, h => ⟨shp_clr t s h.1, shps_clrs h.2⟩
  | [], _ :: _, h => h.elim
  | _ :: _, [], h => h.elim
theorem shp_tick (A : List Int) (B : List Bool) (t : Node) : ∀ x, shp t x → shp t (tickD A B t x) := by
  induction t using Node.ind with
  | h t ih =>
  intro x h
  rw [shp_eq] at h ⊢
  have hA : ∀ (ts : List Node) (ss : List ST), (∀ u ∈ ts, u ∈ t.Kids) → shps ts ss → shps ts (allD A B ts ss) := by
    intro ts
    induction ts with
    | nil => intro ss _ h; cases ss with
      | nil => trivial
      | cons => exact h.elim
    | cons u ts ihl =>
      intro ss hm h
      cases ss with
      | nil => exact h.elim
      | cons s ss => exact ⟨ih u (hm u (by simp)) s h.1, ihl ss (fun y hy => hm y (by simp [hy])) h.2⟩
  have hC : ∀ (on : Int) (ts : List Node) (ss : List ST), (∀ u ∈ ts, u ∈ t.Kids) → shps ts ss → shps ts (chD A B on ts ss) := by
    intro on ts
    induction ts with
    | nil => intro ss _ h; cases ss with
      | nil => trivial
      | cons => exact h.elim
    | cons u ts ihl =>
      intro ss hm h
      cases ss with
      | nil => exact h.elim
      | cons s ss =>
        simp only [chD]
        split
        · exact ⟨ih u (hm u (by simp)) s h.1, ihl ss (fun y hy => hm y (by simp [hy])) h.2⟩
        · exact ⟨ih u (hm u (by simp)) s h.1, shps_clrs h.2⟩
  rw [tickD_eq]
  split
  · exact shps_clrs h
  split
  · exact shps_clrs h
  split
  · exact hC _ _ _ (fun _ h => h) h
  split
  · exact hC _ _ _ (fun _ h => h) h
  split
  · exact hA _ _ (fun _ h => h) h
  · exact hA _ _ (fun _ h => h) h
theorem shps_all {A : List Int} {B : List Bool} : ∀ {ts : List Node} {ss : List ST}, shps ts ss → shps ts (allD A B ts ss)
  | [], [], _ => trivial
  | t :: ts, s :: ss, h => ⟨shp_tick A B t s h.1, shps_all h.2⟩
  | [], _ :: _, h => h.elim
  | _ :: _, [], h => h.elim
/-- Where a tree's nodes lie. -/
def At3 (N : List Node_2) (k : Nat) (t : Node) : Prop := ∃ N1 N2, N = N1 ++ flat k t ++ N2 ∧ N1.length = k
theorem At3.root {N : List Node_2} {k : Nat} {t : Node} (h : At3 N k t) : idx N (k : Int) = some (Node_2.mk t.Kind t.Name t.Count (kix (k + 1) t.Kids)) := by
  obtain ⟨N1, N2, rfl, rfl⟩ := h
  rw [flat_eq, List.append_assoc, List.cons_append]
  exact idx_mid _ _ _
theorem At3.kid {N : List Node_2} {k j : Nat} {t u : Node} (h : At3 N k t) (hj : t.Kids[j]? = some u) : At3 N (k + 1 + nszs (t.Kids.take j)) u := by
  obtain ⟨N1, N2, rfl, rfl⟩ := h
  have e : t.Kids = t.Kids.take j ++ u :: t.Kids.drop (j + 1) := by rw [← drop_step hj, List.take_append_drop]
  refine ⟨N1 ++ (Node_2.mk t.Kind t.Name t.Count (kix (N1.length + 1) t.Kids) :: flats (N1.length + 1) (t.Kids.take j)), flats (N1.length + 1 + nszs (t.Kids.take j) + nsz u) (t.Kids.drop (j + 1)) ++ N2, ?_, by simp only [List.length_append, List.length_cons, flats_len]; omega⟩
  rw [flat_eq]
  conv => lhs; rw [show flats (N1.length + 1) t.Kids = flats (N1.length + 1) (t.Kids.take j ++ u :: t.Kids.drop (j + 1)) from by rw [← e]]
  rw [flats_app]
  simp only [flats, List.append_assoc, List.cons_append]
end Go.Proofs.YtcdboppghnchpaaDoor

namespace Go.Proofs.YtcdboppghnchpaaDoor
open Go Go.Proofs.YtcdboppghnchpaaDoor.Gw
set_option linter.unusedVariables false

/- ### A tick of the program -/
/-- All nodes have the fields of their kinds. -/
def Okt (t : Node) : Prop := ∃ d, vld d t = true
theorem Okt.fits {t : Node} (h : Okt t) : fitsB t = true := by
  obtain ⟨d, h⟩ := h
  cases d with
  | zero => cases h
  | succ d => simp only [vld, Bool.and_eq_true] at h; exact h.1
theorem Okt.kid {t u : Node} (h : Okt t) (hu : u ∈ t.Kids) : Okt u := by
  obtain ⟨d, h⟩ := h
  cases d with
  | zero => cases h
  | succ d => simp only [vld, Bool.and_eq_true, List.all_eq_true] at h; exact ⟨d, h.2 u hu⟩
theorem Okt.cases {t : Node} (h : Okt t) : (t.Kind = 1 ∨ t.Kind = 2) ∧ 0 ≤ t.Name ∧ t.Name < 64 ∧ t.Kids = [] ∨ (t.Kind = 3 ∨ t.Kind = 4) ∨ t.Kind = 5 ∧ 1 ≤ t.Count ∧ t.Count ≤ t.Kids.length ∨ t.Kind = 6 ∧ t.Kids.length = 1 ∨ (t.Kind = 7 ∨ t.Kind = 8) ∧ 1 ≤ t.Count ∧ t.Count ≤ 1000 ∧ t.Kids.length = 1 := by
  have h := h.fits
  unfold fitsB at h
  split at h
  · rename_i hk
    simp only [decide_eq_true_eq] at h
    exact .inl ⟨hk, h.1, h.2.1, List.eq_nil_of_length_eq_zero h.2.2.2⟩
  split at h
  · rename_i hk; exact .inr (.inl hk)
  split at h
  · rename_i hk
    simp only [decide_eq_true_eq] at h
    exact .inr (.inr (.inl ⟨hk, h.2.1, h.2.2⟩))
  split at h
  · rename_i hk
    simp only [decide_eq_true_eq] at h
    exact .inr (.inr (.inr (.inl ⟨hk, h.2.2⟩)))
  split at h
  · rename_i hk
    simp only [decide_eq_true_eq] at h
    exact .inr (.inr (.inr (.inr ⟨hk, h.2.1, h.2.2.1, h.2.2.2⟩)))
  · cases h
def RunOk (A : List Int) (B : List Bool) (N : List Node_2) (act : List Bool) (t : Node) (k : Nat) : Prop := ∀ (x : ST), wf t x → ∀ (C1 C2 S1 S2 L : List Int), C1.length = k → S1.length = k → L.length + nsz t ≤ 1000000 →
  Tot (fun n => tree_Runner_run n (Runner.mk N (C1 ++ (pre ST.c x ++ C2)) act) (k : Int) (Tick.mk A B (S1 ++ (zeros (nsz t) ++ S2)) L))
    (· = ((tickD A B t x).s, Runner.mk N (C1 ++ (pre ST.c (tickD A B t x) ++ C2)) act, Tick.mk A B (S1 ++ (pre ST.s (tickD A B t x) ++ S2)) (L ++ tkd k t (tickD A B t x))))
section
variable {A : List Int} {B : List Bool} {N : List Node_2} {act : List Bool} {ks : List Node} {ss : List ST} {k1 : Nat}
/-- One kid is ticked. -/
theorem kid_run (hR : ∀ j u, ks[j]? = some u → RunOk A B N act u (k1 + nszs (ks.take j))) (hw : wfs ks ss) {C1 C2 S1 S2 L : List Int} (h1 : C1.length = k1) (h2 : S1.length = k1) (hL : L.length + nszs ks ≤ 1000000) {j : Nat} {u : Node} (hj : ks[j]? = some u) :
    ∃ y, ss[j]? = some y ∧ Tot (fun n => tree_Runner_run n (Runner.mk N (C1 ++ (pres ST.c ((allD A B ks ss).take j) ++ (pres ST.c (ss.drop j) ++ C2))) act) ((k1 + nszs (ks.take j) : Nat) : Int) (Tick.mk A B (S1 ++ (pres ST.s ((allD A B ks ss).take j) ++ (zeros (nszs (ks.drop j)) ++ S2))) (L ++ tkds k1 (ks.take j) ((allD A B ks ss).take j))))
      (· = ((tickD A B u y).s, Runner.mk N (C1 ++ (pres ST.c ((allD A B ks ss).take (j + 1)) ++ (pres ST.c (ss.drop (j + 1)) ++ C2))) act, Tick.mk A B (S1 ++ (pres ST.s ((allD A B ks ss).take (j + 1)) ++ (zeros (nszs (ks.drop (j + 1))) ++ S2))) (L ++ tkds k1 (ks.take (j + 1)) ((allD A B ks ss).take (j + 1))))) := by
  obtain ⟨y, hy, hwy⟩ := wfs_get hw hj
  refine ⟨y, hy, ?_⟩
  have hs := wfs_shps hw
  have hD := allD_get (A := A) (B := B) hj hy
  have hjl := (List.getElem?_eq_some_iff.1 hj).1
  have hst := nszs_step hj
  have hb1 := nszs_take ks (j + 1)
  have htl := tkds_len (ks.take j) ((allD A B ks ss).take j) k1
  have hdl : (allD A B ks ss).length = ks.length := allD_len hs
  have hsh := shps_take _ _ (shps_all (A := A) (B := B) hs) j
  have hlc := pres_len ST.c _ _ hsh
  have hls := pres_len ST.s _ _ hsh
  have hr := hR j u hj y hwy (C1 ++ pres ST.c ((allD A B ks ss).take j)) (pres ST.c (ss.drop (j + 1)) ++ C2) (S1 ++ pres ST.s ((allD A B ks ss).take j)) (zeros (nszs (ks.drop (j + 1))) ++ S2) (L ++ tkds k1 (ks.take j) ((allD A B ks ss).take j))
    (by simp only [List.length_append]; omega) (by simp only [List.length_append]; omega) (by simp only [List.length_append]; omega)
  have e1 : nszs (ks.drop j) = nsz u + nszs (ks.drop (j + 1)) := by rw [drop_step hj]; rfl
  rw [pres_step hD, pres_step hD, tkds_step hj hD, drop_step hy, e1, zeros_add]
  simp only [pres, List.append_assoc] at hr ⊢
  exact hr
/-- All kids up to j have the status. -/
theorem chain_ok {on : Int} (hR : ∀ j u, ks[j]? = some u → RunOk A B N act u (k1 + nszs (ks.take j))) (hw : wfs ks ss) (hb : nszs ks ≤ 1000) {C1 C2 S1 S2 L : List Int} (h1 : C1.length = k1) (h2 : S1.length = k1) (hL : L.length + nszs ks ≤ 1000000) :
    Tot (fun n => tree_Runner_chain n (tree_Runner_run n) (Runner.mk N (C1 ++ (pres ST.c ss ++ C2)) act) (kix k1 ks) on (Tick.mk A B (S1 ++ (zeros (nszs ks) ++ S2)) L))
      (· = (firstS on (chD A B on ks ss), Runner.mk N (C1 ++ (pres ST.c (chD A B on ks ss) ++ C2)) act, Tick.mk A B (S1 ++ (pres ST.s (chD A B on ks ss) ++ S2)) (L ++ tkds k1 ks (chD A B on ks ss)))) := by
  have hs := wfs_shps hw
  have hdl : (allD A B ks ss).length = ks.length := allD_len hs
  have hsl := shps_len _ _ hs
  have hkl := nszs_len ks
  dsimp only [tree_Runner_chain]
  refine Tot.bind (Tot.mono (Q' := fun o : Out ((List Int) × (List Bool) × (List Int) × (List Bool) × (List Int) × (List Int)) (Int × Runner × Tick) =>
      (o = .go (C1 ++ (pres ST.c (chD A B on ks ss) ++ C2), act, A, B, S1 ++ (pres ST.s (chD A B on ks ss) ++ S2), L ++ tkds k1 ks (chD A B on ks ss)) ∧ firstS on (chD A B on ks ss) = on) ∨
      o = .done (firstS on (chD A B on ks ss), Runner.mk N (C1 ++ (pres ST.c (chD A B on ks ss) ++ C2)) act, Tick.mk A B (S1 ++ (pres ST.s (chD A B on ks ss) ++ S2)) (L ++ tkds k1 ks (chD A B on ks ss))))
    (Tot.loop (fun s => ∃ j : Nat, j ≤ ks.length ∧ s = (C1 ++ (pres ST.c ((allD A B ks ss).take j) ++ (pres ST.c (ss.drop j) ++ C2)), act, A, B, S1 ++ (pres ST.s ((allD A B ks ss).take j) ++ (zeros (nszs (ks.drop j)) ++ S2)), L ++ tkds k1 (ks.take j) ((allD A B ks ss).take j), (j : Int)) ∧ ∀ r ∈ (allD A B ks ss).take j, r.s = on)
      (fun s => ks.length - s.2.2.2.2.2.2.toNat) ⟨0, by omega, by simp [pres, tkds], by simp⟩ ?_) ?_)
  · rintro _ ⟨j, hj, rfl, hall⟩
    dsimp only [tree_Runner_chain_L1]
    rw [kix_len]
    refine Tot.condD (fun hlt => ?_) (fun hge => ?_)
    · obtain ⟨u, hu⟩ : ∃ u, ks[j]? = some u := ⟨_, List.getElem?_eq_getElem (by omega)⟩
      refine Tot.idxv (kix_get hu) ?_
      obtain ⟨y, hy, hrun⟩ := kid_run (C2 := C2) (S2 := S2) hR hw h1 h2 hL hu
      refine Tot.bind (Tot.mono hrun ?_)
      rintro _ rfl
      dsimp only
      have hD := allD_get (A := A) (B := B) hu hy
      refine Tot.condN (fun hne => ?_) (fun heq => ?_)
      · refine Tot.ret (.inr ?_)
        obtain ⟨hc1, hc2⟩ := chD_cut hu hy hall hne
        rw [hc2, hc1, pres_app, pres_app, pres_c_clrs (shps_drop _ _ hs (j + 1)), pres_s_clrs (shps_drop _ _ hs (j + 1))]
        rw [tkds_cut hdl]
        simp only [List.append_assoc]
      · refine Tot.ret ?_
        dsimp only
        rw [w64 (by omega) (by omega)]
        refine ⟨⟨j + 1, by omega, rfl, ?_⟩, by omega⟩
        intro r hr
        rw [List.take_add_one, hD] at hr
        rcases List.mem_append.1 hr with hr | hr
        · exact hall r hr
        · simp at hr; subst hr; exact heq
    · refine Tot.ret (.inl ?_)
      have hjl : j = ks.length := by omega
      subst hjl
      rw [List.take_of_length_le (show (allD A B ks ss).length ≤ ks.length by omega)] at hall ⊢
      rw [chD_all hall, firstS_all hall, List.drop_eq_nil_of_le (show ss.length ≤ ks.length by omega), List.drop_eq_nil_of_le (Nat.le_refl _), List.take_of_length_le (Nat.le_refl _)]
      exact ⟨by simp [pres, nszs, zeros], rfl⟩
  · rintro _ (⟨rfl, h⟩ | rfl)
    · exact Tot.ret (by rw [h])
    · exact Tot.ret rfl
end
end Go.Proofs.YtcdboppghnchpaaDoor

namespace Go.Proofs.YtcdboppghnchpaaDoor
open Go Go.Proofs.YtcdboppghnchpaaDoor.Gw
set_option linter.unusedVariables false
theorem cntS_app (v : Int) (a b : List ST) : cntS v (a ++ b) = cntS v a + cntS v b := by
  induction a with
  | nil => simp [cntS]
  | cons x a ih => simp only [List.cons_append, cntS, ih]; omega
theorem cntS_step {v : Int} {l : List ST} {j : Nat} {x : ST} (h : l[j]? = some x) : cntS v (l.take (j + 1)) = cntS v (l.take j) + (if x.s = v then 1 else 0) := by
  rw [List.take_add_one, h, cntS_app]; simp [cntS]
theorem cntS_le (v : Int) (l : List ST) : cntS v l ≤ l.length := by
  induction l with
  | nil => simp [cntS]
  | cons x a ih => simp only [cntS, List.length_cons]; split <;> omega
section
variable {A : List Int} {B : List Bool} {N : List Node_2} {act : List Bool} {ks : List Node} {ss : List ST} {k1 : Nat}
theorem parallel_ok {kd nm ct : Int} (hR : ∀ j u, ks[j]? = some u → RunOk A B N act u (k1 + nszs (ks.take j))) (hw : wfs ks ss) (hb : nszs ks ≤ 1000) (hct : 1 ≤ ct ∧ ct ≤ ks.length) {C1 C2 S1 S2 L : List Int} (h1 : C1.length = k1) (h2 : S1.length = k1) (hL : L.length + nszs ks ≤ 1000000) :
    Tot (fun n => tree_Runner_parallel n (tree_Runner_run n) (Runner.mk N (C1 ++ (pres ST.c ss ++ C2)) act) (Node_2.mk kd nm ct (kix k1 ks)) (Tick.mk A B (S1 ++ (zeros (nszs ks) ++ S2)) L))
      (· = (parS ct ks.length (allD A B ks ss), Runner.mk N (C1 ++ (pres ST.c (allD A B ks ss) ++ C2)) act, Tick.mk A B (S1 ++ (pres ST.s (allD A B ks ss) ++ S2)) (L ++ tkds k1 ks (allD A B ks ss)))) := by
  have hs := wfs_shps hw
  have hdl : (allD A B ks ss).length = ks.length := allD_len hs
  have hsl := shps_len _ _ hs
  have hkl := nszs_len ks
  dsimp only [tree_Runner_parallel]
  refine Tot.bind (Tot.mono (Tot.loop (Q := (· = ((cntS 2 (allD A B ks ss) : Int), (cntS 3 (allD A B ks ss) : Int), C1 ++ (pres ST.c (allD A B ks ss) ++ C2), act, A, B, S1 ++ (pres ST.s (allD A B ks ss) ++ S2), L ++ tkds k1 ks (allD A B ks ss))))
    (fun s => ∃ j : Nat, j ≤ ks.length ∧ s = (C1 ++ (pres ST.c ((allD A B ks ss).take j) ++ (pres ST.c (ss.drop j) ++ C2)), act, A, B, S1 ++ (pres ST.s ((allD A B ks ss).take j) ++ (zeros (nszs (ks.drop j)) ++ S2)), L ++ tkds k1 (ks.take j) ((allD A B ks ss).take j), (cntS 2 ((allD A B ks ss).take j) : Int), (cntS 3 ((allD A B ks ss).take j) : Int), (j : Int)))
      (fun s => ks.length - s.2.2.2.2.2.2.2.2.toNat) ⟨0, by omega, by simp [pres, tkds, cntS]⟩ ?_) ?_)
  · rintro _ ⟨j, hj, rfl⟩
    dsimp only [tree_Runner_parallel_L1]
    rw [kix_len]
    refine Tot.condD (fun hlt => ?_) (fun hge => ?_)
    · obtain ⟨u, hu⟩ : ∃ u, ks[j]? = some u := ⟨_, List.getElem?_eq_getElem (by omega)⟩
      obtain ⟨y, hy, hrun⟩ := kid_run (C2 := C2) (S2 := S2) hR hw h1 h2 hL hu
      have hD := allD_get (A := A) (B := B) hu hy
      have c2 := cntS_step (v := 2) hD
      have c3 := cntS_step (v := 3) hD
      have l2 := cntS_le 2 ((allD A B ks ss).take j)
      have l3 := cntS_le 3 ((allD A B ks ss).take j)
      rw [List.length_take] at l2 l3
      refine Tot.bind (Tot.mono (Q' := (· = (C1 ++ (pres ST.c ((allD A B ks ss).take (j + 1)) ++ (pres ST.c (ss.drop (j + 1)) ++ C2)), act, A, B, S1 ++ (pres ST.s ((allD A B ks ss).take (j + 1)) ++ (zeros (nszs (ks.drop (j + 1))) ++ S2)), L ++ tkds k1 (ks.take (j + 1)) ((allD A B ks ss).take (j + 1)), (cntS 2 ((allD A B ks ss).take (j + 1)) : Int), (cntS 3 ((allD A B ks ss).take (j + 1)) : Int)))) ?_ ?_)
      · refine Tot.idxv (kix_get hu) ?_
        refine Tot.bind (Tot.mono hrun ?_)
        rintro _ rfl
        dsimp only
        refine Tot.condE (fun h => ?_) (fun h => ?_)
        · refine Tot.ret ?_
          rw [w64 (by omega) (by omega), c2, c3, if_pos h, if_neg (by omega)]
          simp
        refine Tot.condE (fun h' => ?_) (fun h' => ?_)
        · refine Tot.ret ?_
          rw [w64 (by omega) (by omega), c2, c3, if_neg h, if_pos h']
          simp
        · refine Tot.ret ?_
          rw [c2, c3, if_neg h, if_neg h']
          simp
      · rintro _ rfl
        refine Tot.ret ?_
        dsimp only
        rw [w64 (by omega) (by omega)]
        exact ⟨⟨j + 1, by omega, rfl⟩, by omega⟩
    · refine Tot.ret ?_
      have hjl : j = ks.length := by omega
      subst hjl
      dsimp only
      rw [List.take_of_length_le (show (allD A B ks ss).length ≤ ks.length by omega), List.drop_eq_nil_of_le (show ss.length ≤ ks.length by omega), List.drop_eq_nil_of_le (Nat.le_refl _), List.take_of_length_le (Nat.le_refl _)]
      simp [pres, nszs, zeros]
  · rintro _ rfl
    dsimp only
    rw [kix_len, w64 (by omega) (by omega)]
    unfold parS
    refine Tot.condD (fun h => ?_) (fun h => ?_)
    · exact Tot.ret (by rw [if_pos (by omega)])
    refine Tot.condD (fun h' => ?_) (fun h' => ?_)
    · exact Tot.ret (by rw [if_neg (by omega), if_pos (by omega)])
    · exact Tot.ret (by rw [if_neg (by omega), if_neg (by omega)])
end
theorem one_of {α : Type} {l : List α} (h : l.length = 1) : ∃ u, l = [u] := by
  match l, h with
  | [u], _ => exact ⟨u, rfl⟩
theorem shps_one {u : Node} {ss : List ST} (h : shps [u] ss) : ∃ y, ss = [y] := by
  cases ss with
  | nil => exact h.elim
  | cons y ss => cases ss with
    | nil => exact ⟨y, rfl⟩
    | cons a b => exact h.2.elim
theorem actS_rng (A : List Int) (nm : Int) : 1 ≤ actS A nm ∧ actS A nm ≤ 3 := by unfold actS; split <;> (try split) <;> omega
theorem tstS_rng (B : List Bool) (nm : Int) : 1 ≤ tstS B nm ∧ tstS B nm ≤ 3 := by unfold tstS; split <;> omega
theorem tick_rng {A : List Int} {B : List Bool} (t : Node) : Okt t → ∀ x, shp t x → 1 ≤ (tickD A B t x).s ∧ (tickD A B t x).s ≤ 3 := by
  induction t using Node.ind with
  | h t ih =>
  intro ht x hx
  rw [shp_eq] at hx
  have hf : ∀ on : Int, 1 ≤ on ∧ on ≤ 3 → ∀ (ts : List Node) (ss : List ST), (∀ u ∈ ts, u ∈ t.Kids) → shps ts ss → 1 ≤ firstS on (chD A B on ts ss) ∧ firstS on (chD A B on ts ss) ≤ 3 := by
    intro on hon ts
    induction ts with
    | nil => intro ss _ _; cases ss <;> exact hon
    | cons u ts ihl =>
      intro ss hm h
      cases ss with
      | nil => exact hon
      | cons s ss =>
        have h1 := ih u (hm u (by simp)) (ht.kid (hm u (by simp))) s h.1
        simp only [chD]
        split
        · rename_i e
          simp only [firstS]
          rw [if_pos e]
          exact ihl ss (fun y hy => hm y (by simp [hy])) h.2
        · rename_i e
          simp only [firstS]
          rw [if_neg e]
          exact h1
  rw [tickD_eq]
  rcases ht.cases with ⟨hk, _, _, hks⟩ | hk | ⟨hk, hct⟩ | ⟨hk, hlen⟩ | ⟨hk, hct1, hct2, hlen⟩
  · rcases hk with hk | hk
    · rw [if_pos hk]; exact actS_rng _ _
    · rw [if_neg (by omega), if_pos hk]; exact tstS_rng _ _
  · rcases hk with hk | hk
    · rw [if_neg (by omega), if_neg (by omega), if_pos hk]; exact hf 2 (by omega) _ _ (fun _ h => h) hx
    · rw [if_neg (by omega), if_neg (by omega), if_neg (by omega), if_pos hk]; exact hf 3 (by omega) _ _ (fun _ h => h) hx
  · rw [if_neg (by omega), if_neg (by omega), if_neg (by omega), if_neg (by omega), if_pos hk]
    show 1 ≤ parS _ _ _ ∧ parS _ _ _ ≤ 3
    unfold parS
    split <;> (try split) <;> omega
  all_goals
    obtain ⟨u, hu⟩ := one_of hlen
    rw [hu] at hx
    obtain ⟨y, hy⟩ := shps_one hx
    rw [hy] at hx
    have h1 := ih u (by simp [hu]) (ht.kid (by simp [hu])) y hx.1
    rw [if_neg (by omega), if_neg (by omega), if_neg (by omega), if_neg (by omega), if_neg (by omega), hu, hy]
    show 1 ≤ decS t.Kind t.Count x.c (tickD A B u y).s ∧ decS t.Kind t.Count x.c (tickD A B u y).s ≤ 3
    unfold decS
    split <;> (try split) <;> (try split) <;> (try split) <;> omega
theorem idx_lt {α : Type} {l : List α} {i : Int} (h0 : 0 ≤ i) (h : i < l.length) : ∃ v, idx l i = some v := by
  unfold idx; rw [if_pos h0]; exact ⟨_, List.getElem?_eq_getElem (by omega)⟩
theorem idx_none {α : Type} {l : List α} {i : Int} (h : ¬ i < l.length) : idx l i = none := by
  unfold idx; split
  · exact List.getElem?_eq_none (by omega)
  · rfl
theorem run_ok {A : List Int} {B : List Bool} {N : List Node_2} {act : List Bool} (t : Node) : ∀ k, At3 N k t → Okt t → nsz t ≤ 1000 → RunOk A B N act t k := by
  induction t using Node.ind with
  | h t ih =>
  intro k hN ht hz x hx C1 C2 S1 S2 L h1 h2 hL
  obtain ⟨c0, s0, a0, ss⟩ := x
  have hz' := hz
  rw [nsz_eq] at hz'
  have hL' := hL
  rw [nsz_eq] at hL'
  rw [wf_eq] at hx
  simp only [ST.c, ST.ks] at hx
  obtain ⟨hc, hw⟩ := hx
  have hs := wfs_shps hw
  have hkl := nszs_len t.Kids
  have hR : ∀ j u, t.Kids[j]? = some u → RunOk A B N act u (k + 1 + nszs (t.Kids.take j)) := fun j u hu => by
    have hm := List.mem_of_getElem? hu
    have := nszs_mem hm
    exact ih u hm _ (hN.kid hu) (ht.kid hm) (by omega)
  have eC : C1 ++ (pre ST.c (.mk c0 s0 a0 ss) ++ C2) = (C1 ++ [c0]) ++ (pres ST.c ss ++ C2) := by rw [pre_eq]; simp [ST.c, ST.ks]
  have eS : S1 ++ (zeros (nsz t) ++ S2) = (S1 ++ [0]) ++ (zeros (nszs t.Kids) ++ S2) := by rw [nsz_eq, zeros_add]; simp [zeros]
  have hi : ∀ Z : List Int, idx ((S1 ++ [0]) ++ Z) (k : Int) = some 0 := fun Z => by rw [List.append_assoc, ← h2]; exact idx_mid _ _ _
  have hu : ∀ (Z : List Int) (v : Int), upd ((S1 ++ [0]) ++ Z) (k : Int) v = S1 ++ v :: Z := fun Z v => by rw [List.append_assoc, ← h2]; exact upd_mid _ _ _ _
  have hic : ∀ Z : List Int, idx ((C1 ++ [c0]) ++ Z) (k : Int) = some c0 := fun Z => by rw [List.append_assoc, ← h1]; exact idx_mid _ _ _
  have huc : ∀ (Z : List Int) (v : Int), upd ((C1 ++ [c0]) ++ Z) (k : Int) v = C1 ++ v :: Z := fun Z v => by rw [List.append_assoc, ← h1]; exact upd_mid _ _ _ _
  have hic' : ∀ (Z : List Int) (v : Int), idx (C1 ++ v :: Z) (k : Int) = some v := fun Z v => by rw [← h1]; exact idx_mid _ _ _
  have hl1 : (C1 ++ [c0]).length = k + 1 := by simp [h1]
  have hl2 : (S1 ++ [0]).length = k + 1 := by simp [h2]
  refine Tot.succ ?_
  dsimp only [tree_Runner_run, tree_Runner_run_F]
  refine Tot.idxv hN.root ?_
  dsimp only
  rw [eC, eS, tickD_eq]
  simp only [ST.c, ST.ks, ST.a]
  rcases ht.cases with ⟨hk, hn0, hn1, hks⟩ | hk | ⟨hk, hct⟩ | ⟨hk, hlen⟩ | ⟨hk, hct1, hct2, hlen⟩
  · -- actions and tests
    have hxs : ss = [] := by
      rw [hks] at hs
      cases ss with
      | nil => rfl
      | cons a b => exact hs.elim
    subst hxs
    rcases hk with hk | hk
    · rw [if_pos hk, hk]
      simp only [BEq.rfl, cond_true]
      refine Tot.bind (Tot.mono (Q' := (· = (A, B, (S1 ++ [0]) ++ (zeros (nszs t.Kids) ++ S2), L ++ [(k : Int)], actS A t.Name, (C1 ++ [c0]) ++ (pres ST.c ([] : List ST) ++ C2), act))) ?_ ?_)
      · refine Tot.app (by simp; omega) ?_
        refine Tot.bind (Tot.mono (Q' := fun b : Bool => (b = true ∧ idx A t.Name = some (actS A t.Name)) ∨ (b = false ∧ actS A t.Name = 3)) ?_ ?_)
        · refine Tot.condD (fun hlt => ?_) (fun hge => ?_)
          · obtain ⟨v, hv⟩ := idx_lt hn0 hlt
            refine Tot.idxv hv ?_
            refine Tot.condD (fun h => ?_) (fun h => ?_)
            · refine Tot.idxv hv (Tot.ret ?_)
              unfold actS
              rw [hv]
              by_cases h3 : v ≤ 3
              · left; dsimp only; rw [if_pos ⟨h, h3⟩]; simp [h3]
              · right; dsimp only; rw [if_neg (by omega)]; simp [h3]
            · refine Tot.ret (.inr ⟨rfl, ?_⟩)
              unfold actS; rw [hv]; dsimp only; rw [if_neg (by omega)]
          · exact Tot.ret (.inr ⟨rfl, by unfold actS; rw [idx_none hge]⟩)
        · rintro _ (⟨rfl, h⟩ | ⟨rfl, h⟩)
          · exact Tot.idxv h (Tot.ret rfl)
          · exact Tot.ret (by rw [h])
      · rintro _ rfl
        dsimp only
        refine Tot.idxv (hi _) (Tot.ret ?_)
        rw [hu]
        have hs0 : actS A t.Name ≠ 0 := by unfold actS; split <;> (try split) <;> omega
        rw [tkd_eq, if_pos hk, if_neg (show ¬ (ST.mk c0 (actS A t.Name) a0 (clrs [])).s = 0 from hs0), pre_eq, pre_eq]
        simp only [ST.c, ST.s, ST.ks, clrs, pres, hks, nszs, zeros, List.replicate_zero, List.nil_append, List.append_assoc, List.cons_append]
    · rw [if_neg (by omega), if_pos hk, hk]
      simp only [show ((2 : Int) == 1) = false from rfl, BEq.rfl, cond_true, cond_false]
      refine Tot.bind (Tot.mono (Q' := (· = (A, B, (S1 ++ [0]) ++ (zeros (nszs t.Kids) ++ S2), L, tstS B t.Name, (C1 ++ [c0]) ++ (pres ST.c ([] : List ST) ++ C2), act))) ?_ ?_)
      · refine Tot.bind (Tot.mono (Q' := fun b : Bool => tstS B t.Name = if b then 2 else 3) ?_ ?_)
        · refine Tot.condD (fun hlt => ?_) (fun hge => ?_)
          · obtain ⟨v, hv⟩ := idx_lt hn0 hlt
            refine Tot.idxv hv (Tot.ret ?_)
            unfold tstS; rw [hv]; cases v <;> rfl
          · exact Tot.ret (by unfold tstS; rw [idx_none hge]; rfl)
        · intro b hb
          rw [hb]
          cases b <;> exact Tot.ret rfl
      · rintro _ rfl
        dsimp only
        refine Tot.idxv (hi _) (Tot.ret ?_)
        rw [hu, tkd_eq, if_neg (by omega), pre_eq, pre_eq]
        simp only [ST.c, ST.s, ST.ks, clrs, pres, hks, nszs, zeros, tkds, List.replicate_zero, List.nil_append, List.append_nil, List.append_assoc, List.cons_append]
  · -- chains
    have fin : ∀ on : Int, Tot (fun n => ((tree_Runner_chain n (tree_Runner_run n) (Runner.mk N ((C1 ++ [c0]) ++ (pres ST.c ss ++ C2)) act) (kix (k + 1) t.Kids) on (Tick.mk A B ((S1 ++ [0]) ++ (zeros (nszs t.Kids) ++ S2)) L)).bind fun (x2306, x2307, x2308) =>
        some ((x2308.actions, x2308.tests, x2308.status, x2308.ticked, x2306, x2307.counters, x2307.active)))) (· = (A, B, (S1 ++ [0]) ++ (pres ST.s (chD A B on t.Kids ss) ++ S2), L ++ tkds (k + 1) t.Kids (chD A B on t.Kids ss), firstS on (chD A B on t.Kids ss), (C1 ++ [c0]) ++ (pres ST.c (chD A B on t.Kids ss) ++ C2), act)) := fun on => by
      refine Tot.bind (Tot.mono (chain_ok hR hw (by omega) hl1 hl2 (by omega)) ?_)
      rintro _ rfl
      exact Tot.ret rfl
    have fin2 : ∀ on : Int, t.Kind ≠ 1 → tickD A B t (.mk c0 s0 a0 ss) = .mk c0 (firstS on (chD A B on t.Kids ss)) a0 (chD A B on t.Kids ss) → Tot (fun n => (idx ((S1 ++ [0]) ++ (pres ST.s (chD A B on t.Kids ss) ++ S2)) (k : Int)).bind fun _ => some (firstS on (chD A B on t.Kids ss), Runner.mk N ((C1 ++ [c0]) ++ (pres ST.c (chD A B on t.Kids ss) ++ C2)) act, Tick.mk A B (upd ((S1 ++ [0]) ++ (pres ST.s (chD A B on t.Kids ss) ++ S2)) (k : Int) (firstS on (chD A B on t.Kids ss))) (L ++ tkds (k + 1) t.Kids (chD A B on t.Kids ss))))
        (· = ((tickD A B t (.mk c0 s0 a0 ss)).s, Runner.mk N (C1 ++ (pre ST.c (tickD A B t (.mk c0 s0 a0 ss)) ++ C2)) act, Tick.mk A B (S1 ++ (pre ST.s (tickD A B t (.mk c0 s0 a0 ss)) ++ S2)) (L ++ tkd k t (tickD A B t (.mk c0 s0 a0 ss))))) := fun on hk1 e => by
      rw [e]
      refine Tot.idxv (hi _) (Tot.ret ?_)
      rw [hu, tkd_eq, if_neg hk1, pre_eq, pre_eq]
      simp only [ST.c, ST.s, ST.ks, List.append_assoc, List.cons_append, List.nil_append]
    rcases hk with hk | hk
    · have e : tickD A B t (.mk c0 s0 a0 ss) = .mk c0 (firstS 2 (chD A B 2 t.Kids ss)) a0 (chD A B 2 t.Kids ss) := (tickD_eq A B t (.mk c0 s0 a0 ss)).trans (by rw [if_neg (by omega), if_neg (by omega), if_pos hk]; rfl)
      rw [if_neg (by omega), if_neg (by omega), if_pos hk, hk]
      simp only [show ((3 : Int) == 1) = false from rfl, show ((3 : Int) == 2) = false from rfl, BEq.rfl, cond_true, cond_false]
      refine Tot.bind (Tot.mono (fin 2) ?_)
      rintro _ rfl
      rw [← e]
      exact fin2 2 (by omega) e
    · have e : tickD A B t (.mk c0 s0 a0 ss) = .mk c0 (firstS 3 (chD A B 3 t.Kids ss)) a0 (chD A B 3 t.Kids ss) := (tickD_eq A B t (.mk c0 s0 a0 ss)).trans (by rw [if_neg (by omega), if_neg (by omega), if_neg (by omega), if_pos hk]; rfl)
      rw [if_neg (by omega), if_neg (by omega), if_neg (by omega), if_pos hk, hk]
      simp only [show ((4 : Int) == 1) = false from rfl, show ((4 : Int) == 2) = false from rfl, show ((4 : Int) == 3) = false from rfl, BEq.rfl, cond_true, cond_false]
      refine Tot.bind (Tot.mono (fin 3) ?_)
      rintro _ rfl
      rw [← e]
      exact fin2 3 (by omega) e
  · -- parallels
    rw [if_neg (by omega), if_neg (by omega), if_neg (by omega), if_neg (by omega), if_pos hk, hk]
    simp only [show ((5 : Int) == 1) = false from rfl, show ((5 : Int) == 2) = false from rfl, show ((5 : Int) == 3) = false from rfl, show ((5 : Int) == 4) = false from rfl, BEq.rfl, cond_true, cond_false]
    refine Tot.bind (Tot.mono (Q' := (· = (A, B, (S1 ++ [0]) ++ (pres ST.s (allD A B t.Kids ss) ++ S2), L ++ tkds (k + 1) t.Kids (allD A B t.Kids ss), parS t.Count t.Kids.length (allD A B t.Kids ss), (C1 ++ [c0]) ++ (pres ST.c (allD A B t.Kids ss) ++ C2), act))) ?_ ?_)
    · refine Tot.bind (Tot.mono (parallel_ok hR hw (by omega) hct hl1 hl2 (by omega)) ?_)
      rintro _ rfl
      exact Tot.ret rfl
    · rintro _ rfl
      refine Tot.idxv (hi _) (Tot.ret ?_)
      rw [hu, tkd_eq, if_neg (by omega), pre_eq, pre_eq]
      simp only [ST.c, ST.s, ST.ks, List.append_assoc, List.cons_append, List.nil_append]
  · obtain ⟨u, hku⟩ := one_of hlen
    have hs0 := hs
    rw [hku] at hs0
    obtain ⟨y, hy⟩ := shps_one hs0
    subst hy
    have hrng := tick_rng (A := A) (B := B) u (ht.kid (by simp [hku])) y hs0.1
    obtain ⟨y', hy', hrun⟩ := kid_run (C2 := C2) (S2 := S2) (L := L) hR hw hl1 hl2 (by omega) (j := 0) (u := u) (by simp [hku])
    obtain rfl : y = y' := by simpa using hy'
    have eD : allD A B t.Kids [y] = [tickD A B u y] := by rw [hku]; rfl
    rw [eD] at hrun
    simp only [List.take_zero, pres, nszs, tkds, List.drop_zero, List.nil_append, List.append_nil, Nat.add_zero, List.drop_succ_cons, List.take_succ_cons] at hrun
    rw [if_neg (by omega), if_neg (by omega), if_neg (by omega), if_neg (by omega), if_neg (by omega), eD]
    have hdk : (t.Kids.drop (0 + 1)) = [] := by rw [hku]; rfl
    have htk : (t.Kids.take (0 + 1)) = t.Kids := by rw [hku]; rfl
    rw [hdk] at hrun
    rw [show (t.Kind == 1) = false from by simp; omega, show (t.Kind == 2) = false from by simp; omega, show (t.Kind == 3) = false from by simp; omega, show (t.Kind == 4) = false from by simp; omega, show (t.Kind == 5) = false from by simp; omega]
    simp only [cond_false]
    generalize hr : tickD A B u y = r at hrun hrng eD
    have hrun' : Tot (fun n => tree_Runner_run n (Runner.mk N ((C1 ++ [c0]) ++ (pre ST.c y ++ C2)) act) ((k + 1 : Nat) : Int) (Tick.mk A B ((S1 ++ [0]) ++ (zeros (nszs t.Kids) ++ S2)) L)) (· = (r.s, Runner.mk N ((C1 ++ [c0]) ++ (pre ST.c r ++ C2)) act, Tick.mk A B ((S1 ++ [0]) ++ (pre ST.s r ++ S2)) (L ++ tkds (k + 1) t.Kids [r]))) := by
      refine Tot.mono hrun ?_
      rintro _ rfl
      rw [htk]; rfl
    have hpc : pres ST.c [y] = pre ST.c y := by simp [pres]
    rw [hpc]
    refine Tot.bind (Tot.mono (Q' := (· = (A, B, (S1 ++ [0]) ++ (pre ST.s r ++ S2), L ++ tkds (k + 1) t.Kids [r], decS t.Kind t.Count c0 r.s, C1 ++ decC t.Kind c0 r.s :: (pre ST.c r ++ C2), act))) (Tot.bind (Tot.mono (Q' := (· = (decS t.Kind t.Count c0 r.s, Runner.mk N (C1 ++ decC t.Kind c0 r.s :: (pre ST.c r ++ C2)) act, Tick.mk A B ((S1 ++ [0]) ++ (pre ST.s r ++ S2)) (L ++ tkds (k + 1) t.Kids [r])))) ?_ (by rintro _ rfl; exact Tot.ret rfl))) ?_)
    · dsimp only [tree_Runner_decorate]
      refine Tot.idxv hN.root ?_
      dsimp only
      have hk0 : idx (kix (k + 1) t.Kids) 0 = some ((k + 1 : Nat) : Int) := by rw [hku]; rfl
      refine Tot.idxv hk0 ?_
      refine Tot.bind (Tot.mono hrun' ?_)
      rintro _ rfl
      dsimp only
      rw [hk]
      simp only [BEq.rfl, cond_true]
      by_cases h1' : r.s = 1
      · rw [h1']
        simp only [show ((1 : Int) != 1) = false from rfl, Option.bind_some, cond_false, show ((6 : Int) == 7) = false from rfl, show ((6 : Int) == 8) = false from rfl]
        exact Tot.ret (by simp [decS, decC])
      · have hb : (r.s != 1) = true := by simpa using h1'
        rw [hb]
        simp only [Option.bind_some, cond_true]
        rw [w64 (by omega) (by omega)]
        exact Tot.ret (by simp [decS, decC, h1'])
    · rintro _ rfl
      refine Tot.idxv (hi _) (Tot.ret ?_)
      rw [hu, tkd_eq, if_neg (by omega)]
      simp only [pre, kidS, pres, List.append_nil, List.append_assoc, List.cons_append, List.nil_append]
      rfl
  · obtain ⟨u, hku⟩ := one_of hlen
    have hs0 := hs
    rw [hku] at hs0
    obtain ⟨y, hy⟩ := shps_one hs0
    subst hy
    have hrng := tick_rng (A := A) (B := B) u (ht.kid (by simp [hku])) y hs0.1
    obtain ⟨y', hy', hrun⟩ := kid_run (C2 := C2) (S2 := S2) (L := L) hR hw hl1 hl2 (by omega) (j := 0) (u := u) (by simp [hku])
    obtain rfl : y = y' := by simpa using hy'
    have eD : allD A B t.Kids [y] = [tickD A B u y] := by rw [hku]; rfl
    rw [eD] at hrun
    simp only [List.take_zero, pres, nszs, tkds, List.drop_zero, List.nil_append, List.append_nil, Nat.add_zero, List.drop_succ_cons, List.take_succ_cons] at hrun
    rw [if_neg (by omega), if_neg (by omega), if_neg (by omega), if_neg (by omega), if_neg (by omega), eD]
    have hdk : (t.Kids.drop (0 + 1)) = [] := by rw [hku]; rfl
    have htk : (t.Kids.take (0 + 1)) = t.Kids := by rw [hku]; rfl
    rw [hdk] at hrun
    rw [show (t.Kind == 1) = false from by simp; omega, show (t.Kind == 2) = false from by simp; omega, show (t.Kind == 3) = false from by simp; omega, show (t.Kind == 4) = false from by simp; omega, show (t.Kind == 5) = false from by simp; omega]
    simp only [cond_false]
    generalize hr : tickD A B u y = r at hrun hrng eD
    have hrun' : Tot (fun n => tree_Runner_run n (Runner.mk N ((C1 ++ [c0]) ++ (pre ST.c y ++ C2)) act) ((k + 1 : Nat) : Int) (Tick.mk A B ((S1 ++ [0]) ++ (zeros (nszs t.Kids) ++ S2)) L)) (· = (r.s, Runner.mk N ((C1 ++ [c0]) ++ (pre ST.c r ++ C2)) act, Tick.mk A B ((S1 ++ [0]) ++ (pre ST.s r ++ S2)) (L ++ tkds (k + 1) t.Kids [r]))) := by
      refine Tot.mono hrun ?_
      rintro _ rfl
      rw [htk]; rfl
    have hpc : pres ST.c [y] = pre ST.c y := by simp [pres]
    rw [hpc]
    refine Tot.bind (Tot.mono (Q' := (· = (A, B, (S1 ++ [0]) ++ (pre ST.s r ++ S2), L ++ tkds (k + 1) t.Kids [r], decS t.Kind t.Count c0 r.s, C1 ++ decC t.Kind c0 r.s :: (pre ST.c r ++ C2), act))) (Tot.bind (Tot.mono (Q' := (· = (decS t.Kind t.Count c0 r.s, Runner.mk N (C1 ++ decC t.Kind c0 r.s :: (pre ST.c r ++ C2)) act, Tick.mk A B ((S1 ++ [0]) ++ (pre ST.s r ++ S2)) (L ++ tkds (k + 1) t.Kids [r])))) ?_ (by rintro _ rfl; exact Tot.ret rfl))) ?_)
    · dsimp only [tree_Runner_decorate]
      refine Tot.idxv hN.root ?_
      dsimp only
      have hk0 : idx (kix (k + 1) t.Kids) 0 = some ((k + 1 : Nat) : Int) := by rw [hku]; rfl
      refine Tot.idxv hk0 ?_
      refine Tot.bind (Tot.mono hrun' ?_)
      rintro _ rfl
      dsimp only
      have hc1000 : c0 < 1000 := by omega
      rcases hk with hk | hk
      · rw [hk]
        simp only [show ((7 : Int) == 6) = false from rfl, BEq.rfl, Option.bind_some, cond_true, cond_false]
        by_cases h3 : r.s = 3
        · rw [h3]
          simp only [BEq.rfl, cond_true]
          refine Tot.bind (Tot.mono (Q' := (· = if c0 + 1 < t.Count then Out.done (1, Runner.mk N (C1 ++ (c0 + 1) :: (pre ST.c r ++ C2)) act, Tick.mk A B ((S1 ++ [0]) ++ (pre ST.s r ++ S2)) (L ++ tkds (k + 1) t.Kids [r])) else Out.go (C1 ++ (c0 + 1) :: (pre ST.c r ++ C2)))) ?_ ?_)
          · refine Tot.idxv (hic _) (Tot.idxv (hic _) ?_)
            rw [huc, w64 (by omega) (by omega)]
            refine Tot.idxv (hic' _ _) ?_
            refine Tot.condD (fun h => ?_) (fun h => ?_)
            · exact Tot.ret (by rw [if_pos h])
            · exact Tot.ret (by rw [if_neg h])
          · rintro _ rfl
            by_cases h : c0 + 1 < t.Count
            · simp only [if_pos h]; exact Tot.ret (by simp [decS, decC, h])
            · simp only [if_neg h]; exact Tot.ret (by simp [decS, decC, h])
        · have hb : (r.s == 3) = false := by simpa using h3
          rw [hb]
          simp only [cond_false, show ((7 : Int) == 8) = false from rfl, Option.bind_some]
          exact Tot.ret (by simp [decS, decC, h3])
      · rw [hk]
        simp only [show ((8 : Int) == 6) = false from rfl, show ((8 : Int) == 7) = false from rfl, BEq.rfl, Option.bind_some, cond_true, cond_false]
        by_cases h3 : r.s = 1
        · rw [h3]
          simp only [BEq.rfl, cond_true]
          refine Tot.bind (Tot.mono (Q' := (· = if c0 + 1 = t.Count then Out.done (3, Runner.mk N (C1 ++ (c0 + 1) :: (pre ST.c r ++ C2)) act, Tick.mk A B ((S1 ++ [0]) ++ (pre ST.s r ++ S2)) (L ++ tkds (k + 1) t.Kids [r])) else Out.go (C1 ++ (c0 + 1) :: (pre ST.c r ++ C2)))) ?_ ?_)
          · refine Tot.idxv (hic _) (Tot.idxv (hic _) ?_)
            rw [huc, w64 (by omega) (by omega)]
            refine Tot.idxv (hic' _ _) ?_
            refine Tot.condE (fun h => ?_) (fun h => ?_)
            · exact Tot.ret (by rw [if_pos h])
            · exact Tot.ret (by rw [if_neg h])
          · rintro _ rfl
            by_cases h : c0 + 1 = t.Count
            · simp only [if_pos h]; exact Tot.ret (by simp [decS, decC, h])
            · simp only [if_neg h]; exact Tot.ret (by simp [decS, decC, h])
        · have hb : (r.s == 1) = false := by simpa using h3
          rw [hb]
          simp only [cond_false, Option.bind_some]
          exact Tot.ret (by simp [decS, decC, h3])
    · rintro _ rfl
      refine Tot.idxv (hi _) (Tot.ret ?_)
      rw [hu, tkd_eq, if_neg (by omega)]
      simp only [pre, kidS, pres, List.append_nil, List.append_assoc, List.cons_append, List.nil_append]
      rfl
end Go.Proofs.YtcdboppghnchpaaDoor

namespace Go.Proofs.YtcdboppghnchpaaDoor
open Go Go.Proofs.YtcdboppghnchpaaDoor.Gw
set_option linter.unusedVariables false

/- ### Settling -/
theorem setsD_get {up : Bool} : ∀ {ts : List Node} {ss : List ST} {j : Nat} {t : Node} {s : ST}, ts[j]? = some t → ss[j]? = some s → (setsD up ts ss)[j]? = some (setD up t s)
  | [], _, j, t, s, h, _ => by simp at h
  | _ :: _, [], j, t, s, _, h => by simp at h
  | t :: ts, s :: ss, 0, u, y, h, k => by simp at h k; subst h k; rfl
  | t :: ts, s :: ss, j + 1, u, y, h, k => by
    have := setsD_get (up := up) (ts := ts) (ss := ss) (j := j) (t := u) (s := y) (by simpa using h) (by simpa using k)
    simpa [setsD] using this
theorem setD_mk (up : Bool) (t : Node) (c0 s0 : Int) (a0 : Bool) (ss : List ST) : setD up t (.mk c0 s0 a0 ss) = .mk (if (up && decide (s0 = 1)) = true then c0 else 0) s0 (up && decide (s0 = 1) && decide (t.Kind = 1)) (setsD (up && decide (s0 = 1)) t.Kids ss) := by cases t; rfl
theorem shp_set (t : Node) : ∀ up x, shp t x → shp t (setD up t x) := by
  induction t using Node.ind with
  | h t ih =>
  intro up x h
  rw [shp_eq] at h ⊢
  rw [setD_eq]
  generalize (up && decide (x.s = 1)) = b
  show shps t.Kids (setsD b t.Kids x.ks)
  have key : ∀ (ts : List Node) (ss : List ST), (∀ u ∈ ts, u ∈ t.Kids) → shps ts ss → shps ts (setsD b ts ss) := by
    intro ts
    induction ts with
    | nil => intro ss _ h; cases ss with
      | nil => trivial
      | cons => exact h.elim
    | cons u ts ihl =>
      intro ss hm h
      cases ss with
      | nil => exact h.elim
      | cons s ss => exact ⟨ih u (hm u (by simp)) b s h.1, ihl ss (fun y hy => hm y (by simp [hy])) h.2⟩
  exact key _ _ (fun _ h => h) h
theorem shps_set {b : Bool} : ∀ {ts : List Node} {ss : List ST}, shps ts ss → shps ts (setsD b ts ss)
  | [], [], _ => trivial
  | t :: ts, s :: ss, h => ⟨shp_set t b s h.1, shps_set h.2⟩
  | [], _ :: _, h => h.elim
  | _ :: _, [], h => h.elim
theorem pres_cut {α : Type} {f : ST → α} {l : List ST} {j : Nat} {x : ST} (h : l[j]? = some x) : pres f l = pres f (l.take j) ++ (pre f x ++ pres f (l.drop (j + 1))) := by
  conv => lhs; rw [← List.take_append_drop j l, pres_app, drop_step h]
  rfl
def SetOk (A : List Int) (B : List Bool) (N : List Node_2) (t : Node) (k : Nat) : Prop := ∀ (up : Bool) (x : ST), shp t x → ∀ (C1 C2 S1 S2 L : List Int) (D1 D2 : List Bool), C1.length = k → S1.length = k → D1.length = k →
  Tot (fun n => tree_Runner_settle n (Runner.mk N (C1 ++ (pre ST.c x ++ C2)) (D1 ++ (pre ST.a x ++ D2))) (k : Int) up (Tick.mk A B (S1 ++ (pre ST.s x ++ S2)) L))
    (· = (Runner.mk N (C1 ++ (pre ST.c (setD up t x) ++ C2)) (D1 ++ (pre ST.a (setD up t x) ++ D2)), Tick.mk A B (S1 ++ (pre ST.s x ++ S2)) L))
theorem settle_ok {A : List Int} {B : List Bool} {N : List Node_2} (t : Node) : ∀ k, At3 N k t → nsz t ≤ 1000 → SetOk A B N t k := by
  induction t using Node.ind with
  | h t ih =>
  intro k hN hz up x hx C1 C2 S1 S2 L D1 D2 h1 h2 h3
  obtain ⟨c0, s0, a0, ss⟩ := x
  rw [nsz_eq] at hz
  rw [shp_eq] at hx
  simp only [ST.ks] at hx
  have hkl := nszs_len t.Kids
  have hsl := shps_len _ _ hx
  have eC : C1 ++ (pre ST.c (.mk c0 s0 a0 ss) ++ C2) = C1 ++ c0 :: (pres ST.c ss ++ C2) := by simp [pre, ST.c]
  have eS : S1 ++ (pre ST.s (.mk c0 s0 a0 ss) ++ S2) = S1 ++ s0 :: (pres ST.s ss ++ S2) := by simp [pre, ST.s]
  have eD : D1 ++ (pre ST.a (.mk c0 s0 a0 ss) ++ D2) = D1 ++ a0 :: (pres ST.a ss ++ D2) := by simp [pre, ST.a]
  have iC : ∀ (Z : List Int) (v : Int), idx (C1 ++ v :: Z) (k : Int) = some v := fun Z v => by rw [← h1]; exact idx_mid _ _ _
  have uC : ∀ (Z : List Int) (v w : Int), upd (C1 ++ v :: Z) (k : Int) w = C1 ++ w :: Z := fun Z v w => by rw [← h1]; exact upd_mid _ _ _ _
  have iS : ∀ (Z : List Int) (v : Int), idx (S1 ++ v :: Z) (k : Int) = some v := fun Z v => by rw [← h2]; exact idx_mid _ _ _
  have iD : ∀ (Z : List Bool) (v : Bool), idx (D1 ++ v :: Z) (k : Int) = some v := fun Z v => by rw [← h3]; exact idx_mid _ _ _
  have uD : ∀ (Z : List Bool) (v w : Bool), upd (D1 ++ v :: Z) (k : Int) w = D1 ++ w :: Z := fun Z v w => by rw [← h3]; exact upd_mid _ _ _ _
  rw [eC, eS, eD, setD_mk]
  obtain ⟨b, hb⟩ : ∃ b, b = (up && decide (s0 = 1)) := ⟨_, rfl⟩
  rw [← hb]
  refine Tot.succ ?_
  dsimp only [tree_Runner_settle, tree_Runner_settle_F]
  refine Tot.bind (Tot.mono (Q' := (· = b)) ?_ ?_)
  · rw [hb]
    cases up
    · exact Tot.ret rfl
    · simp only [cond_true]
      refine Tot.idxv (iS _ _) (Tot.ret ?_)
      by_cases h : s0 = 1 <;> simp [h]
  intro z hzz
  rw [hzz]
  clear hb hzz z
  refine Tot.bind (Tot.mono (Q' := (· = C1 ++ (if b = true then c0 else 0) :: (pres ST.c ss ++ C2))) ?_ ?_)
  · cases b
    · simp only [Bool.not_false, cond_true]
      refine Tot.idxv (iC _ _) (Tot.ret ?_)
      rw [uC]; simp
    · exact Tot.ret (by simp)
  rintro _ rfl
  refine Tot.bind (Tot.mono (Q' := (· = D1 ++ (b && decide (t.Kind = 1)) :: (pres ST.a ss ++ D2))) ?_ ?_)
  · cases b
    · simp only [cond_false]
      refine Tot.idxv (iD _ _) (Tot.ret ?_)
      rw [uD]; simp
    · simp only [cond_true]
      refine Tot.idxv hN.root (Tot.idxv (iD _ _) (Tot.ret ?_))
      rw [uD]
      by_cases h : t.Kind = 1 <;> simp [h]
  rintro _ rfl
  refine Tot.idxv hN.root ?_
  refine Tot.mono (Tot.loop (Q := (· = (Runner.mk N (C1 ++ (if b = true then c0 else 0) :: (pres ST.c (setsD b t.Kids ss) ++ C2)) (D1 ++ (b && decide (t.Kind = 1)) :: (pres ST.a (setsD b t.Kids ss) ++ D2)), Tick.mk A B (S1 ++ s0 :: (pres ST.s ss ++ S2)) L)))
    (fun s => ∃ j : Nat, j ≤ t.Kids.length ∧ s = (C1 ++ (if b = true then c0 else 0) :: (pres ST.c ((setsD b t.Kids ss).take j) ++ (pres ST.c (ss.drop j) ++ C2)), D1 ++ (b && decide (t.Kind = 1)) :: (pres ST.a ((setsD b t.Kids ss).take j) ++ (pres ST.a (ss.drop j) ++ D2)), A, B, S1 ++ s0 :: (pres ST.s ss ++ S2), L, (j : Int)))
    (fun s => t.Kids.length - s.2.2.2.2.2.2.toNat) ⟨0, by omega, by simp [pres]⟩ ?_) ?_
  · rintro _ ⟨j, hj, rfl⟩
    dsimp only [tree_Runner_settle_L0]
    rw [kix_len]
    have hsh := shps_set (b := b) hx
    have hel : (setsD b t.Kids ss).length = t.Kids.length := shps_len _ _ hsh
    refine Tot.condD (fun hlt => ?_) (fun hge => ?_)
    · obtain ⟨u, hu⟩ : ∃ u, t.Kids[j]? = some u := ⟨_, List.getElem?_eq_getElem (by omega)⟩
      obtain ⟨y, hy, hyu⟩ := shps_get _ _ hx j u hu
      have hE := setsD_get (up := b) hu hy
      have hm := List.mem_of_getElem? hu
      have hzu := nszs_mem hm
      refine Tot.idxv (kix_get hu) ?_
      have l1 := pres_len ST.c _ _ (shps_take _ _ hsh j)
      have l2 := pres_len ST.a _ _ (shps_take _ _ hsh j)
      have l3 := pres_len ST.s _ _ (shps_take _ _ hx j)
      have hr := ih u hm _ (hN.kid hu) (by omega) b y hyu (C1 ++ (if b = true then c0 else 0) :: pres ST.c ((setsD b t.Kids ss).take j)) (pres ST.c (ss.drop (j + 1)) ++ C2) (S1 ++ s0 :: pres ST.s (ss.take j)) (pres ST.s (ss.drop (j + 1)) ++ S2) L (D1 ++ (b && decide (t.Kind = 1)) :: pres ST.a ((setsD b t.Kids ss).take j)) (pres ST.a (ss.drop (j + 1)) ++ D2)
        (by simp only [List.length_append, List.length_cons]; omega) (by simp only [List.length_append, List.length_cons]; omega) (by simp only [List.length_append, List.length_cons]; omega)
      rw [drop_step hy, pres_cut hy (f := ST.s)]
      simp only [pres, List.append_assoc, List.cons_append] at hr ⊢
      refine Tot.bind (Tot.mono hr ?_)
      rintro _ rfl
      refine Tot.ret ?_
      dsimp only
      rw [w64 (by omega) (by omega)]
      refine ⟨⟨j + 1, by omega, ?_⟩, by omega⟩
      rw [pres_step hE, pres_step hE]
      simp only [List.append_assoc]
      rfl
    · refine Tot.ret ?_
      have hjl : j = t.Kids.length := by omega
      subst hjl
      dsimp only
      rw [List.take_of_length_le (show (setsD b t.Kids ss).length ≤ t.Kids.length by omega), List.drop_eq_nil_of_le (show ss.length ≤ t.Kids.length by omega)]
      simp [pres]
  · rintro _ rfl
    simp only [pre, List.cons_append]
    rfl
end Go.Proofs.YtcdboppghnchpaaDoor

namespace Go.Proofs.YtcdboppghnchpaaDoor
open Go Go.Proofs.YtcdboppghnchpaaDoor.Gw
set_option linter.unusedVariables false

/- ### Numbers below a bound -/
def ixs (p : Nat → Bool) (n : Nat) : List Int := ((List.range n).filter p).map fun i : Nat => (i : Int)
theorem ixs_succ (p : Nat → Bool) (n : Nat) : ixs p (n + 1) = ixs p n ++ (if p n then [(n : Int)] else []) := by
  unfold ixs
  rw [List.range_succ, List.filter_append, List.map_append]
  cases h : p n <;> simp [h]
theorem ixs_len (p : Nat → Bool) (n : Nat) : (ixs p n).length ≤ n := by
  unfold ixs
  rw [List.length_map]
  exact Nat.le_trans (List.length_filter_le _ _) (by simp)
/-- Is a node halted? -/
def hltP (N : List Node_2) (b : List Bool) (s : List Int) (a : List Bool) (i : Nat) : Bool :=
  decide ((N[i]?).map Node_2.kind = some 1) && ((decide (b[i]? = some true) && decide (s[i]? = some 0)) || (decide (s[i]? = some 1) && decide (a[i]? = some false)))
def rn (t : Node) (x : ST) : Runner := Runner.mk (flat 0 t) (pre ST.c x) (pre ST.a x)
theorem cloneB (n : Nat) (l : List Bool) (h : l.length ≤ 1000000) : slices_Clonebool_bool_ n l = some (l, l) := by
  unfold slices_Clonebool_bool_ app
  simp only [List.length_nil, Nat.zero_add, List.nil_append]
  rw [if_pos (by omega)]; rfl
theorem get_some {α : Type} {l : List α} {i : Nat} (h : i < l.length) : ∃ v, l[i]? = some v ∧ idx l (i : Int) = some v := ⟨l[i], List.getElem?_eq_getElem h, by rw [idx_nat]; exact List.getElem?_eq_getElem h⟩
theorem haltloop {C0 : List Int} {a0 : List Bool} {N : List Node_2} {b : List Bool} {s : List Int} {a : List Bool} {C : List Int} {T : Tick} (hn : N.length ≤ 1000) (hb : b.length = N.length) (hs : s.length = N.length) (ha : a.length = N.length) (hT : T.status = s) :
    Tot (fun n => loopN (tree_Runner_Tick_L1 (Runner.mk N C0 a0) b (Runner.mk N C a) T) n ([], 0)) (· = ixs (hltP N b s a) N.length) := by
  refine Tot.loop0 (fun st => ∃ j : Nat, j ≤ N.length ∧ st = (ixs (hltP N b s a) j, (j : Int))) (fun st => N.length - st.2.toNat) ⟨0, by omega, rfl⟩ ?_
  rintro _ ⟨j, hj, rfl⟩
  dsimp only [tree_Runner_Tick_L1]
  rw [hT]
  refine Tot.condD (fun hlt => ?_) (fun hge => ?_)
  · obtain ⟨nd, n1, n2⟩ := get_some (l := N) (i := j) (by omega)
    obtain ⟨bv, b1, b2⟩ := get_some (l := b) (i := j) (by omega)
    obtain ⟨sv, s1, s2⟩ := get_some (l := s) (i := j) (by omega)
    obtain ⟨av, a1, a2⟩ := get_some (l := a) (i := j) (by omega)
    have hl := ixs_len (hltP N b s a) j
    refine Tot.bind (Tot.mono (Q' := (· = ixs (hltP N b s a) (j + 1))) ?_ ?_)
    · refine Tot.idxv n2 ?_
      have hP : hltP N b s a j = (decide (nd.kind = 1) && ((bv && decide (sv = 0)) || (decide (sv = 1) && !av))) := by
        unfold hltP
        rw [n1, b1, s1, a1]
        cases bv <;> cases av <;> simp
      rw [ixs_succ, hP]
      refine Tot.condN (fun hk => ?_) (fun hk => ?_)
      · exact Tot.ret (by simp [hk])
      · rw [hk]
        refine Tot.bind (Tot.mono (Q' := (· = ((bv && decide (sv = 0)) || (decide (sv = 1) && !av)))) ?_ ?_)
        · refine Tot.idxv b2 ?_
          cases bv
          · simp only [cond_false]
            refine Tot.idxv s2 ?_
            refine Tot.condE (fun h => ?_) (fun h => ?_)
            · refine Tot.idxv a2 (Tot.ret ?_); simp [h]
            · exact Tot.ret (by simp [h])
          · simp only [cond_true]
            refine Tot.idxv s2 ?_
            refine Tot.condE (fun h => ?_) (fun h => ?_)
            · exact Tot.ret (by simp [h])
            · refine Tot.idxv s2 ?_
              refine Tot.condE (fun h' => ?_) (fun h' => ?_)
              · refine Tot.idxv a2 (Tot.ret ?_); simp [h, h']
              · exact Tot.ret (by simp [h, h'])
        · rintro _ rfl
          refine Tot.cond (fun h => ?_) (fun h => ?_)
          · refine Tot.app (by simp; omega) (Tot.ret ?_)
            rw [h]; simp
          · exact Tot.ret (by rw [h]; simp)
    · rintro _ rfl
      refine Tot.ret ?_
      dsimp only
      rw [w64 (by omega) (by omega)]
      exact ⟨⟨j + 1, by omega, rfl⟩, by omega⟩
  · refine Tot.ret ?_
    have : j = N.length := by omega
    subst this; rfl
theorem pre_a_clr (t : Node) : ∀ x, shp t x → pre ST.a (clr x) = pre ST.a x := by
  induction t using Node.ind with
  | h t ih =>
  intro x h
  rw [shp_eq] at h
  rw [clr_eq, pre_eq ST.a x]
  have key : ∀ (ts : List Node) (ss : List ST), (∀ u ∈ ts, u ∈ t.Kids) → shps ts ss → pres ST.a (clrs ss) = pres ST.a ss := by
    intro ts
    induction ts with
    | nil => intro ss _ h; cases ss with
      | nil => rfl
      | cons => exact h.elim
    | cons u ts ihl =>
      intro ss hm h
      cases ss with
      | nil => exact h.elim
      | cons s ss => simp only [clrs, pres]; rw [ih u (hm u (by simp)) s h.1, ihl ss (fun y hy => hm y (by simp [hy])) h.2]
  simp only [pre]
  rw [key _ _ (fun _ h => h) h]
  rfl
theorem pres_a_clrs : ∀ {ts : List Node} {ss : List ST}, shps ts ss → pres ST.a (clrs ss) = pres ST.a ss
  | [], [], _ => rfl
  | t :: ts, s :: ss, h => by simp only [clrs, pres, pre_a_clr t s h.1, pres_a_clrs h.2]
  | [], _ :: _, h => h.elim
  | _ :: _, [], h => h.elim
theorem pre_a_tick (A : List Int) (B : List Bool) (t : Node) : ∀ x, shp t x → pre ST.a (tickD A B t x) = pre ST.a x := by
  induction t using Node.ind with
  | h t ih =>
  intro x h
  rw [shp_eq] at h
  have hA : ∀ (ts : List Node) (ss : List ST), (∀ u ∈ ts, u ∈ t.Kids) → shps ts ss → pres ST.a (allD A B ts ss) = pres ST.a ss := by
    intro ts
    induction ts with
    | nil => intro ss _ h; cases ss with
      | nil => rfl
      | cons => exact h.elim
    | cons u ts ihl =>
      intro ss hm h
      cases ss with
      | nil => exact h.elim
      | cons s ss => simp only [allD, pres]; rw [ih u (hm u (by simp)) s h.1, ihl ss (fun y hy => hm y (by simp [hy])) h.2]
  have hC : ∀ (on : Int) (ts : List Node) (ss : List ST), (∀ u ∈ ts, u ∈ t.Kids) → shps ts ss → pres ST.a (chD A B on ts ss) = pres ST.a ss := by
    intro on ts
    induction ts with
    | nil => intro ss _ h; cases ss with
      | nil => rfl
      | cons => exact h.elim
    | cons u ts ihl =>
      intro ss hm h
      cases ss with
      | nil => exact h.elim
      | cons s ss =>
        simp only [chD]
        split
        · simp only [pres]; rw [ih u (hm u (by simp)) s h.1, ihl ss (fun y hy => hm y (by simp [hy])) h.2]
        · simp only [pres]; rw [ih u (hm u (by simp)) s h.1, pres_a_clrs h.2]
  rw [pre_eq ST.a x, tickD_eq]
  split
  · simp only [pre, pres_a_clrs h]; rfl
  split
  · simp only [pre, pres_a_clrs h]; rfl
  split
  · simp only [pre, hC _ _ _ (fun _ h => h) h]; rfl
  split
  · simp only [pre, hC _ _ _ (fun _ h => h) h]; rfl
  split
  · simp only [pre, hA _ _ (fun _ h => h) h]; rfl
  · simp only [pre, hA _ _ (fun _ h => h) h]; rfl
theorem at3_top (t : Node) : At3 (flat 0 t) 0 t := ⟨[], [], by simp, rfl⟩
/-- A tick. -/
theorem Tick_eq {A : List Int} {B : List Bool} {t : Node} {x : ST} (ht : Okt t) (hz : nsz t ≤ 64) (hx : wf t x) :
    Tot (fun n => tree_Runner_Tick n (rn t x) A B) (· = ((tickD A B t x).s, tkd 0 t (tickD A B t x), ixs (hltP (flat 0 t) (pre ST.a x) (pre ST.s (tickD A B t x)) (pre ST.a (setD true t (tickD A B t x)))) (nsz t), rn t (setD true t (tickD A B t x)))) := by
  have hsx := wf_shp t x hx
  have hsy := shp_tick A B t x hsx
  have hsz := shp_set t true _ hsy
  dsimp only [tree_Runner_Tick, rn]
  rw [flat_len, mk_nat _ _ (by omega)]
  refine Tot.bind (Tot.val rfl ?_)
  have h1 := run_ok (A := A) (B := B) (act := pre ST.a x) t 0 (at3_top t) ht (by omega) x hx [] [] [] [] [] rfl rfl (by simp; omega)
  simp only [List.nil_append, List.append_nil] at h1
  refine Tot.bind (Tot.mono h1 ?_)
  rintro _ rfl
  dsimp only
  refine Tot.bind (Tot.at_ (fun n => cloneB n _ (by rw [pre_len _ _ _ hsx]; omega)) ?_)
  dsimp only
  have ea : pre ST.a x = pre ST.a (tickD A B t x) := (pre_a_tick A B t x hsx).symm
  have h2 := settle_ok (A := A) (B := B) t 0 (at3_top t) (by omega) true (tickD A B t x) hsy [] [] [] [] (tkd 0 t (tickD A B t x)) [] [] rfl rfl rfl
  simp only [List.nil_append, List.append_nil] at h2
  rw [← ea] at h2
  refine Tot.bind (Tot.mono h2 ?_)
  rintro _ rfl
  dsimp only
  have h3 := haltloop (C0 := pre ST.c x) (a0 := pre ST.a x) (N := flat 0 t) (b := pre ST.a x) (s := pre ST.s (tickD A B t x)) (a := pre ST.a (setD true t (tickD A B t x))) (C := pre ST.c (setD true t (tickD A B t x))) (T := Tick.mk A B (pre ST.s (tickD A B t x)) (tkd 0 t (tickD A B t x)))
    (by rw [flat_len]; omega) (by rw [flat_len, pre_len _ _ _ hsx]) (by rw [flat_len, pre_len _ _ _ hsy]) (by rw [flat_len, pre_len _ _ _ hsz]) rfl
  refine Tot.bind (Tot.mono h3 ?_)
  rintro _ rfl
  rw [flat_len]
  exact Tot.ret rfl
end Go.Proofs.YtcdboppghnchpaaDoor

namespace Go.Proofs.YtcdboppghnchpaaDoor
open Go Go.Proofs.YtcdboppghnchpaaDoor.Gw
set_option linter.unusedVariables false

/- ### The state behind a tick fits the tree -/
theorem wf_set_clr (t : Node) : ∀ up x, shp t x → wf t (setD up t (clr x)) := by
  induction t using Node.ind with
  | h t ih =>
  intro up x h
  rw [shp_eq] at h
  rw [clr_eq, setD_mk, wf_eq]
  have e : (up && decide ((0 : Int) = 1)) = false := by simp
  rw [e]
  have key : ∀ (ts : List Node) (ss : List ST), (∀ u ∈ ts, u ∈ t.Kids) → shps ts ss → wfs ts (setsD false ts (clrs ss)) := by
    intro ts
    induction ts with
    | nil => intro ss _ h; cases ss with
      | nil => trivial
      | cons => exact h.elim
    | cons u ts ihl =>
      intro ss hm h
      cases ss with
      | nil => exact h.elim
      | cons s ss => exact ⟨ih u (hm u (by simp)) false s h.1, ihl ss (fun y hy => hm y (by simp [hy])) h.2⟩
  exact ⟨⟨by simp [ST.c], .inl (by simp [ST.c])⟩, key _ _ (fun _ h => h) h⟩
theorem wfs_set_clrs {b : Bool} : ∀ {ts : List Node} {ss : List ST}, shps ts ss → wfs ts (setsD b ts (clrs ss))
  | [], [], _ => trivial
  | t :: ts, s :: ss, h => ⟨wf_set_clr t b s h.1, wfs_set_clrs h.2⟩
  | [], _ :: _, h => h.elim
  | _ :: _, [], h => h.elim
theorem wf_next {A : List Int} {B : List Bool} (t : Node) : Okt t → ∀ up x, wf t x → wf t (setD up t (tickD A B t x)) := by
  induction t using Node.ind with
  | h t ih =>
  intro ht up x hx
  obtain ⟨c0, s0, a0, ss⟩ := x
  rw [wf_eq] at hx
  obtain ⟨hc, hw⟩ := hx
  simp only [ST.c, ST.ks] at hc hw
  have hs := wfs_shps hw
  have hA : ∀ (b : Bool) (ts : List Node) (ss : List ST), (∀ u ∈ ts, u ∈ t.Kids) → wfs ts ss → wfs ts (setsD b ts (allD A B ts ss)) := by
    intro b ts
    induction ts with
    | nil => intro ss _ h; cases ss with
      | nil => trivial
      | cons => exact h.elim
    | cons u ts ihl =>
      intro ss hm h
      cases ss with
      | nil => exact h.elim
      | cons s ss => exact ⟨ih u (hm u (by simp)) (ht.kid (hm u (by simp))) b s h.1, ihl ss (fun y hy => hm y (by simp [hy])) h.2⟩
  have hC : ∀ (on : Int) (b : Bool) (ts : List Node) (ss : List ST), (∀ u ∈ ts, u ∈ t.Kids) → wfs ts ss → wfs ts (setsD b ts (chD A B on ts ss)) := by
    intro on b ts
    induction ts with
    | nil => intro ss _ h; cases ss with
      | nil => trivial
      | cons => exact h.elim
    | cons u ts ihl =>
      intro ss hm h
      cases ss with
      | nil => exact h.elim
      | cons s ss =>
        simp only [chD]
        split
        · exact ⟨ih u (hm u (by simp)) (ht.kid (hm u (by simp))) b s h.1, ihl ss (fun y hy => hm y (by simp [hy])) h.2⟩
        · exact ⟨ih u (hm u (by simp)) (ht.kid (hm u (by simp))) b s h.1, wfs_set_clrs (wfs_shps h.2)⟩
  have fin : ∀ (c s : Int) (a : Bool) (l : List ST), wfs t.Kids (setsD (up && decide (s = 1)) t.Kids l) → (s = 1 → 0 ≤ c ∧ (c = 0 ∨ ((t.Kind = 7 ∨ t.Kind = 8) ∧ c < t.Count))) → wf t (setD up t (.mk c s a l)) := by
    intro c s a l hl h1
    rw [setD_mk, wf_eq]
    refine ⟨?_, hl⟩
    simp only [ST.c]
    split
    · rename_i h
      simp only [Bool.and_eq_true, decide_eq_true_eq] at h
      exact h1 h.2
    · exact ⟨by omega, .inl rfl⟩
  rw [tickD_eq]
  simp only [ST.c, ST.ks, ST.a]
  split
  · rename_i hk
    exact fin _ _ _ _ (wfs_set_clrs hs) fun _ => ⟨hc.1, hc.2⟩
  split
  · exact fin _ _ _ _ (wfs_set_clrs hs) fun _ => ⟨hc.1, hc.2⟩
  split
  · exact fin _ _ _ _ (hC _ _ _ _ (fun _ h => h) hw) fun _ => ⟨hc.1, hc.2⟩
  split
  · exact fin _ _ _ _ (hC _ _ _ _ (fun _ h => h) hw) fun _ => ⟨hc.1, hc.2⟩
  split
  · exact fin _ _ _ _ (hA _ _ _ (fun _ h => h) hw) fun _ => ⟨hc.1, hc.2⟩
  · refine fin _ _ _ _ (hA _ _ _ (fun _ h => h) hw) fun h => ?_
    generalize kidS (allD A B t.Kids ss) = k at h ⊢
    rcases ht.cases with ⟨hk, _⟩ | hk | ⟨hk, _⟩ | ⟨hk, _⟩ | ⟨hk, hct, _⟩
    · omega
    · omega
    · omega
    · unfold decC
      rw [if_neg (by omega), if_neg (by omega)]
      exact ⟨hc.1, hc.2⟩
    · unfold decS at h
      unfold decC
      rw [if_neg (by omega)] at h
      rcases hk with hk | hk
      · rw [if_pos hk] at h ⊢
        split at h
        · rename_i h3
          rw [if_pos h3]
          split at h
          · rename_i h4; exact ⟨by omega, .inr ⟨.inl hk, h4⟩⟩
          · omega
        · rename_i h3
          rw [if_neg h3]; exact ⟨hc.1, hc.2⟩
      · rw [if_neg (by omega)] at h
        rw [if_neg (by omega), if_pos hk]
        split at h
        · rename_i h3
          rw [if_pos h3]
          split at h
          · omega
          · rename_i h4; exact ⟨by omega, .inr ⟨.inr hk, by omega⟩⟩
        · rename_i h3
          omega
theorem wf_ini (t : Node) : wf t (ini t) := by
  induction t using Node.ind with
  | h t ih =>
  rw [ini_eq, wf_eq]
  refine ⟨⟨by simp [ST.c], .inl (by simp [ST.c])⟩, ?_⟩
  have key : ∀ (ts : List Node), (∀ u ∈ ts, u ∈ t.Kids) → wfs ts (inis ts) := by
    intro ts
    induction ts with
    | nil => intro _; trivial
    | cons u ts ihl => intro hm; exact ⟨ih u (hm u (by simp)), ihl (fun y hy => hm y (by simp [hy]))⟩
  exact key _ fun _ h => h
theorem pre_ini {α : Type} (f : ST → α) (v : α) (hf : ∀ l, f (.mk 0 0 false l) = v) (t : Node) : pre f (ini t) = List.replicate (nsz t) v := by
  induction t using Node.ind with
  | h t ih =>
  rw [ini_eq, nsz_eq]
  have key : ∀ (ts : List Node), (∀ u ∈ ts, u ∈ t.Kids) → pres f (inis ts) = List.replicate (nszs ts) v := by
    intro ts
    induction ts with
    | nil => intro _; rfl
    | cons u ts ihl => intro hm; simp only [inis, pres, nszs]; rw [ih u (hm u (by simp)), ihl (fun y hy => hm y (by simp [hy])), List.replicate_append_replicate]
  simp only [pre]
  rw [key _ fun _ h => h, hf, Nat.add_comm, List.replicate_succ]
theorem newR_eq (t : Node) : newR t = rn t (ini t) := by
  unfold newR rn
  rw [pre_ini ST.c 0 (fun _ => rfl), pre_ini ST.a false (fun _ => rfl)]

/- ### What lies at each number -/
def Act3 (N : List Node_2) (S : List Int) (D : List Bool) : Prop := ∀ i : Nat, D[i]? = some true → (N[i]?).map Node_2.kind = some 1 ∧ S[i]? = some 1
theorem Act3.cons {n : Node_2} {s : Int} {d : Bool} {N : List Node_2} {S : List Int} {D : List Bool} (h : d = true → n.kind = 1 ∧ s = 1) (k : Act3 N S D) : Act3 (n :: N) (s :: S) (d :: D) := by
  intro i hi
  cases i with
  | zero => simp at hi; simp [h hi]
  | succ i => simpa using k i (by simpa using hi)
theorem Act3.app {N N' : List Node_2} {S S' : List Int} {D D' : List Bool} (h1 : N.length = D.length) (h2 : S.length = D.length) (h : Act3 N S D) (k : Act3 N' S' D') : Act3 (N ++ N') (S ++ S') (D ++ D') := by
  intro i hi
  rcases Nat.lt_or_ge i D.length with hl | hl
  · rw [List.getElem?_append_left hl] at hi
    rw [List.getElem?_append_left (by omega), List.getElem?_append_left (by omega)]
    exact h i hi
  · rw [List.getElem?_append_right hl] at hi
    rw [List.getElem?_append_right (by omega), List.getElem?_append_right (by omega), h1, h2]
    exact k _ hi
end Go.Proofs.YtcdboppghnchpaaDoor

namespace Go.Proofs.YtcdboppghnchpaaDoor
open Go Go.Proofs.YtcdboppghnchpaaDoor.Gw
set_option linter.unusedVariables false

/- ### The tree of a mission -/
def segN (i : Nat) (t : Task) : Node := .mk 8 0 t.Limit [.mk 7 0 t.Tries [.mk 4 0 0 [.mk 2 (i : Int) 0 [], .mk 1 (i : Int) 0 [], .mk 3 0 0 [.mk 1 ((32 + i : Nat) : Int) 0 [], .mk 2 63 0 []]]]]
def segs : Nat → List Task → List Node
  | _, [] => []
  | i, t :: ts => segN i t :: segs (i + 1) ts
def mT (T : List Task) : Node := .mk 3 0 0 (segs 0 T)
def kidC : List ST → Int
  | [] => 0
  | z :: _ => z.c
/-- The counters of a task: the ticks it ran, the tries that failed. -/
def cnt (y : ST) : Int × Int := (y.c, kidC y.ks)
def sR (A : List Int) (i : Nat) (t : Task) (r f : Int) : Int × Int × Int :=
  if actS A (i : Int) = 2 then (2, 0, 0)
  else if actS A (i : Int) = 3 ∧ actS A ((32 + i : Nat) : Int) ≠ 1 then (if f + 1 < t.Tries then (if r + 1 = t.Limit then 3 else 1, r + 1, f + 1) else (3, r, f + 1))
  else (if r + 1 = t.Limit then 3 else 1, r + 1, f)
theorem segs_one {u : Node} {ss : List ST} (h : wfs [u] ss) : ∃ y, ss = [y] ∧ wf u y := by
  cases ss with
  | nil => exact h.elim
  | cons y ss => cases ss with
    | nil => exact ⟨y, rfl, h.1⟩
    | cons a b => exact h.2.elim
theorem segs_two {u v : Node} {ss : List ST} (h : wfs [u, v] ss) : ∃ y z, ss = [y, z] ∧ wf u y ∧ wf v z := by
  cases ss with
  | nil => exact h.elim
  | cons y ss =>
    obtain ⟨z, rfl, hz⟩ := segs_one h.2
    exact ⟨y, z, rfl, h.1, hz⟩
theorem segs_three {u v w : Node} {ss : List ST} (h : wfs [u, v, w] ss) : ∃ x y z, ss = [x, y, z] ∧ wf u x ∧ wf v y ∧ wf w z := by
  cases ss with
  | nil => exact h.elim
  | cons y ss =>
    obtain ⟨z, z', rfl, hz⟩ := segs_two h.2
    exact ⟨y, z, z', rfl, h.1, hz⟩
theorem wf_seg {i : Nat} {t : Task} {y : ST} (h : wf (segN i t) y) : ∃ s a s1 a1 c2 s2 a2 d1 t1 b1 l1 d2 t2 b2 l2 c3 s3 a3 d4 t4 b4 l4 d5 t5 b5 l5, y = .mk (cnt y).1 s a [.mk (cnt y).2 s1 a1 [.mk c2 s2 a2 [.mk d1 t1 b1 l1, .mk d2 t2 b2 l2, .mk c3 s3 a3 [.mk d4 t4 b4 l4, .mk d5 t5 b5 l5]]]] := by
  obtain ⟨c, s, a, ks⟩ := y
  rw [wf_eq] at h
  obtain ⟨z, rfl, hz⟩ := segs_one h.2
  obtain ⟨c1, s1, a1, ks1⟩ := z
  rw [wf_eq] at hz
  obtain ⟨z, rfl, hy⟩ := segs_one hz.2
  obtain ⟨c2, s2, a2, ks2⟩ := z
  rw [wf_eq] at hy
  obtain ⟨⟨d1, t1, b1, l1⟩, ⟨d2, t2, b2, l2⟩, ⟨c3, s3, a3, ks3⟩, rfl, h1, h2, h3⟩ := segs_three hy.2
  rw [wf_eq] at h3
  obtain ⟨⟨d4, t4, b4, l4⟩, ⟨d5, t5, b5, l5⟩, rfl, h4, h5⟩ := segs_two h3.2
  exact ⟨s, a, s1, a1, c2, s2, a2, d1, t1, b1, l1, d2, t2, b2, l2, c3, s3, a3, d4, t4, b4, l4, d5, t5, b5, l5, rfl⟩
theorem wf_lim {i : Nat} {t : Task} {y : ST} (h : wf (segN i t) y) : 0 ≤ (cnt y).1 ∧ ((cnt y).1 = 0 ∨ (cnt y).1 < t.Limit) ∧ 0 ≤ (cnt y).2 ∧ ((cnt y).2 = 0 ∨ (cnt y).2 < t.Tries) := by
  obtain ⟨c, s, a, ks⟩ := y
  rw [wf_eq] at h
  obtain ⟨z, rfl, hz⟩ := segs_one h.2
  rw [wf_eq] at hz
  have h1 := h.1
  have h2 := hz.1
  simp only [segN, ST.c] at h1 h2
  simp only [cnt, kidC, ST.c, ST.ks]
  refine ⟨h1.1, ?_, h2.1, ?_⟩
  · rcases h1.2 with h | h
    · exact .inl h
    · exact .inr h.2
  · rcases h2.2 with h | h
    · exact .inl h
    · exact .inr h.2
theorem kidC_set (ts : List Node) (ss : List ST) : kidC (setsD false ts ss) = 0 := by
  cases ts with
  | nil => cases ss <;> rfl
  | cons t ts => cases ss with
    | nil => rfl
    | cons s ss => simp only [setsD, kidC]; rw [setD_eq]; simp [ST.c]
theorem cnt_stop {t : Node} {x : ST} (h : x.s ≠ 1) (b : Bool) : cnt (setD b t x) = (0, 0) := by
  rw [setD_eq]
  have e : (b && decide (x.s = 1)) = false := by simp [h]
  simp only [e, cnt, ST.c, ST.ks, kidC_set]
  rfl
theorem seg_done {A : List Int} {B : List Bool} {i : Nat} {t : Task} {y : ST} (hy : wf (segN i t) y) (hB : tstS B (i : Int) = 2) : (tickD A B (segN i t) y).s = 2 ∧ ∀ k, tkd k (segN i t) (tickD A B (segN i t) y) = [] := by
  obtain ⟨s, a, s1, a1, c2, s2, a2, d1, t1, b1, l1, d2, t2, b2, l2, c3, s3, a3, d4, t4, b4, l4, d5, t5, b5, l5, hy⟩ := wf_seg hy
  generalize (cnt y).1 = r at hy
  generalize (cnt y).2 = f at hy
  subst hy
  unfold segN
  constructor
  · simp [tickD, chD, allD, firstS, kidS, decS, decC, ST.s, hB]
  · intro k
    simp [tickD, chD, allD, firstS, kidS, decS, decC, ST.s, hB, tkd, tkds, clr, clrs]
theorem seg_tick {A : List Int} {B : List Bool} {i : Nat} {t : Task} {y : ST} {r f : Int} (hy : wf (segN i t) y) (hc : cnt y = (r, f)) (hB : tstS B (i : Int) = 3) (hB' : tstS B 63 = 3) :
    (tickD A B (segN i t) y).s = (sR A i t r f).1 ∧ (∀ k, tkd k (segN i t) (tickD A B (segN i t) y) = if actS A (i : Int) = 3 then [((k + 4 : Nat) : Int), ((k + 6 : Nat) : Int)] else [((k + 4 : Nat) : Int)]) ∧
      ((sR A i t r f).1 = 1 → cnt (setD true (segN i t) (tickD A B (segN i t) y)) = (sR A i t r f).2) := by
  obtain ⟨s, a, s1, a1, c2, s2, a2, d1, t1, b1, l1, d2, t2, b2, l2, c3, s3, a3, d4, t4, b4, l4, d5, t5, b5, l5, hy⟩ := wf_seg hy
  rw [hc] at hy
  dsimp only at hy
  subst hy
  have ra := actS_rng A (i : Int)
  have rb := actS_rng A ((32 + i : Nat) : Int)
  unfold segN sR
  rcases (show actS A (i : Int) = 1 ∨ actS A (i : Int) = 2 ∨ actS A (i : Int) = 3 by omega) with ha | ha | ha
  · by_cases hl : r + 1 = t.Limit <;> simp [tickD, chD, allD, firstS, kidS, decS, decC, ST.s, hB, hB', ha, hl, tkd, tkds, clr, clrs, setD, setsD, cnt, kidC, ST.c, ST.ks, nsz, nszs] <;> (try (intros; omega))
  · simp [tickD, chD, allD, firstS, kidS, decS, decC, ST.s, hB, hB', ha, tkd, tkds, clr, clrs, setD, setsD, cnt, kidC, ST.c, ST.ks, nsz, nszs] <;> (try (intros; omega))
  · rw [show ((32 + i : Nat) : Int) = 32 + (i : Int) by omega] at rb ⊢
    have h2 : actS A (32 + (i : Int)) = 1 ∨ actS A (32 + (i : Int)) = 2 ∨ actS A (32 + (i : Int)) = 3 := by omega
    generalize hq : actS A (32 + (i : Int)) = q at h2
    rcases h2 with rfl | rfl | rfl
    · by_cases hl : r + 1 = t.Limit <;> simp [tickD, chD, allD, firstS, kidS, decS, decC, ST.s, hB, hB', ha, hq, hl, tkd, tkds, clr, clrs, setD, setsD, cnt, kidC, ST.c, ST.ks, nsz, nszs] <;> (try (intros; omega))
    · by_cases hf : f + 1 < t.Tries <;> by_cases hl : r + 1 = t.Limit <;> simp [tickD, chD, allD, firstS, kidS, decS, decC, ST.s, hB, hB', ha, hq, hf, hl, tkd, tkds, clr, clrs, setD, setsD, cnt, kidC, ST.c, ST.ks, nsz, nszs] <;> (try (intros; omega))
    · by_cases hf : f + 1 < t.Tries <;> by_cases hl : r + 1 = t.Limit <;> simp [tickD, chD, allD, firstS, kidS, decS, decC, ST.s, hB, hB', ha, hq, hf, hl, tkd, tkds, clr, clrs, setD, setsD, cnt, kidC, ST.c, ST.ks, nsz, nszs] <;> (try (intros; omega))
end Go.Proofs.YtcdboppghnchpaaDoor

namespace Go.Proofs.YtcdboppghnchpaaDoor
open Go Go.Proofs.YtcdboppghnchpaaDoor.Gw
set_option linter.unusedVariables false

/- ### A tick of a mission -/
/-- Status, last, done, and the counters of the first task that is not done. -/
def goM (A : List Int) : List Task → Nat → Int → Int → Int → Int × Int × Nat × Int × Int
  | [], d, r, f, last => (2, last, d, r, f)
  | t :: ts, d, r, f, last => if actS A (d : Int) = 2 then goM A ts (d + 1) 0 0 (d : Int)
    else ((sR A d t r f).1, if actS A (d : Int) = 3 then ((32 + d : Nat) : Int) else (d : Int), d, (sR A d t r f).2.1, (sR A d t r f).2.2)
def goT (A : List Int) : List Task → Nat → List Int
  | [], _ => []
  | _ :: ts, d => if actS A (d : Int) = 2 then ((5 + 8 * d : Nat) : Int) :: goT A ts (d + 1)
    else if actS A (d : Int) = 3 then [((5 + 8 * d : Nat) : Int), ((7 + 8 * d : Nat) : Int)] else [((5 + 8 * d : Nat) : Int)]
/-- Only the kid of the number d has counters. -/
def Stt : Nat → Int → Int → List ST → Prop
  | _, _, _, [] => True
  | 0, r, f, y :: ys => cnt y = (r, f) ∧ ∀ z ∈ ys, cnt z = (0, 0)
  | d + 1, r, f, y :: ys => cnt y = (0, 0) ∧ Stt d r f ys
theorem goM_rng (A : List Int) : ∀ (ts : List Task) (d : Nat) (r f last : Int), d ≤ (goM A ts d r f last).2.2.1 ∧ (goM A ts d r f last).2.2.1 ≤ d + ts.length
  | [], d, r, f, last => by simp [goM]
  | t :: ts, d, r, f, last => by
    unfold goM
    split
    · have := goM_rng A ts (d + 1) 0 0 (d : Int)
      simp only [List.length_cons]; omega
    · simp
theorem Stt.zero : ∀ {ys : List ST}, (∀ z ∈ ys, cnt z = (0, 0)) → ∀ d, Stt d 0 0 ys
  | [], _, d => by cases d <;> trivial
  | y :: ys, h, 0 => ⟨h y (by simp), fun z hz => h z (by simp [hz])⟩
  | y :: ys, h, d + 1 => ⟨h y (by simp), Stt.zero (fun z hz => h z (by simp [hz])) d⟩
theorem clr_zero {b : Bool} : ∀ (ts : List Node) (ss : List ST), ∀ z ∈ setsD b ts (clrs ss), cnt z = (0, 0)
  | [], ss, z, hz => by cases ss <;> simp [setsD] at hz
  | t :: ts, [], z, hz => by simp [clrs, setsD] at hz
  | t :: ts, s :: ss, z, hz => by
    simp only [clrs, setsD, List.mem_cons] at hz
    rcases hz with rfl | hz
    · exact cnt_stop (by rw [clr_eq]; simp [ST.s]) b
    · exact clr_zero ts ss z hz
theorem seg_sz (i : Nat) (t : Task) : nsz (segN i t) = 8 := by simp [segN, nsz, nszs]
theorem segs_sz : ∀ (T : List Task) (i : Nat), nszs (segs i T) = 8 * T.length
  | [], i => rfl
  | t :: T, i => by simp only [segs, nszs, seg_sz, segs_sz T, List.length_cons]; omega
theorem sR_one {A : List Int} {i : Nat} {t : Task} {r f : Int} (h : actS A (i : Int) ≠ 2) : (sR A i t r f).1 ≠ 2 := by
  unfold sR
  rw [if_neg h]
  split <;> (try split) <;> (try split) <;> simp
theorem sR_two {A : List Int} {i : Nat} {t : Task} {r f : Int} (h : actS A (i : Int) = 2) : sR A i t r f = (2, 0, 0) := by
  unfold sR; rw [if_pos h]
theorem chain_core {A : List Int} {B : List Bool} (hB' : tstS B 63 = 3) : ∀ (ts : List Task) (d : Nat) (r f last : Int) (ys : List ST), wfs (segs d ts) ys → Stt 0 r f ys → (∀ j : Nat, d ≤ j → j < d + ts.length → tstS B (j : Int) = 3) →
    firstS 2 (chD A B 2 (segs d ts) ys) = (goM A ts d r f last).1 ∧ tkds (1 + 8 * d) (segs d ts) (chD A B 2 (segs d ts) ys) = goT A ts d ∧ ((goM A ts d r f last).1 = 1 → Stt ((goM A ts d r f last).2.2.1 - d) (goM A ts d r f last).2.2.2.1 (goM A ts d r f last).2.2.2.2 (setsD true (segs d ts) (chD A B 2 (segs d ts) ys)))
  | [], d, r, f, last, [], _, _, _ => by simp [segs, chD, firstS, goM, goT, tkds]
  | [], d, r, f, last, _ :: _, h, _, _ => h.elim
  | _ :: _, d, r, f, last, [], h, _, _ => h.elim
  | t :: ts, d, r, f, last, y :: ys, hw, hc, hB => by
    obtain ⟨h1, h2, h3⟩ := seg_tick (A := A) (B := B) hw.1 hc.1 (hB d (by omega) (by simp)) hB'
    have hk := h2 (1 + 8 * d)
    simp only [segs, chD]
    unfold goM goT
    by_cases ha : actS A (d : Int) = 2
    · rw [if_pos ha, if_pos ha]
      rw [sR_two ha] at h1
      dsimp only at h1
      obtain ⟨i1, i2, i3⟩ := chain_core hB' ts (d + 1) 0 0 (d : Int) ys hw.2 (Stt.zero hc.2 0) (fun j h1 h2 => hB j (by omega) (by simp only [List.length_cons]; omega))
      rw [if_pos h1]
      simp only [firstS, tkds, setsD, if_pos h1]
      refine ⟨i1, ?_, fun h => ?_⟩
      · rw [hk, if_neg (by omega), seg_sz, show 1 + 8 * d + 8 = 1 + 8 * (d + 1) by omega, i2, show 1 + 8 * d + 4 = 5 + 8 * d by omega]; rfl
      · have hg := goM_rng A ts (d + 1) 0 0 (d : Int)
        rw [show (goM A ts (d + 1) 0 0 (d : Int)).2.2.1 - d = ((goM A ts (d + 1) 0 0 (d : Int)).2.2.1 - (d + 1)) + 1 by omega]
        exact ⟨cnt_stop (by rw [h1]; decide) true, i3 h⟩
    · rw [if_neg ha, if_neg ha]
      have hs : ¬ (tickD A B (segN d t) y).s = 2 := by rw [h1]; exact sR_one ha
      rw [if_neg hs]
      simp only [firstS, tkds, setsD, if_neg hs]
      refine ⟨h1, ?_, fun h => ?_⟩
      · rw [hk, tkds_clrs, List.append_nil, show 1 + 8 * d + 4 = 5 + 8 * d by omega, show 1 + 8 * d + 6 = 7 + 8 * d by omega]
      · rw [Nat.sub_self]
        exact ⟨h3 h, clr_zero _ _⟩
theorem chain_pre {A : List Int} {B : List Bool} (hB' : tstS B 63 = 3) : ∀ (e : Nat) (ts : List Task) (i : Nat) (r f last : Int) (ys : List ST), e ≤ ts.length → wfs (segs i ts) ys → Stt e r f ys → (∀ j : Nat, i ≤ j → j < i + e → tstS B (j : Int) = 2) → (∀ j : Nat, i + e ≤ j → j < i + ts.length → tstS B (j : Int) = 3) →
    firstS 2 (chD A B 2 (segs i ts) ys) = (goM A (ts.drop e) (i + e) r f last).1 ∧ tkds (1 + 8 * i) (segs i ts) (chD A B 2 (segs i ts) ys) = goT A (ts.drop e) (i + e) ∧ ((goM A (ts.drop e) (i + e) r f last).1 = 1 → Stt ((goM A (ts.drop e) (i + e) r f last).2.2.1 - i) (goM A (ts.drop e) (i + e) r f last).2.2.2.1 (goM A (ts.drop e) (i + e) r f last).2.2.2.2 (setsD true (segs i ts) (chD A B 2 (segs i ts) ys)))
  | 0, ts, i, r, f, last, ys, _, hw, hc, _, hB => by
    have := chain_core (A := A) hB' ts i r f last ys hw hc (fun j h1 h2 => hB j (by omega) h2)
    simpa using this
  | e + 1, [], i, r, f, last, ys, h, _, _, _, _ => by simp at h
  | e + 1, t :: ts, i, r, f, last, [], _, hw, _, _, _ => hw.elim
  | e + 1, t :: ts, i, r, f, last, y :: ys, he, hw, hc, h2, h3 => by
    obtain ⟨s1, s2⟩ := seg_done (A := A) (B := B) hw.1 (h2 i (by omega) (by omega))
    obtain ⟨i1, i2, i3⟩ := chain_pre (A := A) hB' e ts (i + 1) r f last ys (by simpa using he) hw.2 hc.2 (fun j h1 h => h2 j (by omega) (by omega)) (fun j h1 h => h3 j (by omega) (by simp only [List.length_cons]; omega))
    simp only [segs, chD, if_pos s1, firstS, tkds, setsD, List.drop_succ_cons]
    rw [s2, List.nil_append, seg_sz, show 1 + 8 * i + 8 = 1 + 8 * (i + 1) by omega, show i + (e + 1) = i + 1 + e by omega]
    refine ⟨i1, i2, fun h => ?_⟩
    have hg := goM_rng A (ts.drop e) (i + 1 + e) r f last
    rw [show (goM A (ts.drop e) (i + 1 + e) r f last).2.2.1 - i = ((goM A (ts.drop e) (i + 1 + e) r f last).2.2.1 - (i + 1)) + 1 by omega]
    exact ⟨cnt_stop (by rw [s1]; decide) true, i3 h⟩

/- ### The flags -/
def Dn (m d : Nat) : List Bool := List.replicate d true ++ List.replicate (m - d) false
theorem Dn_len {m d : Nat} (h : d ≤ m) : (Dn m d).length = m := by simp [Dn]; omega
theorem Dn_get {m d j : Nat} (h : d ≤ m) (hj : j < m) : (Dn m d)[j]? = some (decide (j < d)) := by
  unfold Dn
  rcases Nat.lt_or_ge j d with h' | h'
  · rw [List.getElem?_append_left (by simpa using h')]; simp [h']
  · rw [List.getElem?_append_right (by simpa using h'), List.getElem?_replicate, if_pos (by simp; omega), decide_eq_false (by omega)]
theorem Dn_set {m d : Nat} (h : d < m) : (Dn m d).set d true = Dn m (d + 1) := by
  unfold Dn
  rw [List.set_append_right _ _ (by simp), show m - d = (m - (d + 1)) + 1 by omega, List.replicate_succ, List.replicate_succ']
  simp
theorem Dn_tst {m d j : Nat} (h : d ≤ m) (hj : j < m) : tstS (Dn m d) (j : Int) = if j < d then 2 else 3 := by
  unfold tstS
  rw [idx_nat, Dn_get h hj]
  by_cases h' : j < d <;> simp [h']
theorem Dn_63 {m d : Nat} (h : d ≤ m) (hm : m ≤ 7) : tstS (Dn m d) 63 = 3 := by
  have e : idx (Dn m d) 63 = none := by
    show idx (Dn m d) ((63 : Nat) : Int) = none
    rw [idx_nat]; exact List.getElem?_eq_none (by rw [Dn_len h]; omega)
  unfold tstS; rw [e]
def stp (A : List Int) (D : List Bool × Int) (v : Int) : List Bool × Int :=
  if (v.toNat - 1) % 8 = 4 then (if actS A (((v.toNat - 1) / 8 : Nat) : Int) = 2 then D.1.set ((v.toNat - 1) / 8) true else D.1, (((v.toNat - 1) / 8 : Nat) : Int))
  else (D.1, ((32 + (v.toNat - 1) / 8 : Nat) : Int))
theorem goT_form (A : List Int) : ∀ (ts : List Task) (d : Nat), ∀ v ∈ goT A ts d, ∃ i : Nat, i < d + ts.length ∧ (v = ((5 + 8 * i : Nat) : Int) ∨ v = ((7 + 8 * i : Nat) : Int))
  | [], d, v, hv => by simp [goT] at hv
  | t :: ts, d, v, hv => by
    unfold goT at hv
    simp only [List.length_cons]
    split at hv
    · rcases List.mem_cons.1 hv with rfl | hv
      · exact ⟨d, by omega, .inl rfl⟩
      · obtain ⟨i, h1, h2⟩ := goT_form A ts (d + 1) v hv
        exact ⟨i, by omega, h2⟩
    split at hv
    · simp only [List.mem_cons, List.not_mem_nil, or_false] at hv
      exact ⟨d, by omega, hv⟩
    · simp only [List.mem_cons, List.not_mem_nil, or_false] at hv
      exact ⟨d, by omega, .inl hv⟩
theorem goT_len (A : List Int) : ∀ (ts : List Task) (d : Nat), (goT A ts d).length ≤ 2 * ts.length
  | [], d => by simp [goT]
  | t :: ts, d => by
    unfold goT
    have := goT_len A ts (d + 1)
    split
    · simp only [List.length_cons]; omega
    split <;> simp <;> omega
theorem stp_act {A : List Int} {D : List Bool × Int} {i : Nat} : stp A D ((5 + 8 * i : Nat) : Int) = (if actS A (i : Int) = 2 then D.1.set i true else D.1, (i : Int)) := by
  unfold stp
  rw [Int.toNat_natCast, if_pos (by omega), show (5 + 8 * i - 1) / 8 = i by omega]
theorem stp_alt {A : List Int} {D : List Bool × Int} {i : Nat} : stp A D ((7 + 8 * i : Nat) : Int) = (D.1, ((32 + i : Nat) : Int)) := by
  unfold stp
  rw [Int.toNat_natCast, if_neg (by omega), show (7 + 8 * i - 1) / 8 = i by omega]
theorem fold_go (A : List Int) (m : Nat) : ∀ (ts : List Task) (d : Nat) (r f last : Int), d + ts.length = m → (goT A ts d).foldl (stp A) (Dn m d, last) = (Dn m (goM A ts d r f last).2.2.1, (goM A ts d r f last).2.1)
  | [], d, r, f, last, _ => rfl
  | t :: ts, d, r, f, last, h => by
    simp only [List.length_cons] at h
    unfold goT goM
    by_cases ha : actS A (d : Int) = 2
    · rw [if_pos ha, if_pos ha, List.foldl_cons, stp_act, if_pos ha, Dn_set (by omega)]
      exact fold_go A m ts (d + 1) 0 0 (d : Int) (by omega)
    · rw [if_neg ha, if_neg ha]
      by_cases h3 : actS A (d : Int) = 3
      · rw [if_pos h3, if_pos h3, List.foldl_cons, stp_act, if_neg ha, List.foldl_cons, stp_alt]; rfl
      · rw [if_neg h3, if_neg h3, List.foldl_cons, stp_act, if_neg ha]; rfl
theorem actS_two {A : List Int} {i : Nat} : (actS A (i : Int) = 2 ↔ idx A (i : Int) = some 2) := by
  unfold actS
  cases h : idx A (i : Int) with
  | none => simp
  | some v => simp only [Option.some.injEq]; split <;> omega
theorem marks_ok (A L : List Int) (m : Nat) (hm : m ≤ 7) (hL : L.length ≤ 1000) (D : List Bool) (hD : D.length = m) (last : Int) (hf : ∀ v ∈ L, ∃ i : Nat, i < m ∧ (v = ((5 + 8 * i : Nat) : Int) ∨ v = ((7 + 8 * i : Nat) : Int))) :
    Tot (fun n => loopN (mission_Mission_Tick_L1 A L) n (D, last, 0)) (· = L.foldl (stp A) (D, last)) := by
  have hlen : ∀ (l : List Int) (D : List Bool × Int), (l.foldl (stp A) D).1.length = D.1.length := by
    intro l
    induction l with
    | nil => intro D; rfl
    | cons v l ih =>
      intro D
      rw [List.foldl_cons, ih]
      unfold stp
      split
      · split <;> simp
      · rfl
  refine Tot.loop (fun s => ∃ j : Nat, j ≤ L.length ∧ s = (((L.take j).foldl (stp A) (D, last)).1, ((L.take j).foldl (stp A) (D, last)).2, (j : Int))) (fun s => L.length - s.2.2.toNat) ⟨0, by omega, rfl⟩ ?_
  rintro _ ⟨j, hj, rfl⟩
  have hl := hlen (L.take j) (D, last)
  dsimp only [mission_Mission_Tick_L1] at hl ⊢
  refine Tot.condD (fun hlt => ?_) (fun hge => ?_)
  · obtain ⟨v, v1, v2⟩ := get_some (l := L) (i := j) (by omega)
    obtain ⟨i, hi, hv⟩ := hf v (List.mem_of_getElem? v1)
    have hst : (L.take (j + 1)).foldl (stp A) (D, last) = stp A ((L.take j).foldl (stp A) (D, last)) v := by rw [List.take_add_one, v1, List.foldl_append]; rfl
    generalize (L.take j).foldl (stp A) (D, last) = S at hst hl ⊢
    refine Tot.bind (Tot.mono (Q' := (· = stp A S v)) ?_ ?_)
    · refine Tot.idxv v2 ?_
      have hw : IntKind.i64.wrap (v - 1) = v - 1 := w64 (by omega) (by omega)
      rw [hw]
      rcases hv with rfl | rfl
      · have e : ((5 + 8 * i : Nat) : Int) - 1 = ((4 + 8 * i : Nat) : Int) := by omega
        have e1 : (((4 + 8 * i : Nat) : Int)).tmod 8 = 4 := by
          rw [show (8 : Int) = ((8 : Nat) : Int) from rfl, ← Int.ofNat_tmod]; omega
        have e2 : IntKind.i64.wrap ((((4 + 8 * i : Nat) : Int)).tdiv 8) = (i : Int) := by
          rw [show (8 : Int) = ((8 : Nat) : Int) from rfl, ← Int.ofNat_tdiv, w64 (by omega) (by omega)]; omega
        rw [e, e1, e2, stp_act]
        refine Tot.condE (fun _ => ?_) (fun h => absurd rfl h)
        refine Tot.bind (Tot.mono (Q' := (· = decide (actS A (i : Int) = 2))) ?_ ?_)
        · refine Tot.condD (fun hla => ?_) (fun hla => ?_)
          · obtain ⟨w, w1, w2⟩ := get_some (l := A) (i := i) (by omega)
            refine Tot.idxv w2 (Tot.ret ?_)
            rw [Bool.eq_iff_iff]
            simp [actS_two, w2]
          · refine Tot.ret ?_
            have : idx A (i : Int) = none := by rw [idx_nat]; exact List.getElem?_eq_none (by omega)
            symm
            rw [decide_eq_false_iff_not, actS_two, this]
            simp
        · rintro _ rfl
          refine Tot.condD (fun h2 => ?_) (fun h2 => ?_)
          · obtain ⟨b, b1, b2⟩ := get_some (l := S.1) (i := i) (by omega)
            refine Tot.idxv b2 (Tot.ret ?_)
            rw [if_pos h2]
            unfold upd
            rw [Int.toNat_natCast]
          · exact Tot.ret (by rw [if_neg h2])
      · have e : ((7 + 8 * i : Nat) : Int) - 1 = ((6 + 8 * i : Nat) : Int) := by omega
        have e1 : (((6 + 8 * i : Nat) : Int)).tmod 8 = 6 := by
          rw [show (8 : Int) = ((8 : Nat) : Int) from rfl, ← Int.ofNat_tmod]; omega
        have e2 : IntKind.i64.wrap ((((6 + 8 * i : Nat) : Int)).tdiv 8) = (i : Int) := by
          rw [show (8 : Int) = ((8 : Nat) : Int) from rfl, ← Int.ofNat_tdiv, w64 (by omega) (by omega)]; omega
        rw [e, e1, e2, stp_alt]
        refine Tot.condE (fun h => absurd h (by decide)) (fun _ => ?_)
        refine Tot.condE (fun _ => ?_) (fun h => absurd rfl h)
        refine Tot.ret ?_
        rw [w64 (by omega) (by omega)]
        simp
    · rintro _ rfl
      refine Tot.ret ?_
      dsimp only
      rw [w64 (by omega) (by omega)]
      exact ⟨⟨j + 1, by omega, by rw [hst]; rfl⟩, by omega⟩
  · refine Tot.ret ?_
    dsimp only
    rw [List.take_of_length_le (by omega)]
end Go.Proofs.YtcdboppghnchpaaDoor

namespace Go.Proofs.YtcdboppghnchpaaDoor
open Go Go.Proofs.YtcdboppghnchpaaDoor.Gw
set_option linter.unusedVariables false

/- ### New -/
def goodB (t : Task) : Bool := decide (((t.Kind = 1 ∧ 0 ≤ t.Cell.X ∧ t.Cell.X ≤ 63 ∧ 0 ≤ t.Cell.Y ∧ t.Cell.Y ≤ 63) ∨ ((t.Kind = 2 ∨ t.Kind = 3) ∧ t.Cell.X = 0 ∧ t.Cell.Y = 0)) ∧ (1 ≤ t.Limit ∧ t.Limit ≤ 1000) ∧ 1 ≤ t.Tries ∧ t.Tries ≤ 10)
theorem within_eq (n : Nat) (a b c : Int) : mission_within n a b c = some (decide (b ≤ a ∧ a ≤ c)) := by
  unfold mission_within
  by_cases h : a ≥ b <;> by_cases h' : a ≤ c <;> simp [h, h'] <;> omega
theorem cond_and (p q : Bool) : cond p (some q) (some false) = some (p && q) := by cases p <;> rfl
theorem valid_eq (n : Nat) (t : Task) : mission_valid n t = some (goodB t) := by
  obtain ⟨k, ⟨x, y⟩, l, r⟩ := t
  unfold mission_valid goodB
  simp only [within_eq, Option.bind_some, cond_and]
  by_cases h1 : k = 1
  · subst h1
    simp only [beq_self_eq_true, cond_true, Option.bind_some, Option.some.injEq]
    rw [Bool.eq_iff_iff]
    simp only [Bool.and_eq_true, decide_eq_true_eq]
    constructor
    · rintro ⟨⟨h1, h2⟩, ⟨h3, h4⟩, ⟨h5, h6⟩, h7, h8⟩
      simp
      omega
    · rintro ⟨h1, ⟨h2, h3⟩, h4, h5⟩
      simp at h1
      omega
  rw [beq_eq_false_iff_ne.2 h1]
  by_cases h2 : k = 2
  · subst h2
    simp only [beq_self_eq_true, cond_true, cond_false, Option.bind_some, Option.some.injEq]
    rw [Bool.eq_iff_iff]
    simp only [Bool.and_eq_true, decide_eq_true_eq]
    constructor
    · rintro ⟨⟨h1, h2⟩, ⟨h3, h4⟩, ⟨h5, h6⟩, h7, h8⟩
      simp
      omega
    · rintro ⟨h1, ⟨h2, h3⟩, h4, h5⟩
      simp at h1
      omega
  rw [beq_eq_false_iff_ne.2 h2]
  by_cases h3 : k = 3
  · subst h3
    simp only [beq_self_eq_true, cond_true, cond_false, Option.bind_some, Option.some.injEq]
    rw [Bool.eq_iff_iff]
    simp only [Bool.and_eq_true, decide_eq_true_eq]
    constructor
    · rintro ⟨⟨h1, h2⟩, ⟨h3, h4⟩, ⟨h5, h6⟩, h7, h8⟩
      simp
      omega
    · rintro ⟨h1, ⟨h2, h3⟩, h4, h5⟩
      simp at h1
      omega
  rw [beq_eq_false_iff_ne.2 h3]
  simp only [cond_false, Option.bind_some, Option.some.injEq]
  symm
  rw [decide_eq_false_iff_not]
  omega
theorem segs_app : ∀ (a b : List Task) (i : Nat), segs i (a ++ b) = segs i a ++ segs (i + a.length) b
  | [], b, i => by simp [segs]
  | t :: a, b, i => by simp only [List.cons_append, segs, segs_app a b, List.length_cons]; rw [show i + 1 + a.length = i + (a.length + 1) by omega]
theorem segs_len : ∀ (T : List Task) (i : Nat), (segs i T).length = T.length
  | [], i => rfl
  | t :: T, i => by simp only [segs, List.length_cons, segs_len T]
def codeM (T : List Task) : Int := if T.length > 7 then 6 else if T.all goodB then 0 else 1
theorem all_take {α : Type} {p : α → Bool} {l : List α} {j : Nat} {k : α} (h : l[j]? = some k) (h1 : (l.take j).all p = true) (h2 : p k = true) : (l.take (j + 1)).all p = true := by
  rw [List.take_add_one, h, List.all_append, h1]; simp [h2]
theorem all_not {α : Type} {p : α → Bool} {l : List α} {j : Nat} {k : α} (h : l[j]? = some k) (h2 : p k = false) : l.all p = false := by
  rw [List.all_eq_false]; exact ⟨k, List.mem_of_getElem? h, by simp [h2]⟩
theorem Build_eq (T : List Task) : Evt (fun n => mission_Build n T) (if codeM T = 0 then mT T else Node.mk 0 0 0 [], codeM T) := by
  refine Tot.of_eq ?_
  dsimp only [mission_Build]
  unfold codeM
  refine Tot.condD (fun h => ?_) (fun h => ?_)
  · refine Tot.ret ?_
    rw [if_pos (show T.length > 7 by omega)]; rfl
  rw [if_neg (show ¬ T.length > 7 by omega)]
  refine Tot.bind (Tot.mono (Q' := fun o : Out (List Node) (Node × Int) => (o = .go (segs 0 T) ∧ T.all goodB = true) ∨ (o = .done (Node.mk 0 0 0 [], 1) ∧ T.all goodB = false)) (Tot.loop (fun s => ∃ j : Nat, j ≤ T.length ∧ s = (segs 0 (T.take j), (j : Int)) ∧ (T.take j).all goodB = true) (fun s => T.length - s.2.toNat) ⟨0, by omega, rfl, rfl⟩ ?_) ?_)
  · rintro _ ⟨j, hj, rfl, hall⟩
    dsimp only [mission_Build_L1]
    refine Tot.condD (fun hlt => ?_) (fun hge => ?_)
    · obtain ⟨t, t1, t2⟩ := get_some (l := T) (i := j) (by omega)
      refine Tot.idxv t2 ?_
      refine Tot.bind (Tot.at_ (fun n => valid_eq n t) ?_)
      refine Tot.cond (fun hv => ?_) (fun hv => ?_)
      · simp only [Bool.not_eq_true'] at hv
        exact Tot.ret (.inr ⟨rfl, all_not t1 hv⟩)
      · simp only [Bool.not_eq_false'] at hv
        refine Tot.bind (Tot.at_ (fun n => rfl) ?_)
        refine Tot.app (by rw [segs_len, List.length_take]; simp; omega) (Tot.ret ?_)
        dsimp only
        rw [w64 (by omega) (by omega), w64 (by omega) (by omega)]
        refine ⟨⟨j + 1, by omega, ?_, all_take t1 hall hv⟩, by omega⟩
        rw [List.take_add_one, t1, segs_app]
        simp only [List.length_take, Option.toList_some, segs]
        rw [show 0 + min j T.length = j by omega]
        rfl
    · refine Tot.ret (.inl ?_)
      rw [List.take_of_length_le (by omega)] at hall ⊢
      exact ⟨rfl, hall⟩
  · rintro _ (⟨rfl, h⟩ | ⟨rfl, h⟩)
    · exact Tot.ret (by rw [h]; rfl)
    · exact Tot.ret (by rw [h]; rfl)
theorem vld_seg {i : Nat} {t : Task} (h : goodB t = true) (hi : i < 8) : ∀ d, 5 ≤ d → vld d (segN i t) = true := by
  intro d hd
  obtain ⟨e, rfl⟩ : ∃ e, d = e + 5 := ⟨d - 5, by omega⟩
  simp only [goodB, decide_eq_true_eq] at h
  simp [segN, vld, fitsB]
  omega
theorem vld_segs : ∀ (T : List Task) (i : Nat), T.all goodB = true → i + T.length ≤ 8 → (segs i T).all (vld 15) = true
  | [], i, _, _ => rfl
  | t :: T, i, h, hi => by
    simp only [List.all_cons, Bool.and_eq_true] at h
    simp only [List.length_cons] at hi
    simp only [segs, List.all_cons, vld_seg h.1 (by omega : i < 8) 15 (by omega), vld_segs T (i + 1) h.2 (by omega), Bool.and_self]
theorem mT_sz (T : List Task) : nsz (mT T) = 1 + 8 * T.length := by simp [mT, nsz, segs_sz]
theorem mT_vld {T : List Task} (h : T.all goodB = true) (hm : T.length ≤ 7) : Vld (mT T) = true := by
  unfold Vld
  rw [mT_sz, decide_eq_true (by omega), Bool.true_and]
  show (fitsB (mT T) && (segs 0 T).all (vld 15)) = true
  rw [vld_segs T 0 h (by omega)]
  simp [fitsB, mT]
theorem Vld.okt {t : Node} (h : Vld t = true) : Okt t ∧ nsz t ≤ 64 := by
  simp only [Vld, Bool.and_eq_true, decide_eq_true_eq] at h
  exact ⟨⟨16, h.2⟩, h.1⟩
def newM (T : List Task) : Mission := Mission.mk (newR (mT T)) (List.replicate T.length false) 1 0
theorem NewM_eq (T : List Task) (hT : T.length ≤ 1000000) : Evt (fun n => mission_New n T) (if codeM T = 0 then some (newM T) else none, codeM T) := by
  refine Tot.of_eq ?_
  dsimp only [mission_New]
  refine Tot.bind ⟨_, Build_eq T, ?_⟩
  dsimp only
  by_cases hc : codeM T = 0
  · rw [hc]
    simp only [if_true]
    have hh := hc
    unfold codeM at hh
    split at hh
    · cases hh
    split at hh
    · rename_i h7 hg
      refine Tot.condN (fun h => absurd rfl h) (fun _ => ?_)
      refine Tot.bind ⟨_, New_eq (mT T), ?_⟩
      rw [mT_vld hg (by omega)]
      simp only [if_true]
      rw [mk_nat _ _ (by omega)]
      exact Tot.ret rfl
    · cases hh
  · refine Tot.condN (fun _ => ?_) (fun h => absurd h hc)
    exact Tot.ret (by rw [if_neg hc])

/- ### Tick -/
def MR (T : List Task) (M : Mission) (d : Nat) (r f st tk : Int) : Prop :=
  M.status = st ∧ M.ticks = tk ∧ M.done = Dn T.length d ∧ d ≤ T.length ∧ (st = 1 → ∃ x, wf (mT T) x ∧ M.run = rn (mT T) x ∧ Stt d r f x.ks)
theorem inis_zero : ∀ (T : List Task) (i : Nat), ∀ z ∈ inis (segs i T), cnt z = (0, 0)
  | [], i, z, hz => by simp [segs, inis] at hz
  | t :: T, i, z, hz => by
    simp only [segs, inis, List.mem_cons] at hz
    rcases hz with rfl | hz
    · simp [segN, ini, inis, cnt, kidC, ST.c, ST.ks]
    · exact inis_zero T (i + 1) z hz
theorem MR.start (T : List Task) : MR T (newM T) 0 0 0 1 0 := by
  refine ⟨rfl, rfl, by simp [newM, Dn], by omega, fun _ => ⟨ini (mT T), wf_ini _, newR_eq _, ?_⟩⟩
  rw [ini_eq]
  exact Stt.zero (inis_zero T 0) 0
theorem Stt.get : ∀ {d : Nat} {r f : Int} {ys : List ST} {y : ST}, Stt d r f ys → ys[d]? = some y → cnt y = (r, f)
  | 0, r, f, [], y, _, h => by simp at h
  | d + 1, r, f, [], y, _, h => by simp at h
  | 0, r, f, z :: ys, y, h, k => by simp at k; subst k; exact h.1
  | d + 1, r, f, z :: ys, y, h, k => Stt.get h.2 (by simpa using k)
theorem segs_get : ∀ {T : List Task} {i d : Nat} {t : Task}, T[d]? = some t → (segs i T)[d]? = some (segN (i + d) t)
  | [], i, d, t, h => by simp at h
  | u :: T, i, 0, t, h => by simp at h; subst h; rfl
  | u :: T, i, d + 1, t, h => by
    have := segs_get (T := T) (i := i + 1) (d := d) (t := t) (by simpa using h)
    rw [show i + 1 + d = i + (d + 1) by omega] at this
    simpa [segs] using this
theorem MR.lim {T : List Task} {M : Mission} {d : Nat} {r f tk : Int} {t : Task} (h : MR T M d r f 1 tk) (ht : T[d]? = some t) : 0 ≤ r ∧ (r = 0 ∨ r < t.Limit) ∧ 0 ≤ f ∧ (f = 0 ∨ f < t.Tries) := by
  obtain ⟨_, _, _, _, hx⟩ := h
  obtain ⟨x, hw, _, hS⟩ := hx rfl
  rw [wf_eq] at hw
  obtain ⟨y, hy, hwy⟩ := wfs_get hw.2 (segs_get (i := 0) ht)
  have hc := hS.get hy
  have := wf_lim hwy
  rw [hc] at this
  exact this
theorem tick_end {M : Mission} (h : M.status ≠ 1) (A : List Int) : Evt (fun n => mission_Mission_Tick n M A) (0, 0, 9, M) := by
  refine Tot.of_eq ?_
  dsimp only [mission_Mission_Tick]
  exact Tot.condN (fun _ => Tot.ret rfl) (fun h' => absurd h' h)
end Go.Proofs.YtcdboppghnchpaaDoor

namespace Go.Proofs.YtcdboppghnchpaaDoor
open Go Go.Proofs.YtcdboppghnchpaaDoor.Gw
set_option linter.unusedVariables false

/- ### Strings as lists of bytes -/
def bs (l : List UInt8) : ByteArray := ⟨l.toArray⟩
theorem bs_data (l : List UInt8) : (bs l).data.toList = l := rfl
theorem bs_toList (l : List UInt8) : (bs l).toList = l := by rw [Lib.toList_data]; rfl
theorem bs_size (l : List UInt8) : (bs l).size = l.length := rfl
theorem bs_of (s : ByteArray) : s = bs s.data.toList := rfl
theorem beq_list (a b : List UInt8) : (a == b) = decide (a = b) := by
  by_cases h : a = b
  · simp [h]
  · simp [h]
/- ### Decimal numerals -/
theorem dec_small {u : Nat} (h : u < 10) : Lib.decDigits u = [UInt8.ofNat (48 + u)] := by rw [Lib.decDigits, dif_pos h]
theorem dec_big {u : Nat} (h : ¬ u < 10) : Lib.decDigits u = Lib.decDigits (u / 10) ++ [UInt8.ofNat (48 + u % 10)] := by rw [Lib.decDigits, dif_neg h]
theorem dec_len : ∀ (k r : Nat), r < 10 ^ (k + 1) → (Lib.decDigits r).length ≤ k + 1
  | 0, r, h => by rw [dec_small (by simpa using h)]; simp
  | k + 1, r, h => by
    by_cases h2 : r < 10
    · rw [dec_small h2]; simp
    · rw [dec_big h2, List.length_append]
      have := dec_len k (r / 10) (by rw [Nat.pow_succ] at h; omega)
      simp only [List.length_cons, List.length_nil]; omega
end Go.Proofs.YtcdboppghnchpaaDoor

namespace Go.Proofs.YtcdboppghnchpaaDoor
open Go Go.Proofs.YtcdboppghnchpaaDoor.Gw
set_option linter.unusedVariables false

/- ### The reference's text -/
theorem bs_nil_beq (l : List UInt8) : ((bs l).toList == (ByteArray.mk #[]).toList) = decide (l = []) := by
  have : (ByteArray.mk #[]).toList = [] := bs_toList []
  rw [this, bs_toList, beq_list]
end Go.Proofs.YtcdboppghnchpaaDoor

namespace Go.Proofs.YtcdboppghnchpaaDoor
open Go Go.Proofs.YtcdboppghnchpaaDoor.Gw
set_option linter.unusedVariables false

/- ### Reading: bytes -/
def isD (c : UInt8) : Bool := decide (48 ≤ c.toNat ∧ c.toNat ≤ 57)
theorem bidx_bs (l : List UInt8) (i : Nat) : bidx (bs l) (i : Int) = (l[i]?).map fun b => (b.toNat : Int) := by
  unfold bidx
  rw [if_pos (by omega), Int.toNat_natCast]
  congr 1
  by_cases h : i < l.length
  · rw [List.getElem?_eq_getElem h, getElem?_pos (bs l) i h]
    rfl
  · rw [List.getElem?_eq_none (by omega), getElem?_neg (bs l) i h]
theorem bidx_at {l : List UInt8} {z : Int} {i : Nat} {c : UInt8} (hz : z = (i : Int)) (h : l[i]? = some c) : bidx (bs l) z = some (c.toNat : Int) := by
  subst hz; rw [bidx_bs, h]; rfl
theorem scut_bs (l : List UInt8) {lo hi : Int} {a b : Nat} (h1 : lo = (a : Int)) (h2 : hi = (b : Int)) (hab : a ≤ b) (hb : b ≤ l.length) : scut (bs l) lo hi = some (bs ((l.drop a).take (b - a))) := by
  subst h1; subst h2
  unfold scut
  rw [if_pos ⟨by omega, by omega, by rw [bs_size]; omega⟩, Int.toNat_natCast, Int.toNat_natCast]
  congr 1
  rw [bs_of ((bs l).extract a b), Lib.extract_data, bs_data]
theorem Tot.bidxv {α : Type} {s : ByteArray} {i x : Int} {h : Nat → Int → Option α} {Q : α → Prop} (e : bidx s i = some x) (k : Tot (fun n => h n x) Q) : Tot (fun n => (bidx s i).bind (h n)) Q := Tot.bind (Tot.val e k)
theorem all_snoc (l : List UInt8) (c : UInt8) : (l ++ [c]).all isD = (l.all isD && isD c) := by simp
/-- The sign and the digits of a text. -/
def split (l : List UInt8) : Bool × List UInt8 := match l with | [] => (false, []) | c :: d => if c = 45 then (true, d) else (false, c :: d)
/- ### Reading: numbers -/
def numV (l : List UInt8) : Nat := l.foldl (fun a c => a * 10 + (c.toNat - 48)) 0
theorem numV_snoc (l : List UInt8) (c : UInt8) : numV (l ++ [c]) = numV l * 10 + (c.toNat - 48) := by unfold numV; rw [List.foldl_append]; rfl
theorem dec_num (u : Nat) : numV (Lib.decDigits u) = u ∧ (Lib.decDigits u).all isD = true ∧ (0 < u → ∃ c t, Lib.decDigits u = c :: t ∧ c ≠ 48) := by
  induction u using Nat.strongRecOn with
  | _ u ih =>
    have dig1 : ∀ r, r < 10 → (UInt8.ofNat (48 + r)).toNat = 48 + r := fun r hr => by
      rw [UInt8.toNat_ofNat']; omega
    by_cases h : u < 10
    · rw [dec_small h]
      refine ⟨by show 0 * 10 + ((UInt8.ofNat (48 + u)).toNat - 48) = u; rw [dig1 u h]; omega, by simp [isD, dig1 u h]; omega, fun h0 => ⟨_, [], rfl, fun e => ?_⟩⟩
      have := congrArg UInt8.toNat e
      rw [dig1 u h] at this
      have h48 : (48 : UInt8).toNat = 48 := rfl
      rw [h48] at this; omega
    · obtain ⟨i1, i2, i3⟩ := ih (u / 10) (by omega)
      rw [dec_big h]
      refine ⟨by rw [numV_snoc, i1, dig1 _ (by omega)]; omega, by rw [all_snoc, i2]; simp [isD, dig1 (u % 10) (by omega)]; omega, fun _ => ?_⟩
      obtain ⟨c, t, e, hc⟩ := i3 (by omega)
      exact ⟨c, t ++ [UInt8.ofNat (48 + u % 10)], by rw [e]; rfl, hc⟩
end Go.Proofs.YtcdboppghnchpaaDoor

namespace Go.Proofs.YtcdboppghnchpaaDoor
open Go Go.Proofs.YtcdboppghnchpaaDoor.Gw
set_option linter.unusedVariables false

theorem Tot.cut {α β : Type} {f : Nat → Option α} {h : Nat → α → Option β} {Q : β → Prop} (r : α) (k : Tot f (· = r)) (k2 : Tot (fun n => h n r) Q) : Tot (fun n => (f n).bind (h n)) Q := Tot.bind (Tot.mono k (by rintro _ rfl; exact k2))
/- ### The text of a tree -/
def ltr (k : Int) : UInt8 := if k = 1 then 97 else if k = 2 then 116 else if k = 3 then 115 else if k = 4 then 102 else if k = 5 then 112 else if k = 6 then 105 else if k = 7 then 114 else 111
def dec (x : Int) : List UInt8 := Lib.decDigits x.toNat
def ctx (c : Int) : List UInt8 := if 0 < c then dec c else []
mutual
def txt : Node → List UInt8
  | .mk k nm c ks => if k = 1 ∨ k = 2 then ltr k :: dec nm else 40 :: ltr k :: (ctx c ++ (txts ks ++ [41]))
def txts : List Node → List UInt8
  | [] => []
  | t :: ts => 32 :: (txt t ++ txts ts)
end
theorem txt_leaf {t : Node} (h : t.Kind = 1 ∨ t.Kind = 2) : txt t = ltr t.Kind :: dec t.Name := by cases t; simp only [txt]; rw [if_pos h]
theorem txt_inner {t : Node} (h : ¬ (t.Kind = 1 ∨ t.Kind = 2)) : txt t = 40 :: ltr t.Kind :: (ctx t.Count ++ (txts t.Kids ++ [41])) := by cases t; simp only [txt]; rw [if_neg h]
theorem txts_app (a b : List Node) : txts (a ++ b) = txts a ++ txts b := by
  induction a with
  | nil => simp [txts]
  | cons x a ih => simp only [List.cons_append, txts, ih, List.append_assoc]
theorem txts_step {l : List Node} {j : Nat} {t : Node} (h : l[j]? = some t) : txts (l.take (j + 1)) = txts (l.take j) ++ 32 :: txt t := by
  rw [List.take_add_one, h, txts_app]; simp [txts]
theorem fit_cases {t : Node} (h : fitsB t = true) (hn : nsz t ≤ 64) : ((t.Kind = 1 ∨ t.Kind = 2) ∧ 0 ≤ t.Name ∧ t.Name < 64 ∧ t.Count = 0 ∧ t.Kids = []) ∨
    (3 ≤ t.Kind ∧ t.Kind ≤ 8 ∧ t.Name = 0 ∧ t.Count ≤ 1000 ∧ ((t.Kind = 5 ∨ t.Kind = 7 ∨ t.Kind = 8) ∧ 1 ≤ t.Count ∨ (t.Kind = 3 ∨ t.Kind = 4 ∨ t.Kind = 6) ∧ t.Count = 0)) := by
  have hk := nszs_len t.Kids
  rw [nsz_eq] at hn
  unfold fitsB at h
  split at h
  · rename_i h1
    simp only [decide_eq_true_eq] at h
    exact .inl ⟨h1, h.1, h.2.1, h.2.2.1, List.eq_nil_of_length_eq_zero h.2.2.2⟩
  · right
    split at h
    · simp only [decide_eq_true_eq] at h; omega
    · split at h
      · simp only [decide_eq_true_eq] at h; omega
      · split at h
        · simp only [decide_eq_true_eq] at h; omega
        · split at h
          · simp only [decide_eq_true_eq] at h; omega
          · cases h
theorem vld_fit {d : Nat} {t : Node} (h : vld d t = true) : ∃ d', d = d' + 1 ∧ fitsB t = true ∧ ∀ k ∈ t.Kids, vld d' k = true := by
  cases d with
  | zero => simp [vld] at h
  | succ d =>
    simp only [vld, Bool.and_eq_true, List.all_eq_true] at h
    exact ⟨d, rfl, h.1, h.2⟩
theorem dec_small3 {x : Int} (h : x < 64) : (dec x).length ≤ 2 := dec_len 1 x.toNat (by omega)
theorem dec_small4 {x : Int} (h : x ≤ 1000) : (dec x).length ≤ 4 := dec_len 3 x.toNat (by omega)
theorem ctx_len {x : Int} (h : x ≤ 1000) : (ctx x).length ≤ 4 := by
  unfold ctx; split
  · exact dec_small4 h
  · simp
theorem txt_len : ∀ (d : Nat) (t : Node), vld d t = true → nsz t ≤ 64 → (txt t).length + 1 ≤ 8 * nsz t := by
  intro d
  induction d with
  | zero => intro t h; simp [vld] at h
  | succ d ih =>
    intro t h hn
    obtain ⟨_, rfl', hf, hks⟩ := vld_fit h
    cases rfl'
    have key : ∀ (l : List Node), (∀ x ∈ l, vld d x = true) → nszs l ≤ 64 → (txts l).length ≤ 8 * nszs l := by
      intro l
      induction l with
      | nil => intro _ _; simp [txts]
      | cons x l ihl =>
        intro hl hm
        simp only [nszs] at hm ⊢
        simp only [txts, List.length_cons, List.length_append]
        have h1 := ih x (hl x (by simp)) (by omega)
        have h2 := ihl (fun y hy => hl y (by simp [hy])) (by omega)
        omega
    rcases fit_cases hf hn with ⟨h1, h2, h3, h4, h5⟩ | ⟨h1, h2, h3, h4, h5⟩
    · rw [txt_leaf h1, nsz_eq, h5]
      have := dec_small3 h3
      simp only [List.length_cons, nszs]; omega
    · rw [txt_inner (by omega)]
      rw [nsz_eq] at hn ⊢
      have h6 := key t.Kids hks (by omega)
      have h7 := ctx_len h4
      simp only [List.length_cons, List.length_append, List.length_nil]; omega
theorem txts_len {d : Nat} (l : List Node) (hl : ∀ x ∈ l, vld d x = true) (hm : nszs l ≤ 64) : (txts l).length ≤ 8 * nszs l := by
  induction l with
  | nil => simp [txts]
  | cons x l ihl =>
    simp only [nszs] at hm ⊢
    simp only [txts, List.length_cons, List.length_append]
    have h1 := txt_len d x (hl x (by simp)) (by omega)
    have h2 := ihl (fun y hy => hl y (by simp [hy])) (by omega)
    omega
/- ### Numbers of bytes -/
def nu (l : List UInt8) : List Int := l.map fun b => (b.toNat : Int)
theorem strNums_bs (l : List UInt8) : strNums (bs l) = nu l := rfl
theorem nu_len (a : List UInt8) : (nu a).length = a.length := List.length_map _
theorem bytesO_nu : ∀ l : List UInt8, bytesO (nu l) = some l
  | [] => rfl
  | b :: l => by
    have hb : b.toNat < 256 := b.toNat_lt
    show (if 0 ≤ (b.toNat : Int) ∧ (b.toNat : Int) < 256 then (bytesO (nu l)).map ((b.toNat : Int).toNat.toUInt8 :: ·) else none) = _
    rw [if_pos (by omega), bytesO_nu l]
    have : ((b.toNat : Int).toNat).toUInt8 = b := by
      rw [Int.toNat_natCast]
      apply UInt8.toNat_inj.1
      show b.toNat % 256 = b.toNat
      omega
    simp
theorem strO_nu (l : List UInt8) : strO (nu l) = some (bs l) := by unfold strO; rw [bytesO_nu]; rfl
theorem ltr_cases {k : Int} (h1 : 1 ≤ k) (h8 : k ≤ 8) : k = 1 ∨ k = 2 ∨ k = 3 ∨ k = 4 ∨ k = 5 ∨ k = 6 ∨ k = 7 ∨ k = 8 := by omega
theorem letter_ok (n : Nat) {k : Int} (h1 : 1 ≤ k) (h8 : k ≤ 8) : tree_letter n k = some ((ltr k).toNat : Int) := by
  rcases ltr_cases h1 h8 with rfl | rfl | rfl | rfl | rfl | rfl | rfl | rfl <;> rfl
theorem itoa_nat {x : Int} (h : 0 ≤ x) : Lib.itoa x = dec x := by
  unfold Lib.itoa dec; rw [if_neg (by omega)]
theorem Itoa_ok (n : Nat) {x : Int} (h0 : 0 ≤ x) (h1 : x ≤ 1000000) : strconv_Itoa n x = some (bs (dec x)) := by
  unfold strconv_Itoa; rw [if_pos (by omega), itoa_nat h0]; rfl
theorem leafQ (k : Int) : (cond (k == 1) (some true) (some (k == 2)) : Option Bool) = some (decide (k = 1 ∨ k = 2)) := by
  by_cases h : k = 1
  · rw [show (k == 1) = true by simp [h]]; simp [h]
  · rw [show (k == 1) = false by simp [h]]; simp [h]; rfl
theorem app_ok {α : Type} {xs ys : List α} (h : xs.length + ys.length ≤ 1099511627776) : app xs ys = some (xs ++ ys) := if_pos h
theorem WriteByte_ok {b : List Int} {c : Int} (hb : b.length ≤ 1000000) (n : Nat) : strings_Builder_WriteByte n (Builder.mk () b) c = some ((), Builder.mk () (b ++ [c])) := by
  unfold strings_Builder_WriteByte strings_Builder_copyCheck
  simp only [Option.bind_some]
  rw [app_ok (by simp; omega)]; rfl
theorem WriteString_ok {b : List Int} {l : List UInt8} (hb : b.length + l.length ≤ 1000000) (n : Nat) : strings_Builder_WriteString n (Builder.mk () b) (bs l) = some ((l.length : Int), (), Builder.mk () (b ++ nu l)) := by
  unfold strings_Builder_WriteString strings_Builder_copyCheck
  simp only [Option.bind_some, strNums_bs]
  rw [app_ok (by rw [nu_len]; omega)]; rfl
theorem write_ok : ∀ (d : Nat) (t : Node), vld d t = true → nsz t ≤ 64 → ∀ b : List Int, b.length + 8 * nsz t ≤ 100000 → Tot (fun n => tree_write n (Builder.mk () b) t) (· = Builder.mk () (b ++ nu (txt t))) := by
  intro d
  induction d with
  | zero => intro t h; simp [vld] at h
  | succ d ih =>
    intro t h hn b hb
    obtain ⟨_, rfl', hf, hks⟩ := vld_fit h
    cases rfl'
    have hlen := txt_len _ t h hn
    refine Tot.succ ?_
    dsimp only [tree_write, tree_write_F]
    simp only [leafQ, Option.bind_some]
    rcases fit_cases hf hn with ⟨h1, h2, h3, h4, h5⟩ | ⟨h1, h2, h3, h4, h5⟩
    · rw [txt_leaf h1] at hlen ⊢
      simp only [List.length_cons] at hlen
      simp only [decide_eq_true h1, cond_true, letter_ok _ (show 1 ≤ t.Kind by omega) (show t.Kind ≤ 8 by omega), Option.bind_some, WriteByte_ok (show b.length ≤ 1000000 by omega), Itoa_ok _ h2 (show t.Name ≤ 1000000 by omega)]
      rw [show (fun n => (strings_Builder_WriteString n (Builder.mk () (b ++ [((ltr t.Kind).toNat : Int)])) (bs (dec t.Name))).bind fun x => some (Builder.mk () x.2.2.buf)) = fun n => some (Builder.mk () (b ++ [((ltr t.Kind).toNat : Int)] ++ nu (dec t.Name))) from by
        funext n; rw [WriteString_ok (by simp; omega)]; rfl]
      exact Tot.ret (by rw [List.append_assoc]; rfl)
    · have hnl : ¬ (t.Kind = 1 ∨ t.Kind = 2) := by omega
      rw [txt_inner hnl] at hlen ⊢
      simp only [List.length_cons, List.length_append, List.length_nil] at hlen
      simp only [decide_eq_false hnl, cond_false, letter_ok _ (show 1 ≤ t.Kind by omega) (show t.Kind ≤ 8 by omega), Option.bind_some, WriteByte_ok (show b.length ≤ 1000000 by omega), WriteByte_ok (show (b ++ [(40 : Int)]).length ≤ 1000000 by simp; omega)]
      have hc := ctx_len h4
      refine Tot.cut (b ++ nu (40 :: ltr t.Kind :: ctx t.Count)) ?_ ?_
      · refine Tot.condD (fun hc => ?_) (fun hc => ?_)
        · simp only [Itoa_ok _ (show 0 ≤ t.Count by omega) (show t.Count ≤ 1000000 by omega), Option.bind_some]
          have hc4 := dec_small4 h4
          rw [show (fun n => (strings_Builder_WriteString n (Builder.mk () (b ++ [(40 : Int)] ++ [((ltr t.Kind).toNat : Int)])) (bs (dec t.Count))).bind fun x => some x.2.2.buf) = fun n => some (b ++ [(40 : Int)] ++ [((ltr t.Kind).toNat : Int)] ++ nu (dec t.Count)) from by
            funext n; rw [WriteString_ok (by simp; omega)]; rfl]
          refine Tot.ret ?_
          unfold ctx; rw [if_pos (by omega)]
          simp [nu]
        · refine Tot.ret ?_
          unfold ctx; rw [if_neg (by omega)]
          simp [nu]
      · have hm : nszs t.Kids ≤ 64 := by rw [nsz_eq] at hn; omega
        have hkl := nszs_len t.Kids
        refine Tot.cut (b ++ nu (40 :: ltr t.Kind :: (ctx t.Count ++ txts t.Kids))) ?_ ?_
        · refine Tot.mono (Tot.loop (Q := (· = b ++ nu (40 :: ltr t.Kind :: (ctx t.Count ++ txts t.Kids)))) (fun s : List Int × Int => ∃ j : Nat, s.2 = (j : Int) ∧ j ≤ t.Kids.length ∧ s.1 = b ++ nu (40 :: ltr t.Kind :: (ctx t.Count ++ txts (t.Kids.take j)))) (fun s => t.Kids.length - s.2.toNat) ⟨0, rfl, by omega, by simp [txts]⟩ ?_) (fun _ h => h)
          rintro ⟨_, i⟩ ⟨j, rfl, hj, rfl⟩
          dsimp only [tree_write_L1]
          refine Tot.condD (fun hlt => ?_) (fun hge => ?_)
          · refine Tot.idx (by omega) (by omega) fun k hk => ?_
            rw [Int.toNat_natCast] at hk
            have hst := nszs_step hk
            have hb1 := nszs_take t.Kids (j + 1)
            have htx := txts_step hk
            have hkm := List.mem_of_getElem? hk
            have hl := txts_len (t.Kids.take j) (fun x hx => hks x (List.mem_of_mem_take hx)) (by have := nszs_take t.Kids j; omega)
            rw [nsz_eq] at hb
            have hbl : (b ++ nu (40 :: ltr t.Kind :: (ctx t.Count ++ txts (t.Kids.take j)))).length ≤ b.length + 6 + 8 * nszs (t.Kids.take j) := by
              simp only [List.length_append, nu_len, List.length_cons]; omega
            simp only [WriteByte_ok (show (b ++ nu (40 :: ltr t.Kind :: (ctx t.Count ++ txts (t.Kids.take j)))).length ≤ 1000000 by omega), Option.bind_some, Node.eta]
            refine Tot.bind (Tot.mono (ih k (hks k hkm) (by omega) _ (by rw [List.length_append]; simp only [List.length_cons, List.length_nil]; omega)) ?_)
            rintro _ rfl
            refine Tot.ret ?_
            dsimp only
            rw [w64 (by omega) (by omega)]
            refine ⟨⟨j + 1, by omega, by omega, ?_⟩, by omega⟩
            rw [htx]; simp [nu]
          · refine Tot.ret ?_
            dsimp only
            rw [List.take_of_length_le (show t.Kids.length ≤ j by omega)]
        · have hl := txts_len t.Kids hks hm
          rw [nsz_eq] at hb
          simp only [WriteByte_ok (show (b ++ nu (40 :: ltr t.Kind :: (ctx t.Count ++ txts t.Kids))).length ≤ 1000000 by simp only [List.length_append, nu_len, List.length_cons]; omega), Option.bind_some]
          refine Tot.ret ?_
          simp [nu]
theorem Vld_iff {t : Node} (h : Vld t = true) : nsz t ≤ 64 ∧ vld 16 t = true := by
  simpa only [Vld, Bool.and_eq_true, decide_eq_true_eq] using h
theorem Text_ok (t : Node) : Evt (fun n => tree_Text n t) (bs (if Vld t then txt t else [])) := by
  refine Tot.of_eq ?_
  dsimp only [tree_Text]
  refine Tot.bind ⟨_, Valid_ok t, ?_⟩
  refine Tot.cond (fun h => ?_) (fun h => ?_)
  · obtain ⟨hn, hv⟩ := Vld_iff h
    refine Tot.bind (Tot.mono (write_ok 16 t hv hn [] (by simp only [List.length_nil]; omega)) ?_)
    rintro _ rfl
    rw [if_pos h]
    exact Tot.val (strO_nu _) rfl
  · rw [if_neg (by rw [h]; simp)]
    exact Tot.ret rfl
end Go.Proofs.YtcdboppghnchpaaDoor

namespace Go.Proofs.YtcdboppghnchpaaDoor
open Go Go.Proofs.YtcdboppghnchpaaDoor.Gw
set_option linter.unusedVariables false

/- ### The reference's text -/
/- ### Trees that are the same -/
end Go.Proofs.YtcdboppghnchpaaDoor

namespace Go.Proofs.YtcdboppghnchpaaDoor
open Go Go.Proofs.YtcdboppghnchpaaDoor.Gw
set_option linter.unusedVariables false

/- ### The parser's parts -/
def NoDig (l : List UInt8) : Prop := ∀ x r, l = x :: r → isD x = false
theorem NoDig.nil : NoDig [] := fun x r h => by cases h
theorem split_dig : ∀ l : List UInt8, ∃ d rest, l = d ++ rest ∧ d.all isD = true ∧ NoDig rest
  | [] => ⟨[], [], rfl, rfl, NoDig.nil⟩
  | x :: l => by
    cases hx : isD x
    · exact ⟨[], x :: l, rfl, rfl, fun y r e => by cases e; exact hx⟩
    · obtain ⟨d, rest, rfl, h1, h2⟩ := split_dig l
      exact ⟨x :: d, rest, rfl, by rw [List.all_cons, hx, h1]; rfl, h2⟩
theorem split_uniq : ∀ {d d' rest rest' : List UInt8}, d ++ rest = d' ++ rest' → d.all isD = true → d'.all isD = true → NoDig rest → NoDig rest' → d = d' ∧ rest = rest'
  | [], [], _, _, h, _, _, _, _ => ⟨rfl, h⟩
  | [], y :: d', rest, rest', h, _, h2, h3, _ => by
    have := h3 y (d' ++ rest') h
    rw [List.all_cons, this] at h2; cases h2
  | x :: d, [], rest, rest', h, h1, _, _, h4 => by
    have := h4 x (d ++ rest) h.symm
    rw [List.all_cons, this] at h1; cases h1
  | x :: d, y :: d', rest, rest', h, h1, h2, h3, h4 => by
    simp only [List.cons_append, List.cons.injEq] at h
    simp only [List.all_cons, Bool.and_eq_true] at h1 h2
    obtain ⟨e1, e2⟩ := split_uniq h.2 h1.2 h2.2 h3 h4
    exact ⟨by rw [h.1, e1], e2⟩
theorem decFrom_all : ∀ (l : List UInt8) (a : Nat), l.all isD = true → Lib.decFrom a l = some (l.foldl (fun a c => a * 10 + (c.toNat - 48)) a)
  | [], a, _ => rfl
  | c :: l, a, h => by
    simp only [List.all_cons, Bool.and_eq_true] at h
    have hc : 48 ≤ c.toNat ∧ c.toNat ≤ 57 := by simpa [isD] using h.1
    rw [Lib.decFrom, show Lib.digitVal c = some (c.toNat - 48) from by unfold Lib.digitVal; rw [if_pos hc]]
    exact decFrom_all l _ h.2
theorem atoi_all {l : List UInt8} (h : l.all isD = true) (h0 : l ≠ []) : Lib.atoi l = some (numV l : Int) := by
  cases l with
  | nil => exact absurd rfl h0
  | cons c l =>
    have hc : 48 ≤ c.toNat ∧ c.toNat ≤ 57 := by simp only [List.all_cons, Bool.and_eq_true] at h; simpa [isD] using h.1
    have n1 : (c == 45) = false := by
      rw [beq_eq_false_iff_ne]; rintro rfl; revert hc; decide
    have n2 : (c == 43) = false := by
      rw [beq_eq_false_iff_ne]; rintro rfl; revert hc; decide
    unfold Lib.atoi
    simp only [n1, n2, Bool.false_eq_true, if_false]
    unfold Lib.decNat
    rw [show (c :: l).isEmpty = false from rfl]
    simp only [Bool.false_eq_true, if_false]
    rw [decFrom_all _ _ h]; rfl
def Good (d : List UInt8) : Prop := d ≠ [] ∧ d.length ≤ 4 ∧ ∀ t, d = 48 :: t → t = []
theorem dec_good {x : Int} (h0 : 0 ≤ x) (h1 : x ≤ 1000) : Good (dec x) ∧ (dec x).all isD = true ∧ (numV (dec x) : Int) = x := by
  obtain ⟨a, b, c⟩ := dec_num x.toNat
  refine ⟨⟨?_, dec_small4 h1, ?_⟩, b, by unfold dec; rw [a]; omega⟩
  · rcases Nat.eq_zero_or_pos x.toNat with h | h
    · unfold dec; rw [dec_small (by omega)]; simp
    · obtain ⟨c, t, e, _⟩ := c h; unfold dec; rw [e]; simp
  · intro t e
    rcases Nat.eq_zero_or_pos x.toNat with h | h
    · unfold dec at e; rw [dec_small (by omega), h] at e; cases e; rfl
    · obtain ⟨c, t', e', hc⟩ := c h
      unfold dec at e; rw [e'] at e; cases e; exact absurd rfl hc
theorem scut_drop {l : List UInt8} {lo : Int} {k : Nat} (e : lo = (k : Int)) (h : k ≤ l.length) : scut (bs l) lo ((bs l).size : Int) = some (bs (l.drop k)) := by
  rw [scut_bs l (hi := ((bs l).size : Int)) (b := l.length) e rfl h (Nat.le_refl _), List.take_of_length_le (by rw [List.length_drop]; omega)]
theorem u8_cast_inj {x y : UInt8} : (x.toNat : Int) = (y.toNat : Int) ↔ x = y := by
  rw [Int.ofNat_inj]; exact UInt8.toNat_inj
theorem take_cons (n : Nat) (c : Int) (x y : UInt8) (r : List UInt8) : tree_parser_take n (Parser.mk (bs (x :: r)) c) (y.toNat : Int) = some (if x = y then (true, Parser.mk (bs r) c) else (false, Parser.mk (bs (x :: r)) c)) := by
  dsimp only [tree_parser_take]
  rw [bs_nil_beq, decide_eq_false (by simp), cond_false, show bidx (bs (x :: r)) 0 = some (x.toNat : Int) from bidx_at (i := 0) rfl rfl]
  rw [scut_drop (lo := 1) (k := 1) rfl (by simp)]
  simp only [Option.bind_some, List.drop_succ_cons, List.drop_zero]
  by_cases h : x = y
  · subst h
    simp
  · have h' : ¬ ((x.toNat : Int) = (y.toNat : Int)) := fun e => h (u8_cast_inj.1 e)
    rw [show ((x.toNat : Int) != (y.toNat : Int)) = true by simpa using h', if_neg h]
    rfl
theorem number_ok (l : List UInt8) (c : Int) (hl : l.length ≤ 100000) : Tot (fun n => tree_parser_number n (Parser.mk (bs l) c)) (fun r => ∃ d rest, l = d ++ rest ∧ d.all isD = true ∧ NoDig rest ∧
    ((¬ Good d ∧ r = (0, false, Parser.mk (bs l) c)) ∨ (Good d ∧ r = ((numV d : Int), true, Parser.mk (bs rest) c)))) := by
  obtain ⟨d, rest, rfl, ha, hr⟩ := split_dig l
  unfold tree_parser_number
  dsimp only
  refine Tot.cut (d.length : Int) ?_ ?_
  · refine Tot.mono (Tot.loop0 (Q := (· = (d.length : Int))) (fun s : Int => ∃ j : Nat, s = (j : Int) ∧ j ≤ d.length) (fun s => d.length - s.toNat) ⟨0, rfl, by omega⟩ ?_) (fun _ h => h)
    rintro _ ⟨j, rfl, hj⟩
    dsimp only [tree_parser_number_L1]
    rw [bs_size, List.length_append]
    refine Tot.cut (decide (j < d.length)) ?_ ?_
    · refine Tot.condD (fun hlt => ?_) (fun hge => ?_)
      · rcases Nat.lt_or_ge j d.length with hjd | hjd
        · have hx : (d ++ rest)[j]? = some d[j] := by rw [List.getElem?_append_left hjd, List.getElem?_eq_getElem hjd]
          have hD : isD d[j] = true := List.all_eq_true.1 ha _ (List.getElem_mem hjd)
          have hD' : 48 ≤ d[j].toNat ∧ d[j].toNat ≤ 57 := by simpa [isD] using hD
          refine Tot.bidxv (bidx_at rfl hx) ?_
          refine Tot.condD (fun h1 => ?_) (fun h1 => absurd (by omega) h1)
          refine Tot.bidxv (bidx_at rfl hx) ?_
          refine Tot.ret ?_
          rw [decide_eq_true (show ((d[j].toNat : Nat) : Int) ≤ 57 by omega), decide_eq_true hjd]
        · obtain rfl : j = d.length := by omega
          cases hre : rest with
          | nil => rw [hre] at hlt; simp only [List.length_nil] at hlt; omega
          | cons x r =>
            have hD := hr x r hre
            have hx : (d ++ (x :: r))[d.length]? = some x := by rw [List.getElem?_append_right (by omega)]; simp
            have hD' : ¬ (48 ≤ x.toNat ∧ x.toNat ≤ 57) := by simpa only [isD, decide_eq_false_iff_not] using hD
            rw [decide_eq_false (show ¬ d.length < d.length by omega)]
            refine Tot.bidxv (bidx_at rfl hx) ?_
            refine Tot.condD (fun h1 => ?_) (fun h1 => Tot.ret rfl)
            refine Tot.bidxv (bidx_at rfl hx) ?_
            refine Tot.ret ?_
            rw [decide_eq_false (show ¬ ((x.toNat : Nat) : Int) ≤ 57 by omega)]
      · exact Tot.ret (by rw [decide_eq_false (show ¬ j < d.length by omega)])
    · refine Tot.condD (fun h => ?_) (fun h => ?_)
      · refine Tot.ret ?_
        dsimp only
        rw [List.length_append] at hl
        rw [w64 (by omega) (by omega)]
        exact ⟨⟨j + 1, by omega, by omega⟩, by omega⟩
      · exact Tot.ret (by dsimp only; omega)
  · rw [List.length_append] at hl
    by_cases hg : Good d
    · refine Tot.cut false ?_ ?_
      · have h0 : 0 < d.length := List.length_pos_iff.2 hg.1
        refine Tot.condE (fun h => absurd h (by omega)) (fun _ => ?_)
        refine Tot.condD (fun h => absurd hg.2.1 (by omega)) (fun _ => ?_)
        cases d with
        | nil => exact absurd rfl hg.1
        | cons x t =>
          refine Tot.bidxv (bidx_at (i := 0) rfl rfl) ?_
          refine Tot.condE (fun h => ?_) (fun _ => Tot.ret rfl)
          have hx : x = 48 := u8_cast_inj.1 h
          have ht := hg.2.2 t (by rw [hx])
          exact Tot.ret (by rw [ht]; rfl)
      · dsimp only [cond_false]
        rw [scut_bs (lo := 0) (d ++ rest) (a := 0) (b := d.length) rfl rfl (by omega) (by rw [List.length_append]; omega)]
        rw [scut_drop (k := d.length) rfl (by rw [List.length_append]; omega)]
        simp only [Option.bind_some, Nat.sub_zero, List.drop_zero, List.take_left]
        have hA : ∀ n, strconv_Atoi n (bs d) = some ((numV d : Int), ()) := by
          intro n
          unfold strconv_Atoi
          rw [if_pos (by rw [bs_size]; have := hg.2.1; omega), bs_data, atoi_all ha hg.1]; rfl
        simp only [hA, Option.bind_some]
        refine Tot.ret ⟨d, rest, rfl, ha, hr, .inr ⟨hg, ?_⟩⟩
        rw [List.drop_left]
    · refine Tot.cut true ?_ ?_
      · refine Tot.condE (fun h => Tot.ret rfl) (fun h0 => ?_)
        refine Tot.condD (fun h => Tot.ret rfl) (fun h4 => ?_)
        cases d with
        | nil => exact absurd rfl h0
        | cons x t =>
          refine Tot.bidxv (bidx_at (i := 0) rfl rfl) ?_
          refine Tot.condE (fun h => ?_) (fun h => ?_)
          · refine Tot.ret ?_
            have hx : x = 48 := u8_cast_inj.1 h
            cases t with
            | nil => exact absurd ⟨by simp, by simp, by rintro t e; cases e; rfl⟩ hg
            | cons y t => rw [decide_eq_true]; simp only [List.length_cons]; omega
          · refine absurd ⟨by simp, by omega, ?_⟩ hg
            rintro t e; cases e; exact absurd rfl h
      · dsimp only [cond_true]
        exact Tot.ret ⟨d, rest, rfl, ha, hr, .inl ⟨hg, rfl⟩⟩
def KL : List UInt8 := [32, 97, 116, 115, 102, 112, 105, 114, 111]
def kx (b : UInt8) : Int := Lib.indexByte KL b
theorem index_kx (n : Nat) (b : UInt8) : strings_IndexByte n (ByteArray.mk #[32, 97, 116, 115, 102, 112, 105, 114, 111]) (b.toNat : Int) = some (kx b) := by
  unfold strings_IndexByte kx
  rw [show ((b.toNat : Int).toNat).toUInt8 = b from by
    rw [Int.toNat_natCast]; apply UInt8.toNat_inj.1; show b.toNat % 256 = b.toNat; have := b.toNat_lt; omega]
  rfl
theorem kx_ltr {k : Int} (h1 : 1 ≤ k) (h8 : k ≤ 8) : kx (ltr k) = k := by
  rcases ltr_cases h1 h8 with rfl | rfl | rfl | rfl | rfl | rfl | rfl | rfl <;> rfl
theorem ltr_ne40 {k : Int} (h1 : 1 ≤ k) (h8 : k ≤ 8) : ltr k ≠ 40 ∧ ltr k ≠ 41 ∧ ltr k ≠ 32 ∧ isD (ltr k) = false := by
  rcases ltr_cases h1 h8 with rfl | rfl | rfl | rfl | rfl | rfl | rfl | rfl <;> decide
theorem leafR (k : Int) : (cond (k == 1) (some (k == 1)) (some (k == 2)) : Option Bool) = some (decide (k = 1 ∨ k = 2)) := by
  by_cases h : k = 1
  · rw [show (k == 1) = true by simp [h]]; simp [h]
  · rw [show (k == 1) = false by simp [h]]; simp [h]; rfl
theorem cntR (k : Int) : (cond (k == 5) (some (k == 5)) (cond (k == 7) (some (k == 7)) (some (k == 8))) : Option Bool) = some (decide (k = 5 ∨ k = 7 ∨ k = 8)) := by
  by_cases h : k = 5
  · rw [show (k == 5) = true by simp [h]]; simp [h]
  · rw [show (k == 5) = false by simp [h]]
    by_cases h' : k = 7
    · rw [show (k == 7) = true by simp [h']]; simp [h']
    · rw [show (k == 7) = false by simp [h']]; simp [h, h']; rfl
end Go.Proofs.YtcdboppghnchpaaDoor

namespace Go.Proofs.YtcdboppghnchpaaDoor
open Go Go.Proofs.YtcdboppghnchpaaDoor.Gw
set_option linter.unusedVariables false

/- ### The parser reads what is written -/
theorem NoDig.sep {x : UInt8} {r : List UInt8} (h : x = 32 ∨ x = 41) : NoDig (x :: r) := by
  rintro y r' e; cases e
  rcases h with rfl | rfl <;> rfl
theorem txts_nodig (l : List Node) (r : List UInt8) : NoDig (txts l ++ 41 :: r) := by
  cases l with
  | nil => exact NoDig.sep (.inr rfl)
  | cons t l => exact NoDig.sep (.inl rfl)
theorem number_dec {x : Int} {rest : List UInt8} {c : Int} (h0 : 0 ≤ x) (h1 : x ≤ 1000) (hr : NoDig rest) (hl : rest.length ≤ 90000) : Tot (fun n => tree_parser_number n (Parser.mk (bs (dec x ++ rest)) c)) (· = (x, true, Parser.mk (bs rest) c)) := by
  obtain ⟨hg, ha, hv⟩ := dec_good h0 h1
  refine Tot.mono (number_ok (dec x ++ rest) c (by rw [List.length_append]; have := hg.2.1; omega)) ?_
  rintro r ⟨d, rest', e, ha', hr', h⟩
  obtain ⟨rfl, rfl⟩ := split_uniq e ha ha' hr hr'
  rcases h with ⟨h, _⟩ | ⟨_, rfl⟩
  · exact absurd hg h
  · rw [hv]
theorem node_A : ∀ (d : Nat) (t : Node), d ≤ 16 → vld d t = true → nsz t ≤ 64 → ∀ (rest : List UInt8) (c : Int), NoDig rest → 0 ≤ c → c + nsz t ≤ 64 → rest.length + 8 * nsz t ≤ 80000 →
    Tot (fun n => tree_parser_node n (Parser.mk (bs (txt t ++ rest)) c) (d : Int)) (· = (t, true, Parser.mk (bs rest) (c + nsz t))) := by
  intro d
  induction d with
  | zero => intro t _ h; simp [vld] at h
  | succ d ih =>
    intro t hd h hn rest c hr hc hcn hlen
    obtain ⟨_, rfl', hf, hks⟩ := vld_fit h
    cases rfl'
    have htl := txt_len _ t h hn
    have hpos := nsz_pos t
    refine Tot.succ ?_
    dsimp only [tree_parser_node, tree_parser_node_F]
    rw [show (((d + 1 : Nat) : Int) == 0) = false from by simp; omega]
    rw [w64 (show -9223372036854775808 ≤ c + 1 by omega) (show c + 1 < 9223372036854775808 by omega)]
    rw [decide_eq_false (show ¬ c + 1 > 64 by omega)]
    simp only [cond_false, Option.bind_some, bs_nil_beq]
    rcases fit_cases hf hn with ⟨h1, h2, h3, h4, h5⟩ | ⟨h1, h2, h3, h4, h5⟩
    · -- a leaf
      obtain ⟨e40, e41, e32, eD⟩ := ltr_ne40 (show 1 ≤ t.Kind by omega) (show t.Kind ≤ 8 by omega)
      rw [txt_leaf h1, List.cons_append]
      simp only [decide_eq_false (List.cons_ne_nil _ _), cond_false]
      rw [show (40 : Int) = ((40 : UInt8).toNat : Int) from rfl]
      simp only [take_cons, if_neg e40, Option.bind_some, bs_nil_beq, decide_eq_false (List.cons_ne_nil _ _), cond_false]
      rw [show bidx (bs (ltr t.Kind :: (dec t.Name ++ rest))) 0 = some ((ltr t.Kind).toNat : Int) from bidx_at (i := 0) rfl rfl]
      simp only [Option.bind_some, index_kx, kx_ltr (show 1 ≤ t.Kind by omega) (show t.Kind ≤ 8 by omega)]
      rw [scut_drop (lo := 1) (k := 1) rfl (by simp)]
      simp only [Option.bind_some, List.drop_succ_cons, List.drop_zero]
      rw [decide_eq_false (show ¬ t.Kind < 1 by omega), decide_eq_false (show ¬ t.Kind ≥ 3 by omega)]
      simp only [cond_false, Option.bind_some, beq_self_eq_true, Bool.not_true, leafR, decide_eq_true h1, cond_true]
      refine Tot.cut (bs rest, c + 1, t.Name, 0, true) ?_ ?_
      · refine Tot.bind (Tot.mono (number_dec h2 (by omega) hr (by omega)) ?_)
        rintro _ rfl
        exact Tot.ret rfl
      · dsimp only
        refine Tot.cut (bs rest, c + 1, [], true) ?_ ?_
        · refine Tot.mono (Tot.loop (Q := (· = (bs rest, c + 1, ([] : List Node), true))) (fun s : ByteArray × Int × List Node × Bool => s = (bs rest, c + 1, [], true)) (fun _ => 0) rfl ?_) (fun _ h => h)
          rintro _ rfl
          dsimp only [tree_parser_node_L1]
          exact Tot.ret rfl
        · refine Tot.ret ?_
          dsimp only
          rw [nsz_eq, h5]
          simp only [nszs]
          congr 1
          cases t
          simp only at h4 h5
          subst h4 h5
          rfl
    · have hnl : ¬ (t.Kind = 1 ∨ t.Kind = 2) := by omega
      have hm : nszs t.Kids ≤ 64 := by rw [nsz_eq] at hn; omega
      have hct := ctx_len h4
      have htk := txts_len t.Kids hks hm
      rw [nsz_eq] at hcn hlen
      have hkl := nszs_len t.Kids
      rw [txt_inner hnl, List.cons_append, List.cons_append]
      simp only [decide_eq_false (List.cons_ne_nil _ _), cond_false]
      rw [show (40 : Int) = ((40 : UInt8).toNat : Int) from rfl]
      simp only [take_cons, if_true, Option.bind_some, bs_nil_beq, decide_eq_false (List.cons_ne_nil _ _), cond_false]
      rw [show bidx (bs (ltr t.Kind :: (ctx t.Count ++ (txts t.Kids ++ [41]) ++ rest))) 0 = some ((ltr t.Kind).toNat : Int) from bidx_at (i := 0) rfl rfl]
      simp only [Option.bind_some, index_kx, kx_ltr (show 1 ≤ t.Kind by omega) (show t.Kind ≤ 8 by omega)]
      rw [scut_drop (lo := 1) (k := 1) rfl (by simp)]
      simp only [Option.bind_some, List.drop_succ_cons, List.drop_zero]
      rw [decide_eq_false (show ¬ t.Kind < 1 by omega), decide_eq_true (show t.Kind ≥ 3 by omega)]
      simp only [cond_false, Option.bind_some, beq_self_eq_true, Bool.not_true, leafR, decide_eq_false hnl, cntR]
      have hassoc : ctx t.Count ++ (txts t.Kids ++ [41]) ++ rest = ctx t.Count ++ (txts t.Kids ++ 41 :: rest) := by simp
      rw [hassoc]
      refine Tot.cut (bs (txts t.Kids ++ 41 :: rest), c + 1, 0, t.Count, true) ?_ ?_
      · rcases h5 with ⟨h5, h6⟩ | ⟨h5, h6⟩
        · rw [decide_eq_true h5]
          simp only [cond_true]
          unfold ctx
          rw [if_pos (by omega)]
          refine Tot.bind (Tot.mono (number_dec (show 0 ≤ t.Count by omega) h4 (txts_nodig _ _) (by simp only [List.length_append, List.length_cons]; omega)) ?_)
          rintro _ rfl
          exact Tot.ret rfl
        · rw [decide_eq_false (show ¬ (t.Kind = 5 ∨ t.Kind = 7 ∨ t.Kind = 8) by omega)]
          simp only [cond_false]
          unfold ctx
          rw [if_neg (by omega), h6]
          exact Tot.ret rfl
      · dsimp only
        refine Tot.cut (bs (41 :: rest), c + 1 + nszs t.Kids, t.Kids, true) ?_ ?_
        · refine Tot.mono (Tot.loop (Q := (· = (bs (41 :: rest), c + 1 + nszs t.Kids, t.Kids, true))) (fun s : ByteArray × Int × List Node × Bool => ∃ j : Nat, j ≤ t.Kids.length ∧ s = (bs (txts (t.Kids.drop j) ++ 41 :: rest), c + 1 + nszs (t.Kids.take j), t.Kids.take j, true)) (fun s => t.Kids.length - s.2.2.1.length) ⟨0, by omega, by simp [nszs]⟩ ?_) (fun _ h => h)
          rintro _ ⟨j, hj, rfl⟩
          dsimp only [tree_parser_node_L1]
          simp only [cond_true]
          rw [show (32 : Int) = ((32 : UInt8).toNat : Int) from rfl]
          rcases Nat.lt_or_ge j t.Kids.length with hlt | hge
          · have hk : t.Kids[j]? = some t.Kids[j] := List.getElem?_eq_getElem hlt
            have hkm : t.Kids[j] ∈ t.Kids := List.getElem_mem hlt
            have hst := nszs_step hk
            have hb1 := nszs_take t.Kids (j + 1)
            have hsplit : t.Kids.drop j = t.Kids[j] :: t.Kids.drop (j + 1) := List.drop_eq_getElem_cons hlt
            have hdl := txts_len (t.Kids.drop (j + 1)) (fun x hx => hks x (List.mem_of_mem_drop hx)) (by
              have := nszs_app (t.Kids.take (j + 1)) (t.Kids.drop (j + 1)); rw [List.take_append_drop] at this; omega)
            have hdn : nszs (t.Kids.take (j + 1)) + nszs (t.Kids.drop (j + 1)) = nszs t.Kids := by
              have := nszs_app (t.Kids.take (j + 1)) (t.Kids.drop (j + 1)); rw [List.take_append_drop] at this; omega
            rw [hsplit]
            simp only [txts, List.cons_append, take_cons, if_true, Option.bind_some, cond_true]
            rw [w64 (by omega) (by omega), show ((d + 1 : Nat) : Int) - 1 = (d : Int) by omega, List.append_assoc]
            have hnd : NoDig (txts (t.Kids.drop (j + 1)) ++ 41 :: rest) := txts_nodig _ _
            refine Tot.bind (Tot.mono (ih t.Kids[j] (by omega) (hks _ hkm) (by omega) (txts (t.Kids.drop (j + 1)) ++ 41 :: rest) (c + 1 + nszs (t.Kids.take j)) hnd (by omega) (by omega) (by simp only [List.length_append, List.length_cons]; omega)) ?_)
            rintro _ rfl
            simp only [cond_true, Node.eta]
            refine Tot.app (by simp only [List.length_take, List.length_cons, List.length_nil]; omega) ?_
            refine Tot.ret ?_
            dsimp only
            refine ⟨⟨j + 1, by omega, ?_⟩, ?_⟩
            · rw [hst]
              rw [show t.Kids.take j ++ [t.Kids[j]] = t.Kids.take (j + 1) from by rw [List.take_add_one, hk]; rfl]
              congr 2
              omega
            · simp only [List.length_append, List.length_take, List.length_cons, List.length_nil]; omega
          · have hdr : t.Kids.drop j = [] := List.drop_eq_nil_of_le hge
            have htk : t.Kids.take j = t.Kids := List.take_of_length_le hge
            rw [hdr, htk]
            simp only [txts, List.nil_append, take_cons, show ¬ ((41 : UInt8) = 32) by decide, if_false, Option.bind_some, cond_false]
            exact Tot.ret rfl
        · simp only [cond_true]
          rw [show (41 : Int) = ((41 : UInt8).toNat : Int) from rfl]
          simp only [take_cons, if_true, Option.bind_some]
          refine Tot.ret ?_
          rw [nsz_eq]
          have e : Node.mk t.Kind 0 t.Count t.Kids = t := by
            cases t
            simp only at h3
            subst h3
            rfl
          rw [e]
          congr 3
          push_cast
          omega
/- ### What the parser reads was written so -/
end Go.Proofs.YtcdboppghnchpaaDoor

namespace Go.Proofs.YtcdboppghnchpaaDoor
open Go Go.Proofs.YtcdboppghnchpaaDoor.Gw
set_option linter.unusedVariables false

/- ### A tick depends on the tests' statuses alone -/
mutual
theorem tickD_congr {A : List Int} {B B' : List Bool} (h : ∀ nm, tstS B nm = tstS B' nm) : ∀ (t : Node) (x : ST), tickD A B t x = tickD A B' t x
  | .mk kd nm ct ks, .mk c s a ss => by simp only [tickD]; rw [h nm, chD_congr h 2 ks ss, chD_congr h 3 ks ss, allD_congr h ks ss]
theorem chD_congr {A : List Int} {B B' : List Bool} (h : ∀ nm, tstS B nm = tstS B' nm) (on : Int) : ∀ (ts : List Node) (ss : List ST), chD A B on ts ss = chD A B' on ts ss
  | t :: ts, s :: ss => by simp only [chD]; rw [tickD_congr h t s, chD_congr h on ts ss]
  | [], ss => by simp only [chD]
  | t :: ts, [] => by simp only [chD]
theorem allD_congr {A : List Int} {B B' : List Bool} (h : ∀ nm, tstS B nm = tstS B' nm) : ∀ (ts : List Node) (ss : List ST), allD A B ts ss = allD A B' ts ss
  | t :: ts, s :: ss => by simp only [allD]; rw [tickD_congr h t s, allD_congr h ts ss]
  | [], ss => by simp only [allD]
  | t :: ts, [] => by simp only [allD]
end
theorem tst_Dn {k d : Nat} (h : d ≤ k) (nm : Int) : tstS (Dn k d) nm = if 0 ≤ nm ∧ nm < d then 2 else 3 := by
  unfold tstS
  rcases Int.lt_or_le nm 0 with hn | hn
  · have : idx (Dn k d) nm = none := by unfold idx; rw [if_neg (by omega)]
    rw [this, if_neg (by omega)]
  · obtain ⟨j, rfl⟩ := Int.eq_ofNat_of_zero_le hn
    rw [idx_nat]
    rcases Nat.lt_or_ge j k with hk | hk
    · rw [Dn_get h hk]
      by_cases hd : j < d
      · rw [decide_eq_true hd, if_pos (by omega)]
      · rw [decide_eq_false hd, if_neg (by omega)]
    · rw [List.getElem?_eq_none (by rw [Dn_len h]; omega), if_neg (by omega)]
theorem tick_both {T : List Task} {M : Mission} {d : Nat} {r f tk : Int} (hg : T.all goodB = true) (hm : T.length ≤ 7) (h : MR T M d r f 1 tk) (htk : 0 ≤ tk ∧ tk ≤ 1000000) (A : List Int) :
    ∃ M' hl, MR T M' (goM A (T.drop d) d r f (-1)).2.2.1 (goM A (T.drop d) d r f (-1)).2.2.2.1 (goM A (T.drop d) d r f (-1)).2.2.2.2 (goM A (T.drop d) d r f (-1)).1 (tk + 1) ∧
      Tot (fun n => mission_Mission_Tick n M A) (· = ((goM A (T.drop d) d r f (-1)).1, (goM A (T.drop d) d r f (-1)).2.1, 0, M')) ∧ M.run.nodes = flat 0 (mT T) ∧ M'.run.nodes = flat 0 (mT T) ∧
      ∀ B, (∀ nm, tstS B nm = tstS (Dn T.length d) nm) → Tot (fun n => tree_Runner_Tick n M.run A B) (· = ((goM A (T.drop d) d r f (-1)).1, goT A (T.drop d) d, hl, M'.run)) := by
  obtain ⟨hst, htk0, hD, hd, hx⟩ := h
  obtain ⟨x, hw, hrun, hS⟩ := hx rfl
  obtain ⟨hok, hz⟩ := Vld.okt (mT_vld hg hm)
  obtain ⟨c0, s0, a0, ys⟩ := x
  simp only [ST.ks] at hS
  have hws : wfs (segs 0 T) ys := by rw [wf_eq] at hw; exact hw.2
  obtain ⟨g1, g2, g3⟩ := chain_pre (A := A) (B := Dn T.length d) (Dn_63 hd hm) d T 0 r f (-1) ys hd hws hS (fun j _ h => by rw [Dn_tst hd (by omega), if_pos (by omega)]) (fun j h1 h2 => by rw [Dn_tst hd (by omega), if_neg (by omega)])
  simp only [Nat.zero_add, Nat.mul_zero, Nat.add_zero, Nat.sub_zero] at g1 g2 g3
  have hgr := goM_rng A (T.drop d) d r f (-1)
  rw [List.length_drop] at hgr
  have hfold := fold_go A T.length (T.drop d) d r f (-1) (by rw [List.length_drop]; omega)
  have hform := goT_form A (T.drop d) d
  have hlen := goT_len A (T.drop d) d
  rw [List.length_drop] at hform hlen
  have TB : ∀ B, (∀ nm, tstS B nm = tstS (Dn T.length d) nm) → Tot (fun n => tree_Runner_Tick n (rn (mT T) (.mk c0 s0 a0 ys)) A B) (· = ((tickD A (Dn T.length d) (mT T) (.mk c0 s0 a0 ys)).s, tkd 0 (mT T) (tickD A (Dn T.length d) (mT T) (.mk c0 s0 a0 ys)), ixs (hltP (flat 0 (mT T)) (pre ST.a (.mk c0 s0 a0 ys)) (pre ST.s (tickD A (Dn T.length d) (mT T) (.mk c0 s0 a0 ys))) (pre ST.a (setD true (mT T) (tickD A (Dn T.length d) (mT T) (.mk c0 s0 a0 ys))))) (nsz (mT T)), rn (mT T) (setD true (mT T) (tickD A (Dn T.length d) (mT T) (.mk c0 s0 a0 ys))))) := fun B hB => by
    have := Tick_eq (A := A) (B := B) hok hz hw
    rwa [tickD_congr hB] at this
  have n1 := wf_next (A := A) (B := Dn T.length d) _ hok true _ hw
  have et : tickD A (Dn T.length d) (mT T) (.mk c0 s0 a0 ys) = .mk c0 (firstS 2 (chD A (Dn T.length d) 2 (segs 0 T) ys)) a0 (chD A (Dn T.length d) 2 (segs 0 T) ys) := by simp [mT, tickD]
  rw [et] at TB n1
  have ek : tkd 0 (mT T) (.mk c0 (firstS 2 (chD A (Dn T.length d) 2 (segs 0 T) ys)) a0 (chD A (Dn T.length d) 2 (segs 0 T) ys)) = goT A (T.drop d) d := by
    rw [← g2]; simp [mT, tkd]
  rw [ek] at TB
  have es : (setD true (mT T) (.mk c0 (firstS 2 (chD A (Dn T.length d) 2 (segs 0 T) ys)) a0 (chD A (Dn T.length d) 2 (segs 0 T) ys))).ks = setsD (decide (firstS 2 (chD A (Dn T.length d) 2 (segs 0 T) ys) = 1)) (segs 0 T) (chD A (Dn T.length d) 2 (segs 0 T) ys) := by
    rw [setD_mk]; simp [ST.ks, mT]
  generalize setD true (mT T) (.mk c0 (firstS 2 (chD A (Dn T.length d) 2 (segs 0 T) ys)) a0 (chD A (Dn T.length d) 2 (segs 0 T) ys)) = Z at TB n1 es
  simp only [ST.s] at TB
  rw [g1] at TB es
  generalize chD A (Dn T.length d) 2 (segs 0 T) ys = zs at g3 es TB
  generalize goM A (T.drop d) d r f (-1) = g at g3 hgr hfold TB es
  obtain ⟨gs, gl, gd, gr, gf⟩ := g
  dsimp only at g3 hgr hfold TB es
  have T1 := TB (Dn T.length d) (fun _ => rfl)
  generalize ixs _ (nsz (mT T)) = hl at TB T1
  show ∃ M' hl, MR T M' gd gr gf gs (tk + 1) ∧ Tot (fun n => mission_Mission_Tick n M A) (· = (gs, gl, 0, M')) ∧ M.run.nodes = flat 0 (mT T) ∧ M'.run.nodes = flat 0 (mT T) ∧ ∀ B, (∀ nm, tstS B nm = tstS (Dn T.length d) nm) → Tot (fun n => tree_Runner_Tick n M.run A B) (· = (gs, goT A (T.drop d) d, hl, M'.run))
  refine ⟨Mission.mk (rn (mT T) Z) (Dn T.length gd) gs (tk + 1), hl, ⟨rfl, rfl, rfl, by omega, fun h1 => ⟨Z, n1, rfl, ?_⟩⟩, ?_, by rw [hrun]; rfl, rfl, fun B hB => by rw [hrun]; exact TB B hB⟩
  · rw [es, decide_eq_true h1]; exact g3 h1
  · dsimp only [mission_Mission_Tick]
    rw [hst, hD, hrun, htk0]
    refine Tot.condN (fun h => absurd rfl h) (fun _ => ?_)
    refine Tot.bind (Tot.at_ (fun n => cloneB n _ (by rw [Dn_len hd]; omega)) ?_)
    dsimp only
    refine Tot.bind (Tot.mono T1 ?_)
    rintro _ rfl
    dsimp only
    refine Tot.bind (Tot.mono (marks_ok A (goT A (T.drop d) d) T.length hm (by omega) (Dn T.length d) (Dn_len hd) (-1) (fun v hv => ?_)) ?_)
    · obtain ⟨i, h1, h2⟩ := hform v hv
      exact ⟨i, by omega, h2⟩
    rintro _ rfl
    rw [hfold]
    refine Tot.ret ?_
    rw [w64 (by omega) (by omega)]
    rfl
theorem fold_le (A : List Int) (m : Nat) : ∀ (ts : List Task) (d : Nat) (r f last : Int), d + ts.length ≤ m → (goT A ts d).foldl (stp A) (Dn m d, last) = (Dn m (goM A ts d r f last).2.2.1, (goM A ts d r f last).2.1)
  | [], d, r, f, last, _ => rfl
  | t :: ts, d, r, f, last, h => by
    simp only [List.length_cons] at h
    unfold goT goM
    by_cases ha : actS A (d : Int) = 2
    · rw [if_pos ha, if_pos ha, List.foldl_cons, stp_act, if_pos ha, Dn_set (by omega)]
      exact fold_le A m ts (d + 1) 0 0 (d : Int) (by omega)
    · rw [if_neg ha, if_neg ha]
      by_cases h3 : actS A (d : Int) = 3
      · rw [if_pos h3, if_pos h3, List.foldl_cons, stp_act, if_neg ha, List.foldl_cons, stp_alt]; rfl
      · rw [if_neg h3, if_neg h3, List.foldl_cons, stp_act, if_neg ha]; rfl
theorem names_ok (T : List Task) (S : List (List Int)) (k : Nat) (A L : List Int) (hA : idx S (k : Int) = some A) (hm : T.length ≤ 7) (hL : L.length ≤ 1000) (D : List Bool) (hD : D.length = 64) (hf : ∀ v ∈ L, ∃ i : Nat, i < T.length ∧ (v = ((5 + 8 * i : Nat) : Int) ∨ v = ((7 + 8 * i : Nat) : Int))) :
    Tot (fun n => loopN (top_WholeMission_L25 T S (k : Int) L L) n (D, -1, 0)) (· = .go (L.foldl (stp A) (D, -1))) := by
  have hlen : ∀ (l : List Int) (D : List Bool × Int), (l.foldl (stp A) D).1.length = D.1.length := by
    intro l
    induction l with
    | nil => intro D; rfl
    | cons v l ih =>
      intro D
      rw [List.foldl_cons, ih]
      unfold stp
      split
      · split <;> simp
      · rfl
  refine Tot.loop (fun s => ∃ j : Nat, j ≤ L.length ∧ s = (((L.take j).foldl (stp A) (D, -1)).1, ((L.take j).foldl (stp A) (D, -1)).2, (j : Int))) (fun s => L.length - s.2.2.toNat) ⟨0, by omega, rfl⟩ ?_
  rintro _ ⟨j, hj, rfl⟩
  have hl := hlen (L.take j) (D, -1)
  dsimp only [top_WholeMission_L25] at hl ⊢
  refine Tot.condD (fun hlt => ?_) (fun hge => ?_)
  · obtain ⟨v, v1, v2⟩ := get_some (l := L) (i := j) (by omega)
    obtain ⟨i, hi, hv⟩ := hf v (List.mem_of_getElem? v1)
    have hst : (L.take (j + 1)).foldl (stp A) (D, -1) = stp A ((L.take j).foldl (stp A) (D, -1)) v := by rw [List.take_add_one, v1, List.foldl_append]; rfl
    generalize (L.take j).foldl (stp A) (D, -1) = Z at hst hl ⊢
    refine Tot.bind (Tot.mono (Q' := (· = .go (stp A Z v))) ?_ ?_)
    · refine Tot.idxv v2 (Tot.idxv v2 ?_)
      have hw : IntKind.i64.wrap (v - 1) = v - 1 := w64 (by omega) (by omega)
      rw [hw]
      rcases hv with rfl | rfl
      · have e : ((5 + 8 * i : Nat) : Int) - 1 = ((4 + 8 * i : Nat) : Int) := by omega
        have e1 : (((4 + 8 * i : Nat) : Int)).tmod 8 = 4 := by
          rw [show (8 : Int) = ((8 : Nat) : Int) from rfl, ← Int.ofNat_tmod]; omega
        have e2 : IntKind.i64.wrap ((((4 + 8 * i : Nat) : Int)).tdiv 8) = (i : Int) := by
          rw [show (8 : Int) = ((8 : Nat) : Int) from rfl, ← Int.ofNat_tdiv, w64 (by omega) (by omega)]; omega
        rw [e, e1, e2, stp_act]
        refine Tot.cut false ?_ ?_
        · refine Tot.idxv v2 ?_
          refine Tot.condD (fun h => absurd h (by omega)) (fun _ => ?_)
          refine Tot.condD (fun h => absurd h (by omega)) (fun _ => ?_)
          refine Tot.condN (fun h => absurd rfl h) (fun _ => ?_)
          refine Tot.idxv v2 (Tot.idxv v2 (Tot.ret ?_))
          simp
        simp only [cond_false]
        refine Tot.cut (i : Int) (Tot.ret rfl) ?_
        refine Tot.bind (Tot.mono (Q' := (· = decide (actS A (i : Int) = 2))) ?_ ?_)
        · refine Tot.idxv hA ?_
          refine Tot.condD (fun hla => ?_) (fun hla => ?_)
          · refine Tot.condD (fun _ => ?_) (fun h => absurd (by omega) h)
            obtain ⟨w, w1, w2⟩ := get_some (l := A) (i := i) (by omega)
            refine Tot.idxv hA (Tot.idxv w2 (Tot.ret ?_))
            rw [Bool.eq_iff_iff]
            simp [actS_two, w2]
          · refine Tot.ret ?_
            have : idx A (i : Int) = none := by rw [idx_nat]; exact List.getElem?_eq_none (by omega)
            symm
            rw [decide_eq_false_iff_not, actS_two, this]
            simp
        · rintro _ rfl
          refine Tot.condD (fun h2 => ?_) (fun h2 => ?_)
          · obtain ⟨b, b1, b2⟩ := get_some (l := Z.1) (i := i) (by omega)
            refine Tot.idxv b2 (Tot.ret ?_)
            rw [if_pos h2]
            unfold upd
            rw [Int.toNat_natCast]
          · exact Tot.ret (by rw [if_neg h2])
      · have e : ((7 + 8 * i : Nat) : Int) - 1 = ((6 + 8 * i : Nat) : Int) := by omega
        have e1 : (((6 + 8 * i : Nat) : Int)).tmod 8 = 6 := by
          rw [show (8 : Int) = ((8 : Nat) : Int) from rfl, ← Int.ofNat_tmod]; omega
        have e2 : IntKind.i64.wrap ((((6 + 8 * i : Nat) : Int)).tdiv 8) = (i : Int) := by
          rw [show (8 : Int) = ((8 : Nat) : Int) from rfl, ← Int.ofNat_tdiv, w64 (by omega) (by omega)]; omega
        rw [e, e1, e2, stp_alt]
        refine Tot.cut false ?_ ?_
        · refine Tot.idxv v2 ?_
          refine Tot.condD (fun h => absurd h (by omega)) (fun _ => ?_)
          refine Tot.condD (fun h => absurd h (by omega)) (fun _ => ?_)
          refine Tot.condN (fun _ => ?_) (fun h => absurd h (by decide))
          refine Tot.condN (fun h => absurd rfl h) (fun _ => ?_)
          refine Tot.idxv v2 (Tot.idxv v2 (Tot.ret ?_))
          simp
        simp only [cond_false]
        refine Tot.cut ((32 + i : Nat) : Int) (Tot.ret (by rw [w64 (by omega) (by omega)]; simp)) ?_
        refine Tot.cut false ?_ (Tot.ret rfl)
        refine Tot.idxv hA ?_
        refine Tot.condD (fun _ => ?_) (fun _ => Tot.ret rfl)
        exact Tot.condD (fun h => absurd h (by omega)) (fun _ => Tot.ret rfl)
    · rintro _ rfl
      refine Tot.ret ?_
      dsimp only
      rw [w64 (by omega) (by omega)]
      exact ⟨⟨j + 1, by omega, by rw [hst]; rfl⟩, by omega⟩
  · refine Tot.ret ?_
    dsimp only
    rw [List.take_of_length_le (by omega)]
/- ### The tree that is read back -/
theorem Vld_len {t : Node} (h : Vld t = true) : (txt t).length ≤ 4000 := by
  obtain ⟨hn, hv⟩ := Vld_iff h
  have := txt_len 16 t hv hn
  omega
theorem parse_A {t : Node} (h : Vld t = true) : Tot (fun n => tree_Parse n (bs (txt t))) (· = (t, 0)) := by
  obtain ⟨hn, hv⟩ := Vld_iff h
  have hl := Vld_len h
  dsimp only [tree_Parse]
  rw [bs_size]
  refine Tot.condD (fun h => absurd h (by omega)) (fun _ => ?_)
  have hA := node_A 16 t (by omega) hv hn [] 0 NoDig.nil (by omega) (by omega) (by simp only [List.length_nil]; omega)
  rw [List.append_nil] at hA
  refine Tot.bind (Tot.mono hA ?_)
  rintro _ rfl
  dsimp only
  simp only [Bool.not_true, cond_false, bs_nil_beq, decide_true, Bool.not_true, Node.eta]
  refine Tot.cut false (Tot.bind ⟨_, Valid_ok t, Tot.ret (by rw [h]; rfl)⟩) ?_
  exact Tot.ret rfl
theorem awake_ok : Evt (fun n => top_missionAwake n) true := Evt.of 60 (fun n => by kernel_rfl)
theorem mk64 : mk 64 false = some (Dn 64 0) := by
  have := mk_nat 64 false (by omega)
  simpa [Dn] using this
theorem law_WholeMission (T : List Task) (_ : T.length ≤ maxLen ∧ ∀ y ∈ T, okTask y) (S : List (List Int)) (_ : S.length ≤ maxLen ∧ ∀ y ∈ S, y.length ≤ maxLen ∧ ∀ z ∈ y, inK .i64 z) : Evt (fun n => top_WholeMission n T S) true := by
  refine Tot.of_eq ?_
  dsimp only [top_WholeMission]
  refine Tot.cut (decide (8 < T.length ∨ 30 < S.length)) ?_ ?_
  · refine Tot.bind ⟨_, awake_ok, ?_⟩
    dsimp only [Bool.not_true, cond_false]
    refine Tot.condD (fun h => Tot.ret ?_) (fun h => Tot.ret ?_)
    · rw [decide_eq_true]; omega
    · by_cases h2 : 30 < S.length
      · rw [decide_eq_true (show (S.length : Int) > 30 by omega), decide_eq_true]; omega
      · rw [decide_eq_false (show ¬ (S.length : Int) > 30 by omega), decide_eq_false]; omega
  refine Tot.condD (fun _ => Tot.bind ⟨_, awake_ok, Tot.ret rfl⟩) (fun hsm => ?_)
  have hT8 : T.length ≤ 8 := by omega
  have hS30 : S.length ≤ 30 := by omega
  refine Tot.bind ⟨_, NewM_eq T (by omega), ?_⟩
  by_cases hc : codeM T = 0
  rotate_left
  · rw [if_neg hc]
    dsimp only
    refine Tot.bind ⟨_, Build_eq T, ?_⟩
    dsimp only
    refine Tot.condN (fun h => absurd rfl h) (fun _ => ?_)
    exact Tot.condN (fun _ => Tot.ret rfl) (fun h => absurd h hc)
  rw [if_pos hc]
  have hgm : T.all goodB = true ∧ T.length ≤ 7 := by
    have h := hc
    unfold codeM at h
    split at h
    · cases h
    · split at h
      · rename_i h7 hg; exact ⟨hg, by omega⟩
      · cases h
  obtain ⟨hg, hm⟩ := hgm
  have hv : Vld (mT T) = true := mT_vld hg hm
  dsimp only
  refine Tot.bind ⟨_, Build_eq T, ?_⟩
  rw [if_pos hc, hc]
  dsimp only
  refine Tot.condN (fun h => absurd rfl h) (fun _ => ?_)
  refine Tot.condN (fun h => absurd rfl h) (fun _ => ?_)
  simp only [Node.eta]
  refine Tot.bind ⟨_, Text_ok (mT T), ?_⟩
  rw [if_pos hv]
  refine Tot.bind (Tot.mono (parse_A hv) ?_)
  rintro _ rfl
  dsimp only
  refine Tot.bind ⟨_, New_eq (mT T), ?_⟩
  rw [if_pos hv]
  dsimp only
  refine Tot.bind ⟨_, New_eq (mT T), ?_⟩
  rw [if_pos hv]
  dsimp only
  refine Tot.cut false ?_ ?_
  · refine Tot.condN (fun h => absurd rfl h) (fun _ => ?_)
    refine Tot.condN (fun h => absurd rfl h) (fun _ => Tot.ret rfl)
  simp only [cond_false]
  refine Tot.bind (Tot.val mk64 ?_)
  have hnn : (newR (mT T)).nodes = flat 0 (mT T) := rfl
  refine Tot.bind (Tot.mono (Q' := fun o : Out (List Node_2 × List Int × List Bool × List Bool × Int × Int × List Bool) Bool => (∃ (R : Runner) (st tk : Int) (d : Nat), d ≤ T.length ∧ o = .go (R.nodes, R.counters, R.active, Dn T.length d, st, tk, Dn 64 d)) ∨ o = .done true)
    (Tot.loop (fun s => ∃ (M : Mission) (d : Nat) (r f st tk : Int) (ac : List Int) (aa : List Bool) (bc : List Int) (ba : List Bool) (j : Nat), MR T M d r f st tk ∧ 0 ≤ tk ∧ tk ≤ j ∧ j ≤ S.length ∧ (st = 1 → ac = M.run.counters ∧ aa = M.run.active ∧ bc = M.run.counters ∧ ba = M.run.active) ∧
      s = (M.run.nodes, M.run.counters, M.run.active, M.done, M.status, M.ticks, ac, aa, bc, ba, Dn 64 d, decide (st ≠ 1), (j : Int))) (fun s => S.length - s.2.2.2.2.2.2.2.2.2.2.2.2.toNat)
      ⟨newM T, 0, 0, 0, 1, 0, _, _, _, _, 0, MR.start T, by omega, by omega, by omega, fun _ => ⟨rfl, rfl, rfl, rfl⟩, rfl⟩ ?_) ?_)
  · rintro _ ⟨M, d, r, f, st, tk, ac, aa, bc, ba, j, hM, htk0, htkj, hj, hab, rfl⟩
    dsimp only [top_WholeMission_L21]
    refine Tot.condD (fun hlt => ?_) (fun hge => ?_)
    rotate_left
    · refine Tot.ret (.inl ⟨M.run, M.status, M.ticks, d, hM.2.2.2.1, ?_⟩)
      rw [hM.2.2.1]
    obtain ⟨A, a1, a2⟩ := get_some (l := S) (i := j) (by omega)
    refine Tot.bind (Tot.mono (Q' := fun o => (∃ (M' : Mission) (d' : Nat) (r' f' st' tk' : Int) (ac' : List Int) (aa' : List Bool) (bc' : List Int) (ba' : List Bool), MR T M' d' r' f' st' tk' ∧ 0 ≤ tk' ∧ tk' ≤ j + 1 ∧ (st' = 1 → ac' = M'.run.counters ∧ aa' = M'.run.active ∧ bc' = M'.run.counters ∧ ba' = M'.run.active) ∧
      o = .go (M'.run.nodes, M'.run.counters, M'.run.active, M'.done, M'.status, M'.ticks, ac', aa', bc', ba', Dn 64 d', decide (st' ≠ 1))) ∨ o = .done (.done (.done true))) ?_ ?_)
    · refine Tot.idxv a2 ?_
      refine Tot.condD (fun _ => Tot.ret (.inr rfl)) (fun _ => ?_)
      refine Tot.idxv a2 ?_
      by_cases h1 : st = 1
      rotate_left
      · -- it has ended
        refine Tot.bind ⟨_, tick_end (by rw [hM.1]; exact h1) A, ?_⟩
        dsimp only
        rw [decide_eq_true h1]
        simp only [cond_true]
        refine Tot.condN (fun h => absurd rfl h) (fun _ => Tot.ret (.inl ⟨M, d, r, f, st, tk, ac, aa, bc, ba, hM, htk0, by omega, hab, ?_⟩))
        rw [decide_eq_true h1]
      · subst h1
        obtain ⟨rfl, rfl, rfl, rfl⟩ := hab rfl
        obtain ⟨M', hl, hM', hT1, hn, hn', hTB⟩ := tick_both hg hm hM ⟨htk0, by omega⟩ A
        have hd := hM.2.2.2.1
        have hgr := goM_rng A (T.drop d) d r f (-1)
        rw [List.length_drop] at hgr
        have hform := goT_form A (T.drop d) d
        have hlen := goT_len A (T.drop d) d
        rw [List.length_drop] at hform hlen
        have hfold := fold_le A 64 (T.drop d) d r f (-1) (by rw [List.length_drop]; omega)
        refine Tot.bind (Tot.mono hT1 ?_)
        rintro _ rfl
        dsimp only
        rw [decide_eq_false (show ¬ ((1 : Int) ≠ 1) by simp)]
        simp only [cond_false]
        have hTD := hTB (Dn 64 d) (fun nm => by rw [tst_Dn (by omega), tst_Dn hd])
        have hrn : Runner.mk (newR (mT T)).nodes M.run.counters M.run.active = M.run := by rw [hnn, ← hn]
        rw [hrn]
        refine Tot.idxv a2 ?_
        refine Tot.bind (Tot.mono hTD ?_)
        rintro _ rfl
        dsimp only
        refine Tot.idxv a2 ?_
        refine Tot.bind (Tot.mono hTD ?_)
        rintro _ rfl
        dsimp only
        generalize goM A (T.drop d) d r f (-1) = g at hM' hgr hfold ⊢
        obtain ⟨gs, gl, gd, gr, gf⟩ := g
        dsimp only at hM' hgr hfold ⊢
        refine Tot.cut false ?_ ?_
        · refine Tot.condN (fun h => absurd rfl h) (fun _ => ?_)
          refine Tot.condN (fun h => absurd rfl h) (fun _ => ?_)
          refine Tot.condN (fun h => absurd rfl h) (fun _ => Tot.ret ?_)
          simp
        simp only [cond_false]
        refine Tot.bind (Tot.mono (names_ok T S j A (goT A (T.drop d) d) a2 hm (by omega) (Dn 64 d) (Dn_len (by omega)) (fun v hv => ?_)) ?_)
        · obtain ⟨i, h1, h2⟩ := hform v hv
          exact ⟨i, by omega, h2⟩
        rintro _ rfl
        rw [hfold]
        dsimp only
        refine Tot.condN (fun h => absurd rfl h) (fun _ => Tot.ret (.inl ⟨M', gd, gr, gf, gs, tk + 1, _, _, _, _, hM', by omega, by omega, fun _ => ⟨rfl, rfl, rfl, rfl⟩, ?_⟩))
        rw [show (gs != 1) = decide (gs ≠ 1) by by_cases h : gs = 1 <;> simp [h]]
    · rintro _ (⟨M', d', r', f', st', tk', ac', aa', bc', ba', hM', h0, h1, h2, rfl⟩ | rfl)
      · refine Tot.ret ?_
        dsimp only
        rw [w64 (by omega) (by omega)]
        exact ⟨⟨M', d', r', f', st', tk', ac', aa', bc', ba', j + 1, hM', h0, by omega, by omega, h2, rfl⟩, by omega⟩
      · exact Tot.ret (.inr rfl)
  · rintro _ (⟨R, st, tk, d, hd, rfl⟩ | rfl)
    rotate_left
    · exact Tot.ret rfl
    dsimp only
    refine Tot.bind (Tot.mono (Q' := fun r => r.1 = Dn T.length d) ?_ ?_)
    · dsimp only [mission_Mission_Done]
      exact Tot.bind (Tot.at_ (fun n => cloneB n _ (by rw [Dn_len hd]; omega)) (Tot.ret rfl))
    rintro ⟨dn, _⟩ rfl
    dsimp only
    refine Tot.bind (Tot.mono (Q' := (· = (.go () : Out Unit Bool))) (Tot.loop0 (fun s : Int => ∃ j : Nat, s = (j : Int) ∧ j ≤ T.length) (fun s => T.length - s.toNat) ⟨0, rfl, by omega⟩ ?_) ?_)
    · rintro _ ⟨j, rfl, hj⟩
      dsimp only [top_WholeMission_L27]
      refine Tot.condD (fun hlt => ?_) (fun hge => Tot.ret rfl)
      refine Tot.cut false ?_ ?_
      · rw [Dn_len hd]
        refine Tot.condD (fun h => absurd h (by omega)) (fun _ => ?_)
        refine Tot.idxv (by rw [idx_nat]; exact Dn_get hd (by omega)) ?_
        refine Tot.idxv (by rw [idx_nat]; exact Dn_get (by omega) (by omega)) (Tot.ret ?_)
        simp
      · simp only [cond_false]
        refine Tot.ret ?_
        dsimp only
        rw [w64 (by omega) (by omega)]
        exact ⟨⟨j + 1, by omega, by omega⟩, by omega⟩
    · rintro _ rfl
      refine Tot.ret ?_
      rw [Dn_len hd]; simp
end Go.Proofs.YtcdboppghnchpaaDoor
