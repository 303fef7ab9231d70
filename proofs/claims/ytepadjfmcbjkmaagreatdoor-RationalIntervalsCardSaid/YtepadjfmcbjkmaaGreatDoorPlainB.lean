/-
  Plain laws on the plain functions.
-/
import Derived.Test.YtepadjfmcbjkmaaGreatDoorPlainA
namespace Go.Proofs.YtepadjfmcbjkmaaGreatDoor
open Go Go.Proofs.YtepadjfmcbjkmaaGreatDoor.Gw
set_option linter.unusedVariables false

/-- The fixed calls return what the document says. -/
theorem awake_ok : Evt (fun n => law02_awake n) true := Evt.of 30 (fun n => by kernel_rfl)
theorem asleep : Tot (fun n => (law02_awake n).bind fun x => some x) (· = true) := Tot.bind (Tot.evt awake_ok (Tot.ret rfl))
theorem Rp.in60 {x : Rational} (h : SmR x 60) : Rp x (toQ x) ∧ Bd (toQ x) 61 := ⟨⟨h.mono (by omega), rfl⟩, h.bd⟩
end Go.Proofs.YtepadjfmcbjkmaaGreatDoor

namespace Go.Proofs.YtepadjfmcbjkmaaGreatDoor
open Go Go.Proofs.YtepadjfmcbjkmaaGreatDoor.Gw
set_option linter.unusedVariables false

end Go.Proofs.YtepadjfmcbjkmaaGreatDoor

namespace Go.Proofs.YtepadjfmcbjkmaaGreatDoor
open Go Go.Proofs.YtepadjfmcbjkmaaGreatDoor.Gw
set_option linter.unusedVariables false

/- ### Order -/
theorem cmpQ_lt {p q : Rat} : cmpQ p q < 0 ↔ p < q := by
  unfold cmpQ
  split
  · rename_i h; exact ⟨fun _ => h, fun _ => by omega⟩
  · rename_i h; exact ⟨fun e => by (split at e <;> omega), fun e => absurd e h⟩
theorem cmpQ_le {p q : Rat} : cmpQ p q ≤ 0 ↔ p ≤ q := by
  unfold cmpQ
  split
  · rename_i h; exact ⟨fun _ => Rat.le_of_lt h, fun _ => by omega⟩
  · rename_i h
    split
    · rename_i h2; exact ⟨fun e => by omega, fun e => absurd h2 (Rat.not_lt.2 e)⟩
    · rename_i h2; exact ⟨fun _ => Rat.not_lt.1 h2, fun _ => by omega⟩
theorem cmpQ_add (p q r : Rat) : cmpQ (p + r) (q + r) = cmpQ p q := by
  unfold cmpQ
  simp only [Rat.add_lt_add_right]
end Go.Proofs.YtepadjfmcbjkmaaGreatDoor

namespace Go.Proofs.YtepadjfmcbjkmaaGreatDoor
open Go Go.Proofs.YtepadjfmcbjkmaaGreatDoor.Gw
set_option linter.unusedVariables false

/- ### Intervals -/
structure Ri (i : Interval) (a b : Rat) : Prop where
  lo : Rp i.Lo a
  hi : Rp i.Hi b
theorem Ri.of {a b : Rat} {k l : Nat} (h : Bd a k) (h2 : Bd b l) (hk : k ≤ 1000) (hl : l ≤ 1000) : Ri ⟨ofQ a, ofQ b⟩ a b := ⟨Rp.of h hk, Rp.of h2 hl⟩
section
variable {i j : Interval} {a b c d : Rat} {x : Rational} {q : Rat}
instance : Decidable (a ≤ q ∧ q ≤ b) := inferInstance
theorem cmpQ_gt {p q : Rat} : cmpQ p q > 0 ↔ q < p := by
  have := cmpQ_le (p := p) (q := q)
  rw [← Rat.not_le, ← this]; omega
theorem empty_q (hi : Ri i a b) : Evt (fun n => rational_empty n i) (decide (b < a)) := by
  apply Tot.of_eq
  dsimp only [rational_empty]
  refine Tot.bind (Tot.evt (cmp_q hi.lo hi.hi) (Tot.ret ?_))
  rw [decide_eq_decide, cmpQ_gt]
def no : Interval := ⟨⟨⟨false, []⟩, ⟨false, []⟩⟩, ⟨⟨false, []⟩, ⟨false, []⟩⟩⟩
theorem plus_q (hi : Ri i a b) (hj : Ri j c d) : Evt (fun n => rational_Plus n i j) (if b < a ∨ d < c then (no, 2) else (⟨ofQ (a + c), ofQ (b + d)⟩, 0)) := by
  apply Tot.of_eq
  dsimp only [rational_Plus]
  refine Tot.cut (decide (b < a ∨ d < c)) ?_ ?_
  · refine Tot.bind (Tot.evt (empty_q hi) (Tot.condD (fun h => Tot.ret ?_) (fun h => Tot.bind (Tot.evt (empty_q hj) (Tot.ret ?_)))))
    · symm; rw [decide_eq_true_eq]; exact .inl h
    · rw [decide_eq_decide]; exact ⟨.inr, fun h2 => h2.resolve_left h⟩
  refine Tot.condD (fun h => Tot.ret ?_) (fun h => ?_)
  · rw [if_pos h]; rfl
  · rw [if_neg h]
    exact Tot.bind (Tot.evt (add_q hi.lo hj.lo) (Tot.bind (Tot.evt (add_q hi.hi hj.hi) (Tot.ret rfl))))
theorem meet_q (hi : Ri i a b) (hj : Ri j c d) {k : Nat} (ha : Bd a k) (hb : Bd b k) (hc : Bd c k) (hd : Bd d k) (hk : k ≤ 1000) :
    ∃ e f, (a ≤ e ∧ c ≤ e ∧ (e = a ∨ e = c)) ∧ (f ≤ b ∧ f ≤ d ∧ (f = b ∨ f = d)) ∧ Bd e k ∧ Bd f k ∧ Evt (fun n => rational_Meet n i j) (if f < e then (no, false) else (⟨ofQ e, ofQ f⟩, true)) := by
  obtain ⟨e, he⟩ : ∃ e, (if a < c then c else a) = e := ⟨_, rfl⟩
  obtain ⟨f, hf⟩ : ∃ f, (if d < b then d else b) = f := ⟨_, rfl⟩
  have e1 : a ≤ e ∧ c ≤ e ∧ (e = a ∨ e = c) := by
    rw [← he]; split
    · exact ⟨Rat.le_of_lt ‹_›, Rat.le_refl, .inr rfl⟩
    · exact ⟨Rat.le_refl, Rat.not_lt.1 ‹_›, .inl rfl⟩
  have f1 : f ≤ b ∧ f ≤ d ∧ (f = b ∨ f = d) := by
    rw [← hf]; split
    · exact ⟨Rat.le_of_lt ‹_›, Rat.le_refl, .inr rfl⟩
    · exact ⟨Rat.le_refl, Rat.not_lt.1 ‹_›, .inl rfl⟩
  have be : Bd e k := by rcases e1.2.2 with h | h <;> rw [h] <;> assumption
  have bf : Bd f k := by rcases f1.2.2 with h | h <;> rw [h] <;> assumption
  refine ⟨e, f, e1, f1, be, bf, ?_⟩
  apply Tot.of_eq
  dsimp only [rational_Meet]
  refine Tot.bind (Tot.bind (Tot.evt (norm_q hi.lo) (Tot.bind (Tot.evt (norm_q hi.hi) (Tot.ret ?_)))))
  refine Tot.cut ((ofQ e).Num.Neg, (ofQ e).Num.Mag, (ofQ e).Den.Neg, (ofQ e).Den.Mag) ?_ ?_
  · refine Tot.bind (Tot.evt (cmp_q hj.lo (Rp.of ha hk)) (Tot.condD (fun h => ?_) (fun h => Tot.ret ?_)))
    · rw [if_pos (cmpQ_gt.1 h)] at he
      subst he
      exact Tot.bind (Tot.evt (norm_q hj.lo) (Tot.ret rfl))
    · rw [if_neg (fun h2 => h (cmpQ_gt.2 h2))] at he
      rw [he]
  refine Tot.cut ((ofQ f).Num.Neg, (ofQ f).Num.Mag, (ofQ f).Den.Neg, (ofQ f).Den.Mag) ?_ ?_
  · refine Tot.bind (Tot.evt (cmp_q hj.hi (Rp.of hb hk)) (Tot.condD (fun h => ?_) (fun h => Tot.ret ?_)))
    · rw [if_pos (cmpQ_lt.1 h)] at hf
      subst hf
      exact Tot.bind (Tot.evt (norm_q hj.hi) (Tot.ret rfl))
    · rw [if_neg (fun h2 => h (cmpQ_lt.2 h2))] at hf
      rw [hf]
  refine Tot.bind (Tot.evt (empty_q (Ri.of be bf hk hk)) (Tot.condD (fun h => Tot.ret ?_) (fun h => Tot.ret ?_)))
  · rw [if_pos h]; rfl
  · rw [if_neg h]
end
/-- The four ends' least and greatest. -/
theorem times_loop (p0 p1 p2 p3 : Rat) {k : Nat} (hk : k ≤ 1000) (b0 : Bd p0 k) (b1 : Bd p1 k) (b2 : Bd p2 k) (b3 : Bd p3 k) :
    Tot (fun n => loopN (rational_Times_L1 n (ofQ p1) (ofQ p2) (ofQ p3)) n ((ofQ p0).Num.Neg, (ofQ p0).Num.Mag, (ofQ p0).Den.Neg, (ofQ p0).Den.Mag, (ofQ p0).Num.Neg, (ofQ p0).Num.Mag, (ofQ p0).Den.Neg, (ofQ p0).Den.Mag, 0))
      (fun r => ∃ l h, r = ((ofQ l).Num.Neg, (ofQ l).Num.Mag, (ofQ l).Den.Neg, (ofQ l).Den.Mag, (ofQ h).Num.Neg, (ofQ h).Num.Mag, (ofQ h).Den.Neg, (ofQ h).Den.Mag) ∧ Bd l k ∧ Bd h k ∧ (l ∈ [p0, p1, p2, p3] ∧ h ∈ [p0, p1, p2, p3]) ∧ ∀ x ∈ [p0, p1, p2, p3], l ≤ x ∧ x ≤ h) := by
  refine Tot.loop (fun s => ∃ (i : Nat) (l h : Rat), s = ((ofQ l).Num.Neg, (ofQ l).Num.Mag, (ofQ l).Den.Neg, (ofQ l).Den.Mag, (ofQ h).Num.Neg, (ofQ h).Num.Mag, (ofQ h).Den.Neg, (ofQ h).Den.Mag, (i : Int)) ∧ i ≤ 3 ∧ Bd l k ∧ Bd h k ∧ (l ∈ [p0, p1, p2, p3] ∧ h ∈ [p0, p1, p2, p3]) ∧ (l ≤ p0 ∧ p0 ≤ h) ∧ ∀ j, j < i → ∀ x, [p1, p2, p3][j]? = some x → l ≤ x ∧ x ≤ h) (fun s => 3 - s.2.2.2.2.2.2.2.2.toNat)
    ⟨0, p0, p0, rfl, by omega, b0, b0, ⟨by simp, by simp⟩, ⟨Rat.le_refl, Rat.le_refl⟩, fun j hj => by omega⟩ ?_
  rintro _ ⟨i, l, h, rfl, hi, bl, bh, hmem, h0, hj⟩
  dsimp only [rational_Times_L1]
  refine Tot.condD (fun hc => ?_) (fun hc => Tot.ret ⟨l, h, rfl, bl, bh, hmem, ?_⟩)
  · have hi3 : i < 3 := by
      have : (([ofQ p1, ofQ p2, ofQ p3].length : Nat) : Int) = 3 := rfl
      omega
    obtain ⟨x, hx, bx⟩ : ∃ x, [p1, p2, p3][i]? = some x ∧ Bd x k := by
      match i, hi3 with
      | 0, _ => exact ⟨p1, rfl, b1⟩
      | 1, _ => exact ⟨p2, rfl, b2⟩
      | 2, _ => exact ⟨p3, rfl, b3⟩
    have hx2 : [ofQ p1, ofQ p2, ofQ p3][i]? = some (ofQ x) := by
      match i, hi3, hx with
      | 0, _, e => cases e; rfl
      | 1, _, e => cases e; rfl
      | 2, _, e => cases e; rfl
    obtain ⟨l', hl'⟩ : ∃ e, (if x < l then x else l) = e := ⟨_, rfl⟩
    obtain ⟨h', hh'⟩ : ∃ f, (if h < x then x else h) = f := ⟨_, rfl⟩
    have e1 : l' ≤ l ∧ l' ≤ x ∧ (l' = l ∨ l' = x) := by
      rw [← hl']; split
      · exact ⟨Rat.le_of_lt ‹_›, Rat.le_refl, .inr rfl⟩
      · exact ⟨Rat.le_refl, Rat.not_lt.1 ‹_›, .inl rfl⟩
    have f1 : h ≤ h' ∧ x ≤ h' ∧ (h' = h ∨ h' = x) := by
      rw [← hh']; split
      · exact ⟨Rat.le_of_lt ‹_›, Rat.le_refl, .inr rfl⟩
      · exact ⟨Rat.le_refl, Rat.not_lt.1 ‹_›, .inl rfl⟩
    have be : Bd l' k := by rcases e1.2.2 with h | h <;> rw [h] <;> assumption
    have bf : Bd h' k := by rcases f1.2.2 with h | h <;> rw [h] <;> assumption
    have xm : x ∈ [p0, p1, p2, p3] := List.mem_cons_of_mem _ (List.mem_of_getElem? hx)
    have ml : l' ∈ [p0, p1, p2, p3] := e1.2.2.elim (fun h => h ▸ hmem.1) (fun h => h ▸ xm)
    have mh : h' ∈ [p0, p1, p2, p3] := f1.2.2.elim (fun h => h ▸ hmem.2) (fun h => h ▸ xm)
    rw [w64 (by omega) (by omega)]
    refine Tot.bind (Tot.idxv (idx_get hx2) ?_)
    refine Tot.cut ((ofQ l').Num.Neg, (ofQ l').Num.Mag, (ofQ l').Den.Neg, (ofQ l').Den.Mag) ?_ ?_
    · refine Tot.bind (Tot.evt (cmp_q (Rp.of bx hk) (Rp.of bl hk)) (Tot.condD (fun h => Tot.ret ?_) (fun h => Tot.ret ?_)))
      · rw [if_pos (cmpQ_lt.1 h)] at hl'; rw [hl']
      · rw [if_neg (fun h2 => h (cmpQ_lt.2 h2))] at hl'; rw [hl']
    refine Tot.bind (Tot.evt (cmp_q (Rp.of bx hk) (Rp.of bh hk)) ?_)
    have fin : ∀ r, r = ((ofQ l').Num.Neg, (ofQ l').Num.Mag, (ofQ l').Den.Neg, (ofQ l').Den.Mag, (ofQ h').Num.Neg, (ofQ h').Num.Mag, (ofQ h').Den.Neg, (ofQ h').Den.Mag, (i : Int) + 1) → (∃ (i : Nat) (l h : Rat), r = ((ofQ l).Num.Neg, (ofQ l).Num.Mag, (ofQ l).Den.Neg, (ofQ l).Den.Mag, (ofQ h).Num.Neg, (ofQ h).Num.Mag, (ofQ h).Den.Neg, (ofQ h).Den.Mag, (i : Int)) ∧ i ≤ 3 ∧ Bd l k ∧ Bd h k ∧ (l ∈ [p0, p1, p2, p3] ∧ h ∈ [p0, p1, p2, p3]) ∧ (l ≤ p0 ∧ p0 ≤ h) ∧ ∀ j, j < i → ∀ x, [p1, p2, p3][j]? = some x → l ≤ x ∧ x ≤ h) ∧ 3 - r.2.2.2.2.2.2.2.2.toNat < 3 - ((i : Int)).toNat := by
      rintro _ rfl
      refine ⟨⟨i + 1, l', h', rfl, by omega, be, bf, ⟨ml, mh⟩, ⟨Rat.le_trans e1.1 h0.1, Rat.le_trans h0.2 f1.1⟩, fun j hj2 y hy => ?_⟩, ?_⟩
      · rcases Nat.lt_or_ge j i with hlt | hge
        · obtain ⟨y1, y2⟩ := hj j hlt y hy
          exact ⟨Rat.le_trans e1.1 y1, Rat.le_trans y2 f1.1⟩
        · obtain rfl : j = i := by omega
          rw [hx] at hy; cases hy
          exact ⟨e1.2.1, f1.2.1⟩
      · dsimp only; omega
    refine Tot.condD (fun h => Tot.ret (Tot.ret (fin _ ?_))) (fun h => Tot.ret (Tot.ret (fin _ ?_)))
    · rw [if_pos (cmpQ_gt.1 h)] at hh'; rw [hh']
    · rw [if_neg (fun h2 => h (cmpQ_gt.2 h2))] at hh'; rw [hh']
  · have hi3 : i = 3 := by
      have : (([ofQ p1, ofQ p2, ofQ p3].length : Nat) : Int) = 3 := rfl
      omega
    subst hi3
    intro x hx
    simp only [List.mem_cons, List.not_mem_nil, or_false] at hx
    rcases hx with rfl | rfl | rfl | rfl
    · exact h0
    · exact hj 0 (by omega) _ rfl
    · exact hj 1 (by omega) _ rfl
    · exact hj 2 (by omega) _ rfl
end Go.Proofs.YtepadjfmcbjkmaaGreatDoor

namespace Go.Proofs.YtepadjfmcbjkmaaGreatDoor
open Go Go.Proofs.YtepadjfmcbjkmaaGreatDoor.Gw
set_option linter.unusedVariables false

/- ### The reference: order, quotient, floor -/
theorem num_neg_iff {z : Rat} : z < 0 ↔ z.num < 0 := by
  rw [Rat.lt_iff]
  show z.num * ((1 : Nat) : Int) < 0 * z.den ↔ _
  omega
theorem num_pos_iff {z : Rat} : 0 < z ↔ 0 < z.num := by
  rw [Rat.lt_iff]
  show (0 : Int) * z.den < z.num * ((1 : Nat) : Int) ↔ _
  omega
theorem sgnQ_cmp (z : Rat) : sgnQ z = cmpQ z 0 := by
  unfold sgnQ sgn cmpQ
  simp only [num_neg_iff, num_pos_iff]
theorem sgnQ_sub (p q : Rat) : sgnQ (p - q) = cmpQ p q := by
  have h := cmpQ_add (p - q) 0 q
  have e1 : p - q + q = p := by rw [Rat.sub_eq_add_neg, Rat.add_assoc, Rat.neg_add_cancel, Rat.add_zero]
  rw [e1, Rat.zero_add] at h
  rw [sgnQ_cmp, h]
section
variable {x y : Rational} {p q : Rat}
theorem refCmp_q (hx : Rp x p) (hy : Rp y q) : Evt (fun n => ref02_Cmp n x y) (cmpQ p q) := by
  apply Tot.of_eq
  dsimp only [ref02_Cmp]
  have bx := hx.sm.bd
  have by_ := hy.sm.bd
  rw [hx.eq] at bx
  rw [hy.eq] at by_
  have s := smr_of (bd_sub bx by_) (Nat.le_refl _)
  have h := refSignR_ok s (by omega)
  rw [toQ_ofQ, sgnQ_sub] at h
  exact Tot.bind (Tot.evt (refSub_q hx hy) (Tot.bind (Tot.evt h (Tot.ret rfl))))
theorem least_q (hx : Rp x p) (hy : Rp y q) : Evt (fun n => ref02_least n x y) (ofQ (if q < p then q else p)) := by
  apply Tot.of_eq
  dsimp only [ref02_least]
  refine Tot.bind (Tot.evt (refCmp_q hy hx) (Tot.condD (fun h => Tot.bind (Tot.evt (refNorm_q hy) (Tot.ret ?_))) (fun h => Tot.bind (Tot.evt (refNorm_q hx) (Tot.ret ?_)))))
  · rw [if_pos (cmpQ_lt.1 h)]
  · rw [if_neg (fun e => h (cmpQ_lt.2 e))]
theorem greatest_q (hx : Rp x p) (hy : Rp y q) : Evt (fun n => ref02_greatest n x y) (ofQ (if p < q then q else p)) := by
  apply Tot.of_eq
  dsimp only [ref02_greatest]
  refine Tot.bind (Tot.evt (refCmp_q hy hx) (Tot.condD (fun h => Tot.bind (Tot.evt (refNorm_q hy) (Tot.ret ?_))) (fun h => Tot.bind (Tot.evt (refNorm_q hx) (Tot.ret ?_)))))
  · rw [if_pos (cmpQ_gt.1 h)]
  · rw [if_neg (fun e => h (cmpQ_gt.2 e))]
end
theorem zero_smr : SmR ⟨⟨false, []⟩, ⟨false, []⟩⟩ 1000 := ⟨⟨Wd.nil, by simp⟩, ⟨Wd.nil, by simp⟩⟩
end Go.Proofs.YtepadjfmcbjkmaaGreatDoor

namespace Go.Proofs.YtepadjfmcbjkmaaGreatDoor
open Go Go.Proofs.YtepadjfmcbjkmaaGreatDoor.Gw
set_option linter.unusedVariables false

/- ### The reference's intervals -/
theorem max_uniq {a c e e' : Rat} (h : a ≤ e ∧ c ≤ e ∧ (e = a ∨ e = c)) (h' : a ≤ e' ∧ c ≤ e' ∧ (e' = a ∨ e' = c)) : e = e' :=
  Rat.le_antisymm (h.2.2.elim (fun k => k ▸ h'.1) (fun k => k ▸ h'.2.1)) (h'.2.2.elim (fun k => k ▸ h.1) (fun k => k ▸ h.2.1))
theorem min_uniq {a c e e' : Rat} (h : e ≤ a ∧ e ≤ c ∧ (e = a ∨ e = c)) (h' : e' ≤ a ∧ e' ≤ c ∧ (e' = a ∨ e' = c)) : e = e' :=
  Rat.le_antisymm (h'.2.2.elim (fun k => k ▸ h.1) (fun k => k ▸ h.2.1)) (h.2.2.elim (fun k => k ▸ h'.1) (fun k => k ▸ h'.2.1))
section
variable {i j : Interval} {a b c d : Rat}
theorem refEmpty_q (hi : Ri i a b) : Evt (fun n => ref02_Empty n i) (decide (b < a)) := by
  apply Tot.of_eq
  dsimp only [ref02_Empty]
  refine Tot.bind (Tot.evt (refCmp_q hi.lo hi.hi) (Tot.ret ?_))
  rw [decide_eq_decide, cmpQ_gt]
theorem refPlus_q (hi : Ri i a b) (hj : Ri j c d) : Evt (fun n => ref02_Plus n i j) (if b < a ∨ d < c then (no, 2) else (⟨ofQ (a + c), ofQ (b + d)⟩, 0)) := by
  apply Tot.of_eq
  dsimp only [ref02_Plus]
  refine Tot.cut (decide (b < a ∨ d < c)) ?_ ?_
  · refine Tot.bind (Tot.evt (refEmpty_q hi) (Tot.condD (fun h => Tot.ret ?_) (fun h => Tot.bind (Tot.evt (refEmpty_q hj) (Tot.ret ?_)))))
    · symm; rw [decide_eq_true_eq]; exact .inl h
    · rw [decide_eq_decide]; exact ⟨.inr, fun h2 => h2.resolve_left h⟩
  refine Tot.condD (fun h => Tot.ret ?_) (fun h => ?_)
  · rw [if_pos h]; rfl
  · rw [if_neg h]
    exact Tot.bind (Tot.evt (refAdd_q hi.lo hj.lo) (Tot.bind (Tot.evt (refAdd_q hi.hi hj.hi) (Tot.ret rfl))))
theorem refMeet_q (hi : Ri i a b) (hj : Ri j c d) {k : Nat} (ha : Bd a k) (hb : Bd b k) (hc : Bd c k) (hd : Bd d k) (hk : k ≤ 1000) :
    ∃ e f, (a ≤ e ∧ c ≤ e ∧ (e = a ∨ e = c)) ∧ (f ≤ b ∧ f ≤ d ∧ (f = b ∨ f = d)) ∧ Evt (fun n => ref02_Meet n i j) (if f < e then (no, false) else (⟨ofQ e, ofQ f⟩, true)) := by
  obtain ⟨e, he⟩ : ∃ e, (if a < c then c else a) = e := ⟨_, rfl⟩
  obtain ⟨f, hf⟩ : ∃ f, (if d < b then d else b) = f := ⟨_, rfl⟩
  have e1 : a ≤ e ∧ c ≤ e ∧ (e = a ∨ e = c) := by
    rw [← he]; split
    · exact ⟨Rat.le_of_lt ‹_›, Rat.le_refl, .inr rfl⟩
    · exact ⟨Rat.le_refl, Rat.not_lt.1 ‹_›, .inl rfl⟩
  have f1 : f ≤ b ∧ f ≤ d ∧ (f = b ∨ f = d) := by
    rw [← hf]; split
    · exact ⟨Rat.le_of_lt ‹_›, Rat.le_refl, .inr rfl⟩
    · exact ⟨Rat.le_refl, Rat.not_lt.1 ‹_›, .inl rfl⟩
  have be : Bd e k := by rcases e1.2.2 with h | h <;> rw [h] <;> assumption
  have bf : Bd f k := by rcases f1.2.2 with h | h <;> rw [h] <;> assumption
  refine ⟨e, f, e1, f1, ?_⟩
  apply Tot.of_eq
  dsimp only [ref02_Meet]
  have g := greatest_q hi.lo hj.lo
  have l := least_q hi.hi hj.hi
  rw [he] at g
  rw [hf] at l
  refine Tot.bind (Tot.bind (Tot.evt g (Tot.bind (Tot.evt l (Tot.ret ?_)))))
  refine Tot.bind (Tot.evt (refEmpty_q (Ri.of be bf hk hk)) (Tot.condD (fun h => Tot.ret ?_) (fun h => Tot.ret ?_)))
  · rw [if_pos h]; rfl
  · rw [if_neg h]
end
def Ends (l h : Rat) (ps : List Rat) : Prop := (l ∈ ps ∧ h ∈ ps) ∧ ∀ x ∈ ps, l ≤ x ∧ x ≤ h
theorem Ends.uniq {l h l' h' : Rat} {ps : List Rat} (e : Ends l h ps) (e' : Ends l' h' ps) : l = l' ∧ h = h' :=
  ⟨Rat.le_antisymm (e.2 l' e'.1.1).1 (e'.2 l e.1.1).1, Rat.le_antisymm (e'.2 h e.1.2).2 (e.2 h' e'.1.2).2⟩
theorem refTimes_loop (p0 p1 p2 p3 : Rat) {k : Nat} (hk : k ≤ 1000) (b0 : Bd p0 k) (b1 : Bd p1 k) (b2 : Bd p2 k) (b3 : Bd p3 k) :
    Tot (fun n => loopN (ref02_Times_L1 n (ofQ p0) (ofQ p1) (ofQ p2) (ofQ p3)) n ((ofQ p0).Num.Neg, (ofQ p0).Num.Mag, (ofQ p0).Den.Neg, (ofQ p0).Den.Mag, (ofQ p0).Num.Neg, (ofQ p0).Num.Mag, (ofQ p0).Den.Neg, (ofQ p0).Den.Mag, 1))
      (fun r => ∃ l h, r = ((ofQ l).Num.Neg, (ofQ l).Num.Mag, (ofQ l).Den.Neg, (ofQ l).Den.Mag, (ofQ h).Num.Neg, (ofQ h).Num.Mag, (ofQ h).Den.Neg, (ofQ h).Den.Mag) ∧ Ends l h [p0, p1, p2, p3]) := by
  refine Tot.loop (fun s => ∃ (i : Nat) (l h : Rat), s = ((ofQ l).Num.Neg, (ofQ l).Num.Mag, (ofQ l).Den.Neg, (ofQ l).Den.Mag, (ofQ h).Num.Neg, (ofQ h).Num.Mag, (ofQ h).Den.Neg, (ofQ h).Den.Mag, (i : Int)) ∧ 1 ≤ i ∧ i ≤ 4 ∧ Bd l k ∧ Bd h k ∧ (l ∈ [p0, p1, p2, p3] ∧ h ∈ [p0, p1, p2, p3]) ∧ ∀ j, j < i → ∀ x, [p0, p1, p2, p3][j]? = some x → l ≤ x ∧ x ≤ h) (fun s => 4 - s.2.2.2.2.2.2.2.2.toNat)
    ⟨1, p0, p0, rfl, by omega, by omega, b0, b0, ⟨by simp, by simp⟩, fun j hj x hx => by
      obtain rfl : j = 0 := by omega
      cases hx
      exact ⟨Rat.le_refl, Rat.le_refl⟩⟩ ?_
  rintro _ ⟨i, l, h, rfl, h1, hi, bl, bh, hmem, hj⟩
  dsimp only [ref02_Times_L1]
  refine Tot.condD (fun hc => ?_) (fun hc => Tot.ret ⟨l, h, rfl, hmem, ?_⟩)
  · have hi3 : i < 4 := by omega
    obtain ⟨x, hx, bx⟩ : ∃ x, [p0, p1, p2, p3][i]? = some x ∧ Bd x k := by
      match i, hi3 with
      | 0, _ => exact ⟨p0, rfl, b0⟩
      | 1, _ => exact ⟨p1, rfl, b1⟩
      | 2, _ => exact ⟨p2, rfl, b2⟩
      | 3, _ => exact ⟨p3, rfl, b3⟩
    have hx2 : [ofQ p0, ofQ p1, ofQ p2, ofQ p3][i]? = some (ofQ x) := by
      match i, hi3, hx with
      | 0, _, e => cases e; rfl
      | 1, _, e => cases e; rfl
      | 2, _, e => cases e; rfl
      | 3, _, e => cases e; rfl
    have gl := least_q (Rp.of bl hk) (Rp.of bx hk)
    have gh := greatest_q (Rp.of bh hk) (Rp.of bx hk)
    obtain ⟨l', hl'⟩ : ∃ e, (if x < l then x else l) = e := ⟨_, rfl⟩
    obtain ⟨h', hh'⟩ : ∃ f, (if h < x then x else h) = f := ⟨_, rfl⟩
    rw [hl'] at gl
    rw [hh'] at gh
    have e1 : l' ≤ l ∧ l' ≤ x ∧ (l' = l ∨ l' = x) := by
      rw [← hl']; split
      · exact ⟨Rat.le_of_lt ‹_›, Rat.le_refl, .inr rfl⟩
      · exact ⟨Rat.le_refl, Rat.not_lt.1 ‹_›, .inl rfl⟩
    have f1 : h ≤ h' ∧ x ≤ h' ∧ (h' = h ∨ h' = x) := by
      rw [← hh']; split
      · exact ⟨Rat.le_of_lt ‹_›, Rat.le_refl, .inr rfl⟩
      · exact ⟨Rat.le_refl, Rat.not_lt.1 ‹_›, .inl rfl⟩
    have be : Bd l' k := by rcases e1.2.2 with h | h <;> rw [h] <;> assumption
    have bf : Bd h' k := by rcases f1.2.2 with h | h <;> rw [h] <;> assumption
    have xm : x ∈ [p0, p1, p2, p3] := List.mem_of_getElem? hx
    have ml : l' ∈ [p0, p1, p2, p3] := e1.2.2.elim (fun h => h ▸ hmem.1) (fun h => h ▸ xm)
    have mh : h' ∈ [p0, p1, p2, p3] := f1.2.2.elim (fun h => h ▸ hmem.2) (fun h => h ▸ xm)
    rw [w64 (by omega) (by omega)]
    refine Tot.idxv (idx_get hx2) (Tot.bind (Tot.evt gl (Tot.idxv (idx_get hx2) (Tot.bind (Tot.evt gh (Tot.ret ?_))))))
    refine ⟨⟨i + 1, l', h', rfl, by omega, by omega, be, bf, ⟨ml, mh⟩, fun j hj2 y hy => ?_⟩, ?_⟩
    · rcases Nat.lt_or_ge j i with hlt | hge
      · obtain ⟨y1, y2⟩ := hj j hlt y hy
        exact ⟨Rat.le_trans e1.1 y1, Rat.le_trans y2 f1.1⟩
      · obtain rfl : j = i := by omega
        rw [hx] at hy; cases hy
        exact ⟨e1.2.1, f1.2.1⟩
    · dsimp only; omega
  · have hi3 : i = 4 := by omega
    subst hi3
    intro x hx
    obtain ⟨j, hj2, hx⟩ := List.mem_iff_getElem.1 hx
    exact hj j hj2 x (by rw [List.getElem?_eq_getElem hj2, hx])
section
variable {i j : Interval} {a b c d : Rat}
theorem timesB_q (hi : Ri i a b) (hj : Ri j c d) {k : Nat} (hk : k ≤ 400) (ha : Bd a k) (hb : Bd b k) (hc : Bd c k) (hd : Bd d k) :
    Tot (fun n => rational_Times n i j) (fun r => (b < a ∨ d < c) ∧ r = (no, 2) ∨ ¬ (b < a ∨ d < c) ∧ ∃ l h, r = (⟨ofQ l, ofQ h⟩, 0) ∧ Bd l (k + k + 1) ∧ Bd h (k + k + 1) ∧ Ends l h [a * c, a * d, b * c, b * d]) := by
  dsimp only [rational_Times]
  refine Tot.cut (decide (b < a ∨ d < c)) ?_ ?_
  · refine Tot.bind (Tot.evt (empty_q hi) (Tot.condD (fun h => Tot.ret ?_) (fun h => Tot.bind (Tot.evt (empty_q hj) (Tot.ret ?_)))))
    · symm; rw [decide_eq_true_eq]; exact .inl h
    · rw [decide_eq_decide]; exact ⟨.inr, fun h2 => h2.resolve_left h⟩
  refine Tot.condD (fun h => Tot.ret (.inl ⟨h, rfl⟩)) (fun h => ?_)
  refine Tot.bind (Tot.evt (mul_q hi.lo hj.lo) (Tot.bind (Tot.bind (Tot.evt (mul_q hi.lo hj.hi) (Tot.bind (Tot.evt (mul_q hi.hi hj.lo) (Tot.bind (Tot.evt (mul_q hi.hi hj.hi) ?_))))))))
  refine Tot.mono (times_loop (a * c) (a * d) (b * c) (b * d) (show k + k + 1 ≤ 1000 by omega) (bd_mul ha hc) (bd_mul ha hd) (bd_mul hb hc) (bd_mul hb hd)) ?_
  rintro _ ⟨l, u, rfl, bl, bh, hm, hall⟩
  exact Tot.bind (Tot.evt (norm_q (Rp.of bl (by omega))) (Tot.bind (Tot.evt (norm_q (Rp.of bh (by omega))) (Tot.ret (.inr ⟨h, l, u, rfl, bl, bh, hm, hall⟩)))))
theorem refTimes_q (hi : Ri i a b) (hj : Ri j c d) {k : Nat} (hk : k ≤ 400) (ha : Bd a k) (hb : Bd b k) (hc : Bd c k) (hd : Bd d k) :
    Tot (fun n => ref02_Times n i j) (fun r => (b < a ∨ d < c) ∧ r = (no, 2) ∨ ¬ (b < a ∨ d < c) ∧ ∃ l h, r = (⟨ofQ l, ofQ h⟩, 0) ∧ Ends l h [a * c, a * d, b * c, b * d]) := by
  dsimp only [ref02_Times]
  refine Tot.cut (decide (b < a ∨ d < c)) ?_ ?_
  · refine Tot.bind (Tot.evt (refEmpty_q hi) (Tot.condD (fun h => Tot.ret ?_) (fun h => Tot.bind (Tot.evt (refEmpty_q hj) (Tot.ret ?_)))))
    · symm; rw [decide_eq_true_eq]; exact .inl h
    · rw [decide_eq_decide]; exact ⟨.inr, fun h2 => h2.resolve_left h⟩
  refine Tot.condD (fun h => Tot.ret (.inl ⟨h, rfl⟩)) (fun h => ?_)
  refine Tot.bind (Tot.evt (refMul_q hi.lo hj.lo) (Tot.bind (Tot.evt (refMul_q hi.lo hj.hi) (Tot.bind (Tot.evt (refMul_q hi.hi hj.lo) (Tot.bind (Tot.evt (refMul_q hi.hi hj.hi) ?_)))))))
  refine Tot.idxv (x := ofQ (a * c)) rfl (Tot.idxv (x := ofQ (a * c)) rfl ?_)
  refine Tot.bind (Tot.mono (refTimes_loop (a * c) (a * d) (b * c) (b * d) (show k + k + 1 ≤ 1000 by omega) (bd_mul ha hc) (bd_mul ha hd) (bd_mul hb hc) (bd_mul hb hd)) ?_)
  rintro _ ⟨l, u, rfl, hm⟩
  exact Tot.ret (.inr ⟨h, l, u, rfl, hm⟩)
end
theorem no_lo : Evt (fun n => base_Rational n no.Lo no.Lo) true := baseR_refl _ zero_smr (by omega)
theorem no_hi : Evt (fun n => base_Rational n no.Hi no.Hi) true := baseR_refl _ zero_smr (by omega)
theorem same_ite {P : Prop} [Decidable P] {σ : Type} {u v : σ} {p q : Rat} {k : Nat} (hp : Bd p k) (hq : Bd q k) (hk : k ≤ 1000) :
    Evt (fun n => base_Rational n (if P then (no, u) else ((⟨ofQ p, ofQ q⟩ : Interval), v)).1.Lo (if P then (no, u) else ((⟨ofQ p, ofQ q⟩ : Interval), v)).1.Lo) true ∧
    Evt (fun n => base_Rational n (if P then (no, u) else ((⟨ofQ p, ofQ q⟩ : Interval), v)).1.Hi (if P then (no, u) else ((⟨ofQ p, ofQ q⟩ : Interval), v)).1.Hi) true := by
  split
  · exact ⟨no_lo, no_hi⟩
  · exact ⟨same_q rfl hp hk, same_q rfl hq hk⟩
/-- (P2.7). -/
theorem law_RationalIntervals (i : Interval) (hi : okInterval i) (j : Interval) (hj : okInterval j) : Evt (fun n => law02_RationalIntervals n i j) true := by
  apply Tot.of_eq
  dsimp only [law02_RationalIntervals]
  refine Tot.bind (Tot.bind (Tot.evt awake_ok (Tot.cond (fun h => by cases h) fun _ => ?_)))
  refine Tot.bind (Tot.mono (few_ok [i.Lo, i.Hi, j.Lo, j.Hi] (fun z hz => by
    simp only [List.mem_cons, List.not_mem_nil, or_false] at hz
    rcases hz with rfl | rfl | rfl | rfl
    · exact hi.1
    · exact hi.2
    · exact hj.1
    · exact hj.2) (by simp)) fun r hr => Tot.ret (Tot.cond (fun _ => asleep) fun h => ?_))
  have hr := hr (by simpa using h)
  obtain ⟨r1, b1⟩ := Rp.in60 (hr i.Lo (by simp))
  obtain ⟨r2, b2⟩ := Rp.in60 (hr i.Hi (by simp))
  obtain ⟨r3, b3⟩ := Rp.in60 (hr j.Lo (by simp))
  obtain ⟨r4, b4⟩ := Rp.in60 (hr j.Hi (by simp))
  obtain ⟨A, hA⟩ : ∃ X, toQ i.Lo = X := ⟨_, rfl⟩
  obtain ⟨B, hB⟩ : ∃ X, toQ i.Hi = X := ⟨_, rfl⟩
  obtain ⟨C, hC⟩ : ∃ X, toQ j.Lo = X := ⟨_, rfl⟩
  obtain ⟨D, hD⟩ : ∃ X, toQ j.Hi = X := ⟨_, rfl⟩
  rw [hA] at r1 b1
  rw [hB] at r2 b2
  rw [hC] at r3 b3
  rw [hD] at r4 b4
  have ri : Ri i A B := ⟨r1, r2⟩
  have rj : Ri j C D := ⟨r3, r4⟩
  obtain ⟨e, f, he, hf, be, bf, hm⟩ := meet_q ri rj b1 b2 b3 b4 (show 61 ≤ 1000 by omega)
  obtain ⟨e', f', he', hf', hm'⟩ := refMeet_q ri rj b1 b2 b3 b4 (show 61 ≤ 1000 by omega)
  obtain rfl := max_uniq he he'
  obtain rfl := min_uniq hf hf'
  refine Tot.bind (Tot.evt (plus_q ri rj) (Tot.bind (Tot.mono (timesB_q ri rj (show 61 ≤ 400 by omega) b1 b2 b3 b4) ?_)))
  intro t ht
  refine Tot.bind (Tot.evt hm (Tot.bind (Tot.evt (refPlus_q ri rj) (Tot.bind (Tot.mono (refTimes_q ri rj (show 61 ≤ 400 by omega) b1 b2 b3 b4) ?_)))))
  intro t' ht'
  have htt : t = t' ∧ Evt (fun n => base_Rational n t.1.Lo t.1.Lo) true ∧ Evt (fun n => base_Rational n t.1.Hi t.1.Hi) true := by
    rcases ht with ⟨h1, rfl⟩ | ⟨h1, l, u, rfl, bl, bu, hends⟩
    · rcases ht' with ⟨_, rfl⟩ | ⟨h2, _⟩
      · exact ⟨rfl, no_lo, no_hi⟩
      · exact absurd h1 h2
    · rcases ht' with ⟨h2, _⟩ | ⟨_, l', u', rfl, hends'⟩
      · exact absurd h2 h1
      · obtain ⟨rfl, rfl⟩ := hends.uniq hends'
        exact ⟨rfl, same_q rfl bl (by omega), same_q rfl bu (by omega)⟩
  obtain ⟨rfl, ht1, ht2⟩ := htt
  obtain ⟨p1, p2⟩ := same_ite (P := B < A ∨ D < C) (σ := Int) (u := 2) (v := 0) (bd_add b1 b3) (bd_add b2 b4) (by omega)
  obtain ⟨m1, m2⟩ := same_ite (P := f < e) (σ := Bool) (u := false) (v := true) be bf (by omega)
  refine Tot.bind (Tot.evt hm' ?_)
  refine Tot.cut true ?_ (Tot.ret rfl)
  refine Tot.condE (fun _ => ?_) (fun h => absurd rfl h)
  refine Tot.condE (fun _ => ?_) (fun h => absurd rfl h)
  refine Tot.cond (fun _ => ?_) (fun h => by simp at h)
  refine Tot.bind (Tot.evt p1 (Tot.cond (fun _ => ?_) (fun h => by cases h)))
  refine Tot.bind (Tot.evt p2 (Tot.cond (fun _ => ?_) (fun h => by cases h)))
  refine Tot.bind (Tot.evt ht1 (Tot.cond (fun _ => ?_) (fun h => by cases h)))
  refine Tot.bind (Tot.evt ht2 (Tot.cond (fun _ => ?_) (fun h => by cases h)))
  refine Tot.bind (Tot.evt m1 (Tot.cond (fun _ => ?_) (fun h => by cases h)))
  exact Tot.bind (Tot.evt m2 (Tot.ret rfl))
end Go.Proofs.YtepadjfmcbjkmaaGreatDoor
