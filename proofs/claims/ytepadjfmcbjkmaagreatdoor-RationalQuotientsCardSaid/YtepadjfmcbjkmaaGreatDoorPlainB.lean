/-
  Plain laws on the plain functions.
-/
import Derived.Test.YtepadjfmcbjkmaaGreatDoorPlainA
namespace Go.Proofs.YtepadjfmcbjkmaaGreatDoor
open Go Go.Proofs.YtepadjfmcbjkmaaGreatDoor.Gw
set_option linter.unusedVariables false

/-- The fixed calls return what the document says. -/
theorem awake_ok : Evt (fun n => law02_awake n) true := Evt.of 30 (fun n => by kernel_rfl)
theorem asleep : Tot (fun n => (law02_awake n).bind fun x => some x) (· = true) := Tot.bind (Tot.evt awake_ok (Tot.ret rfl))
theorem Rp.in60 {x : Rational} (h : SmR x 60) : Rp x (toQ x) ∧ Bd (toQ x) 61 := ⟨⟨h.mono (by omega), rfl⟩, h.bd⟩
theorem base_law (p q : Rational) (hp : SmR p 1000) (h : p = q) : Evt (fun n => base_Rational n p q) true := by rw [← h]; exact baseR_refl p hp (by omega)
theorem rat_of {u v : Int} (hu : inK .i64 u) (hv : inK .i64 v) : Evt (fun n => rational_Of n u v) (ofQ (Rat.divInt u v)) ∧ Evt (fun n => ref02_Of n u v) (ofQ (Rat.divInt u v)) ∧ Bd (Rat.divInt u v) 2 := by
  have hu' : -9223372036854775808 ≤ u ∧ u ≤ 9223372036854775807 := ⟨(inK64 hu).1, (inK64 hu).2⟩
  have hv' : -9223372036854775808 ≤ v ∧ v ≤ 9223372036854775807 := ⟨(inK64 hv).1, (inK64 hv).2⟩
  have e : B32 ^ 2 = 18446744073709551616 := by decide
  have bu : u.natAbs < B32 ^ 2 := by rw [e]; omega
  have bv : v.natAbs < B32 ^ 2 := by rw [e]; omega
  have s1 : Sm (ofZ u) 2 := Sm.ofZ bu
  have s2 : Sm (ofZ v) 2 := Sm.ofZ bv
  refine ⟨?_, ?_, bd_divInt (by omega) bu bv⟩
  · apply Tot.of_eq
    dsimp only [rational_Of]
    have nw := New_ok _ _ s1 s2 (by omega)
    rw [toZ_ofZ, toZ_ofZ] at nw
    exact Tot.bind (Tot.evt (Of_ok u hu'.1 hu'.2) (Tot.bind (Tot.evt (Of_ok v hv'.1 hv'.2) (Tot.bind (Tot.evt nw (Tot.ret rfl))))))
  · apply Tot.of_eq
    dsimp only [ref02_Of]
    have nw := refNew_ok _ _ s1 s2 (by omega)
    rw [toZ_ofZ, toZ_ofZ] at nw
    exact Tot.bind (Tot.evt (refOf_ok u hu'.1 hu'.2) (Tot.bind (Tot.evt (refOf_ok v hv'.1 hv'.2) (Tot.bind (Tot.evt nw (Tot.ret rfl))))))
end Go.Proofs.YtepadjfmcbjkmaaGreatDoor

namespace Go.Proofs.YtepadjfmcbjkmaaGreatDoor
open Go Go.Proofs.YtepadjfmcbjkmaaGreatDoor.Gw
set_option linter.unusedVariables false

theorem in3 {a b c : Rational} (ha : okRational a) (hb : okRational b) (hc : okRational c) : ∀ z ∈ [a, b, c], okRational z := fun z hz => by
  simp only [List.mem_cons, List.not_mem_nil, or_false] at hz
  rcases hz with rfl | rfl | rfl
  · exact ha
  · exact hb
  · exact hc
theorem sgnQ_zero {q : Rat} : sgnQ q = 0 ↔ q = 0 := by unfold sgnQ; rw [sgn_zero, Rat.num_eq_zero]
theorem div_back {a b : Rat} (h : b ≠ 0) : a * b * b⁻¹ = a := by rw [Rat.mul_assoc, Rat.mul_inv_cancel b h, Rat.mul_one]
end Go.Proofs.YtepadjfmcbjkmaaGreatDoor

namespace Go.Proofs.YtepadjfmcbjkmaaGreatDoor
open Go Go.Proofs.YtepadjfmcbjkmaaGreatDoor.Gw
set_option linter.unusedVariables false

/- ### Order -/
theorem cmpQ_in (p q : Rat) : -1 ≤ cmpQ p q ∧ cmpQ p q ≤ 1 := by
  unfold cmpQ
  split
  · omega
  · split <;> omega
theorem cmpQ_lt {p q : Rat} : cmpQ p q < 0 ↔ p < q := by
  unfold cmpQ
  split
  · rename_i h; exact ⟨fun _ => h, fun _ => by omega⟩
  · rename_i h; exact ⟨fun e => by (split at e <;> omega), fun e => absurd e h⟩
theorem cmpQ_le {p q : Rat} : cmpQ p q ≤ 0 ↔ p ≤ q := by
  unfold cmpQ
  split
  · rename_i h; exact ⟨fun _ => Rat.le_of_lt h, fun _ => by omega⟩
  · rename_i h
    split
    · rename_i h2; exact ⟨fun e => by omega, fun e => absurd h2 (Rat.not_lt.2 e)⟩
    · rename_i h2; exact ⟨fun _ => Rat.not_lt.1 h2, fun _ => by omega⟩
theorem cmpQ_zero {p q : Rat} : cmpQ p q = 0 ↔ p = q := by
  unfold cmpQ
  split
  · rename_i h; exact ⟨fun e => by omega, fun e => absurd h (by rw [e]; exact Rat.lt_irrefl)⟩
  · rename_i h
    split
    · rename_i h2; exact ⟨fun e => by omega, fun e => absurd h2 (by rw [e]; exact Rat.lt_irrefl)⟩
    · rename_i h2; exact ⟨fun _ => Rat.le_antisymm (Rat.not_lt.1 h2) (Rat.not_lt.1 h), fun _ => rfl⟩
theorem cmpQ_swap (p q : Rat) : cmpQ q p = -cmpQ p q := by
  unfold cmpQ
  split
  · rename_i h
    rw [if_neg (Rat.not_lt.2 (Rat.le_of_lt h))]
  · rename_i h
    by_cases h2 : p < q
    · rw [if_pos h2, if_pos h2]; rfl
    · rw [if_neg h2, if_neg h2]; rfl
theorem cmpQ_add (p q r : Rat) : cmpQ (p + r) (q + r) = cmpQ p q := by
  unfold cmpQ
  simp only [Rat.add_lt_add_right]
theorem pos_of_sgn {r : Rat} (h : 0 < r.num) : 0 < r := by
  rw [Rat.lt_iff]
  show (0 : Int) * r.den < r.num * (1 : Nat)
  omega
theorem cmpQ_mul_pos {p q r : Rat} (h : 0 < r) : cmpQ (p * r) (q * r) = cmpQ p q := by
  unfold cmpQ
  simp only [Rat.mul_lt_mul_right h]
theorem cmpQ_neg (p q : Rat) : cmpQ (-p) (-q) = cmpQ q p := by
  unfold cmpQ
  have e : ∀ p q : Rat, -p < -q ↔ q < p := fun p q => ⟨fun h => by have := Rat.neg_lt_neg h; rwa [Rat.neg_neg, Rat.neg_neg] at this, fun h => Rat.neg_lt_neg h⟩
  simp only [e]
theorem cmpQ_mul (p q r : Rat) : cmpQ (p * r) (q * r) = cmpQ p q * sgnQ r := by
  unfold sgnQ sgn
  split
  · rename_i h
    have h2 : 0 < -r := pos_of_sgn (by rw [Rat.neg_num]; omega)
    have e := cmpQ_mul_pos (p := p) (q := q) h2
    rw [Rat.mul_neg, Rat.mul_neg, cmpQ_neg, cmpQ_swap] at e
    omega
  · split
    · rename_i h
      rw [cmpQ_mul_pos (pos_of_sgn h)]; omega
    · rename_i h1 h2
      have h0 : r = 0 := Rat.num_eq_zero.1 (by omega)
      rw [h0, Rat.mul_zero, Rat.mul_zero, cmpQ_zero.2 rfl]; omega
theorem mul_cs (p q r : Rat) : IntKind.i64.wrap (cmpQ p q * sgnQ r) = cmpQ p q * sgnQ r := by
  have h1 := cmpQ_in p q
  have h2 := sgn_in r.num
  have : cmpQ p q = -1 ∨ cmpQ p q = 0 ∨ cmpQ p q = 1 := by omega
  unfold sgnQ
  rcases this with h | h | h <;> rw [h] <;> exact w64 (by omega) (by omega)
theorem divInt_one (z : Int) : Rat.divInt z 1 = (z : Rat) := (Rat.mk_eq_divInt (num := z) (den := 1) (nz := by decide) (c := Nat.coprime_one_right _)).symm
theorem whole_iff (q : Rat) : ((q.floor : Int) : Rat) = q ↔ q.den = 1 := by
  constructor
  · intro h; rw [← h]; rfl
  · intro h
    have e : q = ((q.num : Int) : Rat) := by
      conv => lhs; rw [← Rat.num_divInt_den q, h]
      exact divInt_one _
    rw [e, Rat.floor_intCast]
theorem int_q (z : Int) {k : Nat} (h : z.natAbs < B32 ^ k) (hk : 0 < k ∧ k ≤ 1000) : Rp ⟨ofZ z, ⟨false, [1]⟩⟩ (z : Rat) ∧ Bd (z : Rat) k := by
  have e1 : toZ ⟨false, [1]⟩ = 1 := rfl
  have wd1 : Sm (⟨false, [1]⟩ : Int_2) 1000 := ⟨fun x hx => by rw [List.mem_singleton] at hx; subst hx; omega, by simp⟩
  refine ⟨⟨⟨sm_of h hk.2, wd1⟩, ?_⟩, h, one_lt_pow hk.1⟩
  unfold toQ
  rw [e1, toZ_ofZ]
  exact divInt_one z
end Go.Proofs.YtepadjfmcbjkmaaGreatDoor

namespace Go.Proofs.YtepadjfmcbjkmaaGreatDoor
open Go Go.Proofs.YtepadjfmcbjkmaaGreatDoor.Gw
set_option linter.unusedVariables false

/- ### Intervals -/
structure Ri (i : Interval) (a b : Rat) : Prop where
  lo : Rp i.Lo a
  hi : Rp i.Hi b
theorem Ri.of {a b : Rat} {k l : Nat} (h : Bd a k) (h2 : Bd b l) (hk : k ≤ 1000) (hl : l ≤ 1000) : Ri ⟨ofQ a, ofQ b⟩ a b := ⟨Rp.of h hk, Rp.of h2 hl⟩
section
variable {i j : Interval} {a b c d : Rat} {x : Rational} {q : Rat}
instance : Decidable (a ≤ q ∧ q ≤ b) := inferInstance
theorem cmpQ_gt {p q : Rat} : cmpQ p q > 0 ↔ q < p := by
  have := cmpQ_le (p := p) (q := q)
  rw [← Rat.not_le, ← this]; omega
theorem empty_q (hi : Ri i a b) : Evt (fun n => rational_empty n i) (decide (b < a)) := by
  apply Tot.of_eq
  dsimp only [rational_empty]
  refine Tot.bind (Tot.evt (cmp_q hi.lo hi.hi) (Tot.ret ?_))
  rw [decide_eq_decide, cmpQ_gt]
def no : Interval := ⟨⟨⟨false, []⟩, ⟨false, []⟩⟩, ⟨⟨false, []⟩, ⟨false, []⟩⟩⟩
theorem plus_q (hi : Ri i a b) (hj : Ri j c d) : Evt (fun n => rational_Plus n i j) (if b < a ∨ d < c then (no, 2) else (⟨ofQ (a + c), ofQ (b + d)⟩, 0)) := by
  apply Tot.of_eq
  dsimp only [rational_Plus]
  refine Tot.cut (decide (b < a ∨ d < c)) ?_ ?_
  · refine Tot.bind (Tot.evt (empty_q hi) (Tot.condD (fun h => Tot.ret ?_) (fun h => Tot.bind (Tot.evt (empty_q hj) (Tot.ret ?_)))))
    · symm; rw [decide_eq_true_eq]; exact .inl h
    · rw [decide_eq_decide]; exact ⟨.inr, fun h2 => h2.resolve_left h⟩
  refine Tot.condD (fun h => Tot.ret ?_) (fun h => ?_)
  · rw [if_pos h]; rfl
  · rw [if_neg h]
    exact Tot.bind (Tot.evt (add_q hi.lo hj.lo) (Tot.bind (Tot.evt (add_q hi.hi hj.hi) (Tot.ret rfl))))
theorem meet_q (hi : Ri i a b) (hj : Ri j c d) {k : Nat} (ha : Bd a k) (hb : Bd b k) (hc : Bd c k) (hd : Bd d k) (hk : k ≤ 1000) :
    ∃ e f, (a ≤ e ∧ c ≤ e ∧ (e = a ∨ e = c)) ∧ (f ≤ b ∧ f ≤ d ∧ (f = b ∨ f = d)) ∧ Bd e k ∧ Bd f k ∧ Evt (fun n => rational_Meet n i j) (if f < e then (no, false) else (⟨ofQ e, ofQ f⟩, true)) := by
  obtain ⟨e, he⟩ : ∃ e, (if a < c then c else a) = e := ⟨_, rfl⟩
  obtain ⟨f, hf⟩ : ∃ f, (if d < b then d else b) = f := ⟨_, rfl⟩
  have e1 : a ≤ e ∧ c ≤ e ∧ (e = a ∨ e = c) := by
    rw [← he]; split
    · exact ⟨Rat.le_of_lt ‹_›, Rat.le_refl, .inr rfl⟩
    · exact ⟨Rat.le_refl, Rat.not_lt.1 ‹_›, .inl rfl⟩
  have f1 : f ≤ b ∧ f ≤ d ∧ (f = b ∨ f = d) := by
    rw [← hf]; split
    · exact ⟨Rat.le_of_lt ‹_›, Rat.le_refl, .inr rfl⟩
    · exact ⟨Rat.le_refl, Rat.not_lt.1 ‹_›, .inl rfl⟩
  have be : Bd e k := by rcases e1.2.2 with h | h <;> rw [h] <;> assumption
  have bf : Bd f k := by rcases f1.2.2 with h | h <;> rw [h] <;> assumption
  refine ⟨e, f, e1, f1, be, bf, ?_⟩
  apply Tot.of_eq
  dsimp only [rational_Meet]
  refine Tot.bind (Tot.bind (Tot.evt (norm_q hi.lo) (Tot.bind (Tot.evt (norm_q hi.hi) (Tot.ret ?_)))))
  refine Tot.cut ((ofQ e).Num.Neg, (ofQ e).Num.Mag, (ofQ e).Den.Neg, (ofQ e).Den.Mag) ?_ ?_
  · refine Tot.bind (Tot.evt (cmp_q hj.lo (Rp.of ha hk)) (Tot.condD (fun h => ?_) (fun h => Tot.ret ?_)))
    · rw [if_pos (cmpQ_gt.1 h)] at he
      subst he
      exact Tot.bind (Tot.evt (norm_q hj.lo) (Tot.ret rfl))
    · rw [if_neg (fun h2 => h (cmpQ_gt.2 h2))] at he
      rw [he]
  refine Tot.cut ((ofQ f).Num.Neg, (ofQ f).Num.Mag, (ofQ f).Den.Neg, (ofQ f).Den.Mag) ?_ ?_
  · refine Tot.bind (Tot.evt (cmp_q hj.hi (Rp.of hb hk)) (Tot.condD (fun h => ?_) (fun h => Tot.ret ?_)))
    · rw [if_pos (cmpQ_lt.1 h)] at hf
      subst hf
      exact Tot.bind (Tot.evt (norm_q hj.hi) (Tot.ret rfl))
    · rw [if_neg (fun h2 => h (cmpQ_lt.2 h2))] at hf
      rw [hf]
  refine Tot.bind (Tot.evt (empty_q (Ri.of be bf hk hk)) (Tot.condD (fun h => Tot.ret ?_) (fun h => Tot.ret ?_)))
  · rw [if_pos h]; rfl
  · rw [if_neg h]
end
/-- The four ends' least and greatest. -/
theorem times_loop (p0 p1 p2 p3 : Rat) {k : Nat} (hk : k ≤ 1000) (b0 : Bd p0 k) (b1 : Bd p1 k) (b2 : Bd p2 k) (b3 : Bd p3 k) :
    Tot (fun n => loopN (rational_Times_L1 n (ofQ p1) (ofQ p2) (ofQ p3)) n ((ofQ p0).Num.Neg, (ofQ p0).Num.Mag, (ofQ p0).Den.Neg, (ofQ p0).Den.Mag, (ofQ p0).Num.Neg, (ofQ p0).Num.Mag, (ofQ p0).Den.Neg, (ofQ p0).Den.Mag, 0))
      (fun r => ∃ l h, r = ((ofQ l).Num.Neg, (ofQ l).Num.Mag, (ofQ l).Den.Neg, (ofQ l).Den.Mag, (ofQ h).Num.Neg, (ofQ h).Num.Mag, (ofQ h).Den.Neg, (ofQ h).Den.Mag) ∧ Bd l k ∧ Bd h k ∧ (l ∈ [p0, p1, p2, p3] ∧ h ∈ [p0, p1, p2, p3]) ∧ ∀ x ∈ [p0, p1, p2, p3], l ≤ x ∧ x ≤ h) := by
  refine Tot.loop (fun s => ∃ (i : Nat) (l h : Rat), s = ((ofQ l).Num.Neg, (ofQ l).Num.Mag, (ofQ l).Den.Neg, (ofQ l).Den.Mag, (ofQ h).Num.Neg, (ofQ h).Num.Mag, (ofQ h).Den.Neg, (ofQ h).Den.Mag, (i : Int)) ∧ i ≤ 3 ∧ Bd l k ∧ Bd h k ∧ (l ∈ [p0, p1, p2, p3] ∧ h ∈ [p0, p1, p2, p3]) ∧ (l ≤ p0 ∧ p0 ≤ h) ∧ ∀ j, j < i → ∀ x, [p1, p2, p3][j]? = some x → l ≤ x ∧ x ≤ h) (fun s => 3 - s.2.2.2.2.2.2.2.2.toNat)
    ⟨0, p0, p0, rfl, by omega, b0, b0, ⟨by simp, by simp⟩, ⟨Rat.le_refl, Rat.le_refl⟩, fun j hj => by omega⟩ ?_
  rintro _ ⟨i, l, h, rfl, hi, bl, bh, hmem, h0, hj⟩
  dsimp only [rational_Times_L1]
  refine Tot.condD (fun hc => ?_) (fun hc => Tot.ret ⟨l, h, rfl, bl, bh, hmem, ?_⟩)
  · have hi3 : i < 3 := by
      have : (([ofQ p1, ofQ p2, ofQ p3].length : Nat) : Int) = 3 := rfl
      omega
    obtain ⟨x, hx, bx⟩ : ∃ x, [p1, p2, p3][i]? = some x ∧ Bd x k := by
      match i, hi3 with
      | 0, _ => exact ⟨p1, rfl, b1⟩
      | 1, _ => exact ⟨p2, rfl, b2⟩
      | 2, _ => exact ⟨p3, rfl, b3⟩
    have hx2 : [ofQ p1, ofQ p2, ofQ p3][i]? = some (ofQ x) := by
      match i, hi3, hx with
      | 0, _, e => cases e; rfl
      | 1, _, e => cases e; rfl
      | 2, _, e => cases e; rfl
    obtain ⟨l', hl'⟩ : ∃ e, (if x < l then x else l) = e := ⟨_, rfl⟩
    obtain ⟨h', hh'⟩ : ∃ f, (if h < x then x else h) = f := ⟨_, rfl⟩
    have e1 : l' ≤ l ∧ l' ≤ x ∧ (l' = l ∨ l' = x) := by
      rw [← hl']; split
      · exact ⟨Rat.le_of_lt ‹_›, Rat.le_refl, .inr rfl⟩
      · exact ⟨Rat.le_refl, Rat.not_lt.1 ‹_›, .inl rfl⟩
    have f1 : h ≤ h' ∧ x ≤ h' ∧ (h' = h ∨ h' = x) := by
      rw [← hh']; split
      · exact ⟨Rat.le_of_lt ‹_›, Rat.le_refl, .inr rfl⟩
      · exact ⟨Rat.le_refl, Rat.not_lt.1 ‹_›, .inl rfl⟩
    have be : Bd l' k := by rcases e1.2.2 with h | h <;> rw [h] <;> assumption
    have bf : Bd h' k := by rcases f1.2.2 with h | h <;> rw [h] <;> assumption
    have xm : x ∈ [p0, p1, p2, p3] := List.mem_cons_of_mem _ (List.mem_of_getElem? hx)
    have ml : l' ∈ [p0, p1, p2, p3] := e1.2.2.elim (fun h => h ▸ hmem.1) (fun h => h ▸ xm)
    have mh : h' ∈ [p0, p1, p2, p3] := f1.2.2.elim (fun h => h ▸ hmem.2) (fun h => h ▸ xm)
    rw [w64 (by omega) (by omega)]
    refine Tot.bind (Tot.idxv (idx_get hx2) ?_)
    refine Tot.cut ((ofQ l').Num.Neg, (ofQ l').Num.Mag, (ofQ l').Den.Neg, (ofQ l').Den.Mag) ?_ ?_
    · refine Tot.bind (Tot.evt (cmp_q (Rp.of bx hk) (Rp.of bl hk)) (Tot.condD (fun h => Tot.ret ?_) (fun h => Tot.ret ?_)))
      · rw [if_pos (cmpQ_lt.1 h)] at hl'; rw [hl']
      · rw [if_neg (fun h2 => h (cmpQ_lt.2 h2))] at hl'; rw [hl']
    refine Tot.bind (Tot.evt (cmp_q (Rp.of bx hk) (Rp.of bh hk)) ?_)
    have fin : ∀ r, r = ((ofQ l').Num.Neg, (ofQ l').Num.Mag, (ofQ l').Den.Neg, (ofQ l').Den.Mag, (ofQ h').Num.Neg, (ofQ h').Num.Mag, (ofQ h').Den.Neg, (ofQ h').Den.Mag, (i : Int) + 1) → (∃ (i : Nat) (l h : Rat), r = ((ofQ l).Num.Neg, (ofQ l).Num.Mag, (ofQ l).Den.Neg, (ofQ l).Den.Mag, (ofQ h).Num.Neg, (ofQ h).Num.Mag, (ofQ h).Den.Neg, (ofQ h).Den.Mag, (i : Int)) ∧ i ≤ 3 ∧ Bd l k ∧ Bd h k ∧ (l ∈ [p0, p1, p2, p3] ∧ h ∈ [p0, p1, p2, p3]) ∧ (l ≤ p0 ∧ p0 ≤ h) ∧ ∀ j, j < i → ∀ x, [p1, p2, p3][j]? = some x → l ≤ x ∧ x ≤ h) ∧ 3 - r.2.2.2.2.2.2.2.2.toNat < 3 - ((i : Int)).toNat := by
      rintro _ rfl
      refine ⟨⟨i + 1, l', h', rfl, by omega, be, bf, ⟨ml, mh⟩, ⟨Rat.le_trans e1.1 h0.1, Rat.le_trans h0.2 f1.1⟩, fun j hj2 y hy => ?_⟩, ?_⟩
      · rcases Nat.lt_or_ge j i with hlt | hge
        · obtain ⟨y1, y2⟩ := hj j hlt y hy
          exact ⟨Rat.le_trans e1.1 y1, Rat.le_trans y2 f1.1⟩
        · obtain rfl : j = i := by omega
          rw [hx] at hy; cases hy
          exact ⟨e1.2.1, f1.2.1⟩
      · dsimp only; omega
    refine Tot.condD (fun h => Tot.ret (Tot.ret (fin _ ?_))) (fun h => Tot.ret (Tot.ret (fin _ ?_)))
    · rw [if_pos (cmpQ_gt.1 h)] at hh'; rw [hh']
    · rw [if_neg (fun h2 => h (cmpQ_gt.2 h2))] at hh'; rw [hh']
  · have hi3 : i = 3 := by
      have : (([ofQ p1, ofQ p2, ofQ p3].length : Nat) : Int) = 3 := rfl
      omega
    subst hi3
    intro x hx
    simp only [List.mem_cons, List.not_mem_nil, or_false] at hx
    rcases hx with rfl | rfl | rfl | rfl
    · exact h0
    · exact hj 0 (by omega) _ rfl
    · exact hj 1 (by omega) _ rfl
    · exact hj 2 (by omega) _ rfl
end Go.Proofs.YtepadjfmcbjkmaaGreatDoor

namespace Go.Proofs.YtepadjfmcbjkmaaGreatDoor
open Go Go.Proofs.YtepadjfmcbjkmaaGreatDoor.Gw
set_option linter.unusedVariables false

/- ### The reference: order, quotient, floor -/
theorem num_neg_iff {z : Rat} : z < 0 ↔ z.num < 0 := by
  rw [Rat.lt_iff]
  show z.num * ((1 : Nat) : Int) < 0 * z.den ↔ _
  omega
theorem num_pos_iff {z : Rat} : 0 < z ↔ 0 < z.num := by
  rw [Rat.lt_iff]
  show (0 : Int) * z.den < z.num * ((1 : Nat) : Int) ↔ _
  omega
theorem sgnQ_cmp (z : Rat) : sgnQ z = cmpQ z 0 := by
  unfold sgnQ sgn cmpQ
  simp only [num_neg_iff, num_pos_iff]
theorem sgnQ_sub (p q : Rat) : sgnQ (p - q) = cmpQ p q := by
  have h := cmpQ_add (p - q) 0 q
  have e1 : p - q + q = p := by rw [Rat.sub_eq_add_neg, Rat.add_assoc, Rat.neg_add_cancel, Rat.add_zero]
  rw [e1, Rat.zero_add] at h
  rw [sgnQ_cmp, h]
section
variable {x y : Rational} {p q : Rat}
theorem refCmp_q (hx : Rp x p) (hy : Rp y q) : Evt (fun n => ref02_Cmp n x y) (cmpQ p q) := by
  apply Tot.of_eq
  dsimp only [ref02_Cmp]
  have bx := hx.sm.bd
  have by_ := hy.sm.bd
  rw [hx.eq] at bx
  rw [hy.eq] at by_
  have s := smr_of (bd_sub bx by_) (Nat.le_refl _)
  have h := refSignR_ok s (by omega)
  rw [toQ_ofQ, sgnQ_sub] at h
  exact Tot.bind (Tot.evt (refSub_q hx hy) (Tot.bind (Tot.evt h (Tot.ret rfl))))
theorem refFloor_q (hx : Rp x p) : Evt (fun n => ref02_Floor n x) (ofZ p.floor) := by
  apply Tot.of_eq
  dsimp only [ref02_Floor]
  have bx := hx.sm.bd
  rw [hx.eq] at bx
  obtain ⟨a1, a2⟩ := bd_pos bx
  have d := part_ok _ _ a1 a2 (by omega) (by rw [toZ_ofZ]; exact den_ne p)
  rw [toZ_ofZ, toZ_ofZ] at d
  refine Tot.bind (Tot.evt (refNorm_q hx) (Tot.bind (Tot.evt d (Tot.ret ?_))))
  rw [Rat.floor_def]
theorem refWhole_q (hx : Rp x p) : Evt (fun n => ref02_Whole n x) (if p.den = 1 then (ofZ p.num, true) else (⟨false, []⟩, false)) := by
  apply Tot.of_eq
  dsimp only [ref02_Whole]
  have bx := hx.sm.bd
  rw [hx.eq] at bx
  have s1 : Sm (ofZ (p.den : Int)) 2000 := sm_of (by rw [den_abs]; exact bx.2) (by omega)
  have s2 : Sm (ofZ 1) 2000 := sm_of (z := 1) (k := 1) (by decide) (by omega)
  have c := refCmpZ_ok s1 s2 (by omega)
  rw [toZ_ofZ, toZ_ofZ] at c
  have hp := p.den_pos
  have hc : cmpZ (p.den : Int) 1 = 0 ↔ p.den = 1 := by
    unfold cmpZ
    rw [if_neg (by omega)]
    split <;> omega
  refine Tot.bind (Tot.evt (refNorm_q hx) (Tot.bind (Tot.evt refOne_ok (Tot.bind (Tot.evt c (Tot.condN (fun h => Tot.ret ?_) (fun h => Tot.ret ?_))))))) 
  · rw [if_neg (fun e => h (hc.2 e))]
  · rw [if_pos (hc.1 h)]; rfl
theorem refDiv_q (hx : Rp x p) (hy : Rp y q) : Evt (fun n => ref02_Div n x y) (if q = 0 then (⟨⟨false, []⟩, ⟨false, []⟩⟩, 10) else (ofQ (p * q⁻¹), 0)) := by
  apply Tot.of_eq
  dsimp only [ref02_Div]
  have bx := hx.sm.bd
  have by_ := hy.sm.bd
  rw [hx.eq] at bx
  rw [hy.eq] at by_
  obtain ⟨a1, a2⟩ := bd_pos bx
  obtain ⟨b1, b2⟩ := bd_pos by_
  have hs := refSignR_ok (smr_of by_ (Nat.le_refl _)) (by omega)
  rw [toQ_ofQ] at hs
  have m1 := refMul_ok a1 b2 (by omega)
  have m2 := refMul_ok a2 b1 (by omega)
  rw [toZ_ofZ, toZ_ofZ] at m1 m2
  have z1 : Sm (ofZ (p.num * q.den)) 2002 := sm_of (sm_mul bx.1 (by rw [den_abs]; exact by_.2)) (by omega)
  have z2 : Sm (ofZ ((p.den : Int) * q.num)) 2002 := sm_of (sm_mul (by rw [den_abs]; exact bx.2) by_.1) (by omega)
  have nw := refNew_ok _ _ z1 z2 (by omega)
  rw [toZ_ofZ, toZ_ofZ, ← Rat.divInt_mul_divInt, Rat.num_divInt_den, ← inv_num] at nw
  refine Tot.bind (Tot.evt (refNorm_q hx) (Tot.bind (Tot.evt (refNorm_q hy) (Tot.bind (Tot.evt hs (Tot.condE (fun h => Tot.ret ?_) (fun h => ?_)))))))
  · rw [if_pos (sgnQ_zero.1 h)]
  · rw [if_neg (fun e => h (sgnQ_zero.2 e))]
    exact Tot.bind (Tot.evt m1 (Tot.bind (Tot.evt m2 (Tot.bind (Tot.evt nw (Tot.ret rfl))))))
theorem least_q (hx : Rp x p) (hy : Rp y q) : Evt (fun n => ref02_least n x y) (ofQ (if q < p then q else p)) := by
  apply Tot.of_eq
  dsimp only [ref02_least]
  refine Tot.bind (Tot.evt (refCmp_q hy hx) (Tot.condD (fun h => Tot.bind (Tot.evt (refNorm_q hy) (Tot.ret ?_))) (fun h => Tot.bind (Tot.evt (refNorm_q hx) (Tot.ret ?_)))))
  · rw [if_pos (cmpQ_lt.1 h)]
  · rw [if_neg (fun e => h (cmpQ_lt.2 e))]
theorem greatest_q (hx : Rp x p) (hy : Rp y q) : Evt (fun n => ref02_greatest n x y) (ofQ (if p < q then q else p)) := by
  apply Tot.of_eq
  dsimp only [ref02_greatest]
  refine Tot.bind (Tot.evt (refCmp_q hy hx) (Tot.condD (fun h => Tot.bind (Tot.evt (refNorm_q hy) (Tot.ret ?_))) (fun h => Tot.bind (Tot.evt (refNorm_q hx) (Tot.ret ?_)))))
  · rw [if_pos (cmpQ_gt.1 h)]
  · rw [if_neg (fun e => h (cmpQ_gt.2 e))]
end
theorem zero_smr : SmR ⟨⟨false, []⟩, ⟨false, []⟩⟩ 1000 := ⟨⟨Wd.nil, by simp⟩, ⟨Wd.nil, by simp⟩⟩
theorem baseInt_z {z : Int} {k : Nat} (h : z.natAbs < B32 ^ k) (hk : k ≤ 1000000) : Evt (fun n => base_Int n (ofZ z) (ofZ z)) true := baseInt_refl _ ((sm_of h hk).len)
/-- (P2.6). -/
theorem law_RationalQuotients (a : Rational) (ha : okRational a) (b : Rational) (hb : okRational b) : Evt (fun n => law02_RationalQuotients n a b) true := by
  apply Tot.of_eq
  dsimp only [law02_RationalQuotients]
  refine Tot.bind (Tot.bind (Tot.evt awake_ok (Tot.cond (fun h => by cases h) fun _ => ?_)))
  refine Tot.bind (Tot.mono (few_ok [a, b] (fun z hz => by
    simp only [List.mem_cons, List.not_mem_nil, or_false] at hz
    rcases hz with rfl | rfl
    · exact ha
    · exact hb) (by simp)) fun r hr => Tot.ret (Tot.cond (fun _ => asleep) fun h => ?_))
  have hr := hr (by simpa using h)
  obtain ⟨ra, ba⟩ := Rp.in60 (hr a (by simp))
  obtain ⟨rb, bb⟩ := Rp.in60 (hr b (by simp))
  obtain ⟨A, hA⟩ : ∃ X, toQ a = X := ⟨_, rfl⟩
  obtain ⟨B, hB⟩ : ∃ X, toQ b = X := ⟨_, rfl⟩
  rw [hA] at ra ba
  rw [hB] at rb bb
  have fl : A.floor.natAbs < B32 ^ 61 := by rw [Rat.floor_def]; exact Nat.lt_of_le_of_lt (Int.natAbs_ediv_le_natAbs _ _) ba.1
  refine Tot.bind (Tot.evt (div_q ra rb bb (by omega)) (Tot.bind (Tot.evt (refDiv_q ra rb) (Tot.bind (Tot.evt (whole_q ra) (Tot.bind (Tot.evt (refWhole_q ra) ?_)))))))
  refine Tot.cut true ?_ (Tot.ret rfl)
  refine Tot.condE (fun _ => ?_) (fun h => absurd rfl h)
  have hd : Evt (fun n => base_Rational n (if B = 0 then ((⟨⟨false, []⟩, ⟨false, []⟩⟩ : Rational), (10 : Int)) else (ofQ (A * B⁻¹), 0)).1 (if B = 0 then ((⟨⟨false, []⟩, ⟨false, []⟩⟩ : Rational), (10 : Int)) else (ofQ (A * B⁻¹), 0)).1) true := by
    split
    · exact baseR_refl _ zero_smr (by omega)
    · exact same_q rfl (bd_mul ba (bd_inv bb)) (by omega)
  refine Tot.bind (Tot.evt hd (Tot.cond (fun _ => ?_) (fun h => by cases h)))
  refine Tot.bind (Tot.evt (cmp_q ra rb) (Tot.bind (Tot.evt (refCmp_q ra rb) (Tot.condE (fun _ => ?_) (fun h => absurd rfl h)))))
  refine Tot.bind (Tot.evt (floor_q ra) (Tot.bind (Tot.evt (refFloor_q ra) (Tot.bind (Tot.evt (baseInt_z fl (by omega)) (Tot.cond (fun _ => ?_) (fun h => by cases h)))))))
  have hw : Evt (fun n => base_Int n (if A.den = 1 then (ofZ A.num, true) else ((⟨false, []⟩ : Int_2), false)).1 (if A.den = 1 then (ofZ A.num, true) else ((⟨false, []⟩ : Int_2), false)).1) true := by
    split
    · exact baseInt_z ba.1 (by omega)
    · exact baseInt_refl _ (by simp)
  refine Tot.bind (Tot.evt hw (Tot.cond (fun _ => Tot.ret ?_) (fun h => by cases h)))
  simp
end Go.Proofs.YtepadjfmcbjkmaaGreatDoor
