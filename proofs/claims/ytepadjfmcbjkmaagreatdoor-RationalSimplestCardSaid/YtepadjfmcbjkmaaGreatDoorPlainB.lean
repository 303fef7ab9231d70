/-
  Plain laws on the plain functions.
-/
import Derived.Test.YtepadjfmcbjkmaaGreatDoorPlainA
namespace Go.Proofs.YtepadjfmcbjkmaaGreatDoor
open Go Go.Proofs.YtepadjfmcbjkmaaGreatDoor.Gw
set_option linter.unusedVariables false

/-- The fixed calls return what the document says. -/
theorem awake_ok : Evt (fun n => law02_awake n) true := Evt.of 30 (fun n => by kernel_rfl)
theorem asleep : Tot (fun n => (law02_awake n).bind fun x => some x) (· = true) := Tot.bind (Tot.evt awake_ok (Tot.ret rfl))
theorem Rp.in60 {x : Rational} (h : SmR x 60) : Rp x (toQ x) ∧ Bd (toQ x) 61 := ⟨⟨h.mono (by omega), rfl⟩, h.bd⟩
theorem rat_of {u v : Int} (hu : inK .i64 u) (hv : inK .i64 v) : Evt (fun n => rational_Of n u v) (ofQ (Rat.divInt u v)) ∧ Evt (fun n => ref02_Of n u v) (ofQ (Rat.divInt u v)) ∧ Bd (Rat.divInt u v) 2 := by
  have hu' : -9223372036854775808 ≤ u ∧ u ≤ 9223372036854775807 := ⟨(inK64 hu).1, (inK64 hu).2⟩
  have hv' : -9223372036854775808 ≤ v ∧ v ≤ 9223372036854775807 := ⟨(inK64 hv).1, (inK64 hv).2⟩
  have e : B32 ^ 2 = 18446744073709551616 := by decide
  have bu : u.natAbs < B32 ^ 2 := by rw [e]; omega
  have bv : v.natAbs < B32 ^ 2 := by rw [e]; omega
  have s1 : Sm (ofZ u) 2 := Sm.ofZ bu
  have s2 : Sm (ofZ v) 2 := Sm.ofZ bv
  refine ⟨?_, ?_, bd_divInt (by omega) bu bv⟩
  · apply Tot.of_eq
    dsimp only [rational_Of]
    have nw := New_ok _ _ s1 s2 (by omega)
    rw [toZ_ofZ, toZ_ofZ] at nw
    exact Tot.bind (Tot.evt (Of_ok u hu'.1 hu'.2) (Tot.bind (Tot.evt (Of_ok v hv'.1 hv'.2) (Tot.bind (Tot.evt nw (Tot.ret rfl))))))
  · apply Tot.of_eq
    dsimp only [ref02_Of]
    have nw := refNew_ok _ _ s1 s2 (by omega)
    rw [toZ_ofZ, toZ_ofZ] at nw
    exact Tot.bind (Tot.evt (refOf_ok u hu'.1 hu'.2) (Tot.bind (Tot.evt (refOf_ok v hv'.1 hv'.2) (Tot.bind (Tot.evt nw (Tot.ret rfl))))))
end Go.Proofs.YtepadjfmcbjkmaaGreatDoor

namespace Go.Proofs.YtepadjfmcbjkmaaGreatDoor
open Go Go.Proofs.YtepadjfmcbjkmaaGreatDoor.Gw
set_option linter.unusedVariables false

theorem sgnQ_zero {q : Rat} : sgnQ q = 0 ↔ q = 0 := by unfold sgnQ; rw [sgn_zero, Rat.num_eq_zero]
end Go.Proofs.YtepadjfmcbjkmaaGreatDoor

namespace Go.Proofs.YtepadjfmcbjkmaaGreatDoor
open Go Go.Proofs.YtepadjfmcbjkmaaGreatDoor.Gw
set_option linter.unusedVariables false

/- ### Order -/
theorem cmpQ_lt {p q : Rat} : cmpQ p q < 0 ↔ p < q := by
  unfold cmpQ
  split
  · rename_i h; exact ⟨fun _ => h, fun _ => by omega⟩
  · rename_i h; exact ⟨fun e => by (split at e <;> omega), fun e => absurd e h⟩
theorem cmpQ_le {p q : Rat} : cmpQ p q ≤ 0 ↔ p ≤ q := by
  unfold cmpQ
  split
  · rename_i h; exact ⟨fun _ => Rat.le_of_lt h, fun _ => by omega⟩
  · rename_i h
    split
    · rename_i h2; exact ⟨fun e => by omega, fun e => absurd h2 (Rat.not_lt.2 e)⟩
    · rename_i h2; exact ⟨fun _ => Rat.not_lt.1 h2, fun _ => by omega⟩
theorem cmpQ_zero {p q : Rat} : cmpQ p q = 0 ↔ p = q := by
  unfold cmpQ
  split
  · rename_i h; exact ⟨fun e => by omega, fun e => absurd h (by rw [e]; exact Rat.lt_irrefl)⟩
  · rename_i h
    split
    · rename_i h2; exact ⟨fun e => by omega, fun e => absurd h2 (by rw [e]; exact Rat.lt_irrefl)⟩
    · rename_i h2; exact ⟨fun _ => Rat.le_antisymm (Rat.not_lt.1 h2) (Rat.not_lt.1 h), fun _ => rfl⟩
theorem cmpQ_add (p q r : Rat) : cmpQ (p + r) (q + r) = cmpQ p q := by
  unfold cmpQ
  simp only [Rat.add_lt_add_right]
theorem divInt_one (z : Int) : Rat.divInt z 1 = (z : Rat) := (Rat.mk_eq_divInt (num := z) (den := 1) (nz := by decide) (c := Nat.coprime_one_right _)).symm
end Go.Proofs.YtepadjfmcbjkmaaGreatDoor

namespace Go.Proofs.YtepadjfmcbjkmaaGreatDoor
open Go Go.Proofs.YtepadjfmcbjkmaaGreatDoor.Gw
set_option linter.unusedVariables false

/- ### Intervals -/
structure Ri (i : Interval) (a b : Rat) : Prop where
  lo : Rp i.Lo a
  hi : Rp i.Hi b
theorem Ri.of {a b : Rat} {k l : Nat} (h : Bd a k) (h2 : Bd b l) (hk : k ≤ 1000) (hl : l ≤ 1000) : Ri ⟨ofQ a, ofQ b⟩ a b := ⟨Rp.of h hk, Rp.of h2 hl⟩
section
variable {i j : Interval} {a b c d : Rat} {x : Rational} {q : Rat}
instance : Decidable (a ≤ q ∧ q ≤ b) := inferInstance
theorem cmpQ_gt {p q : Rat} : cmpQ p q > 0 ↔ q < p := by
  have := cmpQ_le (p := p) (q := q)
  rw [← Rat.not_le, ← this]; omega
def no : Interval := ⟨⟨⟨false, []⟩, ⟨false, []⟩⟩, ⟨⟨false, []⟩, ⟨false, []⟩⟩⟩
end
end Go.Proofs.YtepadjfmcbjkmaaGreatDoor

namespace Go.Proofs.YtepadjfmcbjkmaaGreatDoor
open Go Go.Proofs.YtepadjfmcbjkmaaGreatDoor.Gw
set_option linter.unusedVariables false

/- ### The reference: order, quotient, floor -/
theorem num_neg_iff {z : Rat} : z < 0 ↔ z.num < 0 := by
  rw [Rat.lt_iff]
  show z.num * ((1 : Nat) : Int) < 0 * z.den ↔ _
  omega
theorem num_pos_iff {z : Rat} : 0 < z ↔ 0 < z.num := by
  rw [Rat.lt_iff]
  show (0 : Int) * z.den < z.num * ((1 : Nat) : Int) ↔ _
  omega
theorem sgnQ_cmp (z : Rat) : sgnQ z = cmpQ z 0 := by
  unfold sgnQ sgn cmpQ
  simp only [num_neg_iff, num_pos_iff]
theorem sgnQ_sub (p q : Rat) : sgnQ (p - q) = cmpQ p q := by
  have h := cmpQ_add (p - q) 0 q
  have e1 : p - q + q = p := by rw [Rat.sub_eq_add_neg, Rat.add_assoc, Rat.neg_add_cancel, Rat.add_zero]
  rw [e1, Rat.zero_add] at h
  rw [sgnQ_cmp, h]
section
variable {x y : Rational} {p q : Rat}
theorem refCmp_q (hx : Rp x p) (hy : Rp y q) : Evt (fun n => ref02_Cmp n x y) (cmpQ p q) := by
  apply Tot.of_eq
  dsimp only [ref02_Cmp]
  have bx := hx.sm.bd
  have by_ := hy.sm.bd
  rw [hx.eq] at bx
  rw [hy.eq] at by_
  have s := smr_of (bd_sub bx by_) (Nat.le_refl _)
  have h := refSignR_ok s (by omega)
  rw [toQ_ofQ, sgnQ_sub] at h
  exact Tot.bind (Tot.evt (refSub_q hx hy) (Tot.bind (Tot.evt h (Tot.ret rfl))))
theorem refFloor_q (hx : Rp x p) : Evt (fun n => ref02_Floor n x) (ofZ p.floor) := by
  apply Tot.of_eq
  dsimp only [ref02_Floor]
  have bx := hx.sm.bd
  rw [hx.eq] at bx
  obtain ⟨a1, a2⟩ := bd_pos bx
  have d := part_ok _ _ a1 a2 (by omega) (by rw [toZ_ofZ]; exact den_ne p)
  rw [toZ_ofZ, toZ_ofZ] at d
  refine Tot.bind (Tot.evt (refNorm_q hx) (Tot.bind (Tot.evt d (Tot.ret ?_))))
  rw [Rat.floor_def]
theorem refDiv_q (hx : Rp x p) (hy : Rp y q) : Evt (fun n => ref02_Div n x y) (if q = 0 then (⟨⟨false, []⟩, ⟨false, []⟩⟩, 10) else (ofQ (p * q⁻¹), 0)) := by
  apply Tot.of_eq
  dsimp only [ref02_Div]
  have bx := hx.sm.bd
  have by_ := hy.sm.bd
  rw [hx.eq] at bx
  rw [hy.eq] at by_
  obtain ⟨a1, a2⟩ := bd_pos bx
  obtain ⟨b1, b2⟩ := bd_pos by_
  have hs := refSignR_ok (smr_of by_ (Nat.le_refl _)) (by omega)
  rw [toQ_ofQ] at hs
  have m1 := refMul_ok a1 b2 (by omega)
  have m2 := refMul_ok a2 b1 (by omega)
  rw [toZ_ofZ, toZ_ofZ] at m1 m2
  have z1 : Sm (ofZ (p.num * q.den)) 2002 := sm_of (sm_mul bx.1 (by rw [den_abs]; exact by_.2)) (by omega)
  have z2 : Sm (ofZ ((p.den : Int) * q.num)) 2002 := sm_of (sm_mul (by rw [den_abs]; exact bx.2) by_.1) (by omega)
  have nw := refNew_ok _ _ z1 z2 (by omega)
  rw [toZ_ofZ, toZ_ofZ, ← Rat.divInt_mul_divInt, Rat.num_divInt_den, ← inv_num] at nw
  refine Tot.bind (Tot.evt (refNorm_q hx) (Tot.bind (Tot.evt (refNorm_q hy) (Tot.bind (Tot.evt hs (Tot.condE (fun h => Tot.ret ?_) (fun h => ?_)))))))
  · rw [if_pos (sgnQ_zero.1 h)]
  · rw [if_neg (fun e => h (sgnQ_zero.2 e))]
    exact Tot.bind (Tot.evt m1 (Tot.bind (Tot.evt m2 (Tot.bind (Tot.evt nw (Tot.ret rfl))))))
end
theorem zero_smr : SmR ⟨⟨false, []⟩, ⟨false, []⟩⟩ 1000 := ⟨⟨Wd.nil, by simp⟩, ⟨Wd.nil, by simp⟩⟩
end Go.Proofs.YtepadjfmcbjkmaaGreatDoor

namespace Go.Proofs.YtepadjfmcbjkmaaGreatDoor
open Go Go.Proofs.YtepadjfmcbjkmaaGreatDoor.Gw
set_option linter.unusedVariables false

/- ### The reference's intervals -/
section
variable {i j : Interval} {a b c d : Rat}
end
section
variable {i j : Interval} {a b c d : Rat}
end
end Go.Proofs.YtepadjfmcbjkmaaGreatDoor

namespace Go.Proofs.YtepadjfmcbjkmaaGreatDoor
open Go Go.Proofs.YtepadjfmcbjkmaaGreatDoor.Gw
set_option linter.unusedVariables false

/- ### The simplest number of an interval -/
theorem dv_num (a b : Int) : (Rat.divInt a b).num.natAbs ≤ a.natAbs := by
  rw [Rat.num_divInt]
  refine Nat.le_trans (Int.natAbs_ediv_le_natAbs _ _) ?_
  rw [Int.natAbs_mul]
  have h1 : b.sign.natAbs ≤ 1 := by
    rcases Int.lt_trichotomy b 0 with h | h | h
    · rw [Int.sign_eq_neg_one_of_neg h]; decide
    · rw [h]; decide
    · rw [Int.sign_eq_one_of_pos h]; decide
  have h2 := Nat.mul_le_mul_right a.natAbs h1
  rw [Nat.one_mul] at h2
  exact h2
theorem dv_den (a : Int) {b : Int} (hb : b ≠ 0) : (Rat.divInt a b).den ≤ b.natAbs := by
  rw [Rat.den_divInt, if_neg hb]
  exact Nat.div_le_self _ _
theorem inv_le {a b : Rat} (ha : 0 < a) (h : a ≤ b) : b⁻¹ ≤ a⁻¹ := by
  have hb : 0 < b := by
    rcases Rat.le_total (a := b) (b := 0) with h1 | h1
    · exact absurd ha (Rat.not_lt.2 (Rat.le_trans h h1))
    · exact Rat.not_le.1 fun h2 => absurd ha (Rat.not_lt.2 (Rat.le_trans h h2))
  have na : a ≠ 0 := Rat.ne_of_gt ha
  have nb : b ≠ 0 := Rat.ne_of_gt hb
  refine Rat.le_of_mul_le_mul_left (c := a * b) ?_ (Rat.mul_pos ha hb)
  rw [Rat.mul_assoc, Rat.mul_inv_cancel b nb, Rat.mul_one, Rat.mul_comm a b, Rat.mul_assoc, Rat.mul_inv_cancel a na, Rat.mul_one]
  exact h
theorem frac (q : Rat) (f : Int) : q - (f : Rat) = Rat.divInt (q.num - f * q.den) q.den := by
  have h := Rat.divInt_add_divInt q.num (-f) (den_ne q) (show (1 : Int) ≠ 0 by decide)
  rw [Rat.num_divInt_den, divInt_one] at h
  rw [Rat.sub_eq_add_neg, ← Rat.intCast_neg, h]
  congr 1
  · rw [Int.mul_one, Int.neg_mul]; omega
  · rw [Int.mul_one]
theorem frac_in {q : Rat} {f : Int} (h1 : (f : Rat) < q) (h2 : q < ((f + 1 : Int) : Rat)) : 0 < q.num - f * q.den ∧ q.num - f * q.den < q.den := by
  rw [Rat.lt_iff] at h1 h2
  have e1 : f * (q.den : Int) < q.num * ((1 : Nat) : Int) := h1
  have e2 : q.num * ((1 : Nat) : Int) < (f + 1) * (q.den : Int) := h2
  rw [Int.add_mul] at e2
  omega
theorem frac_inv (q : Rat) (f : Int) : (q - (f : Rat))⁻¹ = Rat.divInt q.den (q.num - f * q.den) := by rw [frac, Rat.inv_divInt]
theorem frac_pos {q : Rat} {f : Int} (h : (f : Rat) < q) : 0 < q - (f : Rat) := (Rat.lt_iff_sub_pos _ _).1 h
theorem sub_le_right {a b c : Rat} (h : a ≤ b) : a - c ≤ b - c := by rw [Rat.sub_eq_add_neg, Rat.sub_eq_add_neg]; exact Rat.add_le_add_right.2 h
theorem add_back (f : Int) (r : Rat) : (f : Rat) + r⁻¹ = Rat.divInt (f * r.num + r.den) r.num ∨ r = 0 := by
  by_cases h : r.num = 0
  · exact .inr (Rat.num_eq_zero.1 h)
  · refine .inl ?_
    have e := Rat.divInt_add_divInt f (r.den : Int) (show (1 : Int) ≠ 0 by decide) h
    rw [divInt_one, ← inv_num] at e
    rw [e]; congr 1 <;> omega
theorem num_mono {q r : Rat} (h : q ≤ r) : q.num * r.den ≤ r.num * q.den := (Rat.le_iff _ _).1 h
theorem lt_of_le_lt {a b c : Rat} (h : a ≤ b) (k : b < c) : a < c := Rat.not_le.1 fun e => absurd k (Rat.not_lt.2 (Rat.le_trans e h))
theorem lt_of_lt_le {a b c : Rat} (h : a < b) (k : b ≤ c) : a < c := Rat.not_le.1 fun e => absurd h (Rat.not_lt.2 (Rat.le_trans k e))
theorem bd_int {z : Int} {k : Nat} (h : z.natAbs < B32 ^ k) (hk : 0 < k) : Bd (z : Rat) k := ⟨h, one_lt_pow hk⟩
theorem wholeInt_ok {x : Int_2} {k : Nat} (hx : Sm x k) (hk : k ≤ 100000) : Evt (fun n => rational_whole n x) (ofQ ((toZ x : Int) : Rat)) := by
  have hl := hx.len
  apply Tot.of_eq
  dsimp only [rational_whole]
  exact Tot.bind (Tot.evt (Norm_ok x hx.wd (by omega)) (Tot.bind (Tot.evt (Of_ok 1 (by decide) (by decide)) (Tot.ret rfl))))
/-- What stands at every step: the value, the least denominator and numerator among all of the interval, and both functions return it. -/
structure Sim (a b r : Rat) : Prop where
  lo : a ≤ r
  hi : r ≤ b
  min : ∀ q, a ≤ q → q ≤ b → r.den ≤ q.den ∧ r.num ≤ q.num
  impl : ∀ x y, Rp x a → 0 < toZ x.Den → Rp y b → Evt (fun n => rational_simplest n x y) (ofQ r)
  ref : ∀ x y, Rp x a → Rp y b → Evt (fun n => ref02_simple n x y) (ofQ r)
theorem rone : Evt (fun n => ref02_Of n 1 1) (ofQ 1) ∧ Rp (ofQ 1) 1 := by
  have := rat_of (u := 1) (v := 1) (by unfold inK; decide) (by unfold inK; decide)
  exact ⟨this.2.1, Rp.of (k := 1) ⟨by decide, by decide⟩ (by omega)⟩
theorem sim_step (k : Nat) (hk : k ≤ 200) (hk1 : 2 ≤ k) : ∀ (m : Nat) (lo hi : Rat), lo.den + hi.den ≤ m → 0 ≤ lo → lo ≤ hi → Bd lo k → Bd hi k → ∃ r, Sim lo hi r := by
  intro m
  induction m with
  | zero => intro lo hi h; have := lo.den_pos; omega
  | succ m ih =>
    intro lo hi hm h0 hle bl bh
    obtain ⟨f, hf⟩ : ∃ f, lo.floor = f := ⟨_, rfl⟩
    have f0 : 0 ≤ f := by rw [← hf]; exact Rat.le_floor_iff.2 h0
    have fl : (f : Rat) ≤ lo := by rw [← hf]; exact Rat.floor_le lo
    have fu : lo < ((f + 1 : Int) : Rat) := by rw [← hf]; exact Rat.lt_floor_add_one lo
    have fb : f.natAbs < B32 ^ k := by rw [← hf, Rat.floor_def]; exact Nat.lt_of_le_of_lt (Int.natAbs_ediv_le_natAbs _ _) bl.1
    have sf : Sm (ofZ f) 1000 := sm_of fb (by omega)
    have bf : Bd (f : Rat) k := bd_int fb (by omega)
    have rf : Rp (ofQ (f : Rat)) f := Rp.of bf (by omega)
    have hB1 : 1 < B32 ^ k := one_lt_pow (by omega)
    have fb1 : (f + 1).natAbs < B32 ^ (k + 1) := by
      rw [Nat.pow_succ]
      have : 2 ≤ B32 := by decide
      have := Nat.mul_le_mul_left (B32 ^ k) this
      omega
    have bf1 : Bd ((f + 1 : Int) : Rat) (k + 1) := bd_int fb1 (by omega)
    have rf1 : Rp (ofQ ((f + 1 : Int) : Rat)) ((f + 1 : Int) : Rat) := Rp.of bf1 (by omega)
    have s1 : Sm (ofZ 1) 1000 := sm_of (z := 1) (k := 1) (by decide) (by omega)
    -- the steps of the two functions up to the first question
    have ifl : ∀ x, Rp x lo → Evt (fun n => rational_Floor n x) (ofZ f) := fun x hx => by have := floor_q hx; rwa [hf] at this
    have rfl' : ∀ x, Rp x lo → Evt (fun n => ref02_Floor n x) (ofZ f) := fun x hx => by have := refFloor_q hx; rwa [hf] at this
    have imul : ∀ x, Rp x lo → Evt (fun n => integer_Mul n (ofZ f) x.Den) (ofZ (f * toZ x.Den)) := fun x hx => by
      have := Mul_ok sf hx.sm.den (by omega); rwa [toZ_ofZ] at this
    have icmp : ∀ x, Rp x lo → Evt (fun n => integer_Cmp n x.Num (ofZ (f * toZ x.Den))) (cmpZ (toZ x.Num) (f * toZ x.Den)) := fun x hx => by
      have hz : Sm (ofZ (f * toZ x.Den)) (1000 + 1000) := by
        have h1 := sf.lt
        rw [toZ_ofZ] at h1
        exact sm_of (sm_mul h1 hx.sm.den.lt) (Nat.le_refl _)
      have := Cmp_ok (hx.sm.num.mono (show 1000 ≤ 1000 + 1000 by omega)) hz (by omega)
      rwa [toZ_ofZ] at this
    have cz : ∀ {u v : Int}, cmpZ u v = 0 ↔ u = v := fun {u v} => by unfold cmpZ; split <;> (try split) <;> omega
    have iq : ∀ x, Rp x lo → 0 < toZ x.Den → (cmpZ (toZ x.Num) (f * toZ x.Den) = 0 ↔ lo = (f : Rat)) := fun x hx hd => by
      rw [cz]
      have e := hx.eq
      unfold toQ at e
      rw [← e, ← divInt_one f, Rat.divInt_eq_divInt_iff (by omega) (by decide), Int.mul_one]
    have rnew : Evt (fun n => ref02_New n (ofZ f) (ofZ 1)) (ofQ (f : Rat)) := by
      have := refNew_ok _ _ sf s1 (by omega)
      rwa [toZ_ofZ, toZ_ofZ, divInt_one] at this
    have iwh : Evt (fun n => rational_whole n (ofZ f)) (ofQ (f : Rat)) := by
      have := wholeInt_ok sf (by omega); rwa [toZ_ofZ] at this
    have iadd : Evt (fun n => integer_Add n (ofZ f) (ofZ 1)) (ofZ (f + 1)) := by
      have := Add_ok _ _ sf s1 (by omega); rwa [toZ_ofZ, toZ_ofZ] at this
    have iwh1 : Evt (fun n => rational_whole n (ofZ (f + 1))) (ofQ ((f + 1 : Int) : Rat)) := by
      have := wholeInt_ok (sm_of (l := 1000) fb1 (by omega)) (by omega); rwa [toZ_ofZ] at this
    have e1 : (f : Rat) + 1 = ((f + 1 : Int) : Rat) := by rw [Rat.intCast_add]; rfl
    have radd : Evt (fun n => ref02_Add n (ofQ (f : Rat)) (ofQ 1)) (ofQ ((f + 1 : Int) : Rat)) := by
      have := refAdd_q rf rone.2; rwa [e1] at this
    by_cases hq : lo = (f : Rat)
    · refine ⟨(f : Rat), hq ▸ Rat.le_refl, hq ▸ hle, fun q h1 h2 => ⟨q.den_pos, ?_⟩, fun x y hx hd hy => ?_, fun x y hx hy => ?_⟩
      · have := num_mono (hq ▸ h1 : (f : Rat) ≤ q)
        have e : f * (q.den : Int) ≤ q.num * ((1 : Nat) : Int) := this
        have hp := q.den_pos
        have : f * 1 ≤ f * (q.den : Int) := Int.mul_le_mul_of_nonneg_left (by omega) f0
        show f ≤ q.num
        omega
      · refine Evt.succ ?_
        apply Tot.of_eq
        dsimp only [rational_simplest, rational_simplest_F]
        refine Tot.bind (Tot.evt (ifl x hx) (Tot.bind (Tot.evt (imul x hx) (Tot.bind (Tot.evt (icmp x hx) (Tot.condE (fun _ => ?_) (fun h => absurd ((iq x hx hd).2 hq) h)))))))
        exact Tot.bind (Tot.evt iwh (Tot.ret rfl))
      · refine Evt.succ ?_
        apply Tot.of_eq
        dsimp only [ref02_simple, ref02_simple_F]
        refine Tot.bind (Tot.evt (rfl' x hx) (Tot.bind (Tot.evt refOne_ok (Tot.bind (Tot.evt rnew (Tot.bind (Tot.evt (refCmp_q rf hx) (Tot.condE (fun _ => Tot.ret rfl) (fun h => absurd (cmpQ_zero.2 hq.symm) h)))))))))
    · have flt : (f : Rat) < lo := Rat.not_le.1 fun e => hq (Rat.le_antisymm e fl)
      by_cases hh : ((f + 1 : Int) : Rat) ≤ hi
      · refine ⟨((f + 1 : Int) : Rat), Rat.le_of_lt fu, hh, fun q h1 h2 => ⟨q.den_pos, ?_⟩, fun x y hx hd hy => ?_, fun x y hx hy => ?_⟩
        · have h3 := (Rat.lt_iff _ _).1 (lt_of_lt_le flt h1)
          have e : f * (q.den : Int) < q.num * ((1 : Nat) : Int) := h3
          have hp := q.den_pos
          have : f * 1 ≤ f * (q.den : Int) := Int.mul_le_mul_of_nonneg_left (by omega) f0
          show f + 1 ≤ q.num
          omega
        · refine Evt.succ ?_
          apply Tot.of_eq
          dsimp only [rational_simplest, rational_simplest_F]
          refine Tot.bind (Tot.evt (ifl x hx) (Tot.bind (Tot.evt (imul x hx) (Tot.bind (Tot.evt (icmp x hx) (Tot.condE (fun h => absurd ((iq x hx hd).1 h) hq) (fun _ => ?_)))))))
          refine Tot.bind (Tot.bind (Tot.evt (Of_ok 1 (by decide) (by decide)) (Tot.bind (Tot.evt iadd (Tot.bind (Tot.evt iwh1 (Tot.ret ?_)))))))
          exact Tot.bind (Tot.evt (cmp_q rf1 hy) (Tot.condD (fun _ => Tot.ret rfl) (fun h => absurd (cmpQ_le.2 hh) h)))
        · refine Evt.succ ?_
          apply Tot.of_eq
          dsimp only [ref02_simple, ref02_simple_F]
          refine Tot.bind (Tot.evt (rfl' x hx) (Tot.bind (Tot.evt refOne_ok (Tot.bind (Tot.evt rnew (Tot.bind (Tot.evt (refCmp_q rf hx) (Tot.condE (fun h => absurd (cmpQ_zero.1 h).symm hq) (fun _ => ?_)))))))))
          refine Tot.bind (Tot.bind (Tot.evt rone.1 (Tot.bind (Tot.evt radd (Tot.ret ?_)))))
          exact Tot.bind (Tot.evt (refCmp_q rf1 hy) (Tot.condD (fun _ => Tot.ret rfl) (fun h => absurd (cmpQ_le.2 hh) h)))
      · have hhi : hi < ((f + 1 : Int) : Rat) := Rat.not_le.1 hh
        have fhi : (f : Rat) < hi := lt_of_lt_le flt hle
        -- inside the interval
        have fin : ∀ q, lo ≤ q → q ≤ hi → 0 < q.num - f * q.den ∧ q.num - f * q.den < q.den := fun q h1 h2 => frac_in (lt_of_lt_le flt h1) (lt_of_le_lt h2 hhi)
        have bin : ∀ q, Bd q k → lo ≤ q → q ≤ hi → Bd (q - (f : Rat)) k ∧ Bd (q - (f : Rat))⁻¹ k ∧ (q - (f : Rat))⁻¹.den < q.den ∧ 0 < (q - (f : Rat)).num := fun q bq h1 h2 => by
          obtain ⟨t1, t2⟩ := fin q h1 h2
          have hd := bq.2
          have a1 := dv_num (q.num - f * q.den) q.den
          have a2 := dv_den (q.num - f * q.den) (den_ne q)
          have a3 := dv_num q.den (q.num - f * q.den)
          have a4 := dv_den q.den (show q.num - f * q.den ≠ 0 by omega)
          rw [← frac] at a1 a2
          rw [← frac_inv] at a3 a4
          have hp := num_pos_iff.1 (frac_pos (lt_of_lt_le flt h1))
          exact ⟨⟨by omega, by omega⟩, ⟨by omega, by omega⟩, by omega, hp⟩
        obtain ⟨c1, c2, c3, c4⟩ := bin lo bl Rat.le_refl hle
        obtain ⟨d1, d2, d3, d4⟩ := bin hi bh hle Rat.le_refl
        have plo := frac_pos flt
        have phi := frac_pos fhi
        have hle' : (hi - (f : Rat))⁻¹ ≤ (lo - (f : Rat))⁻¹ := inv_le plo (sub_le_right hle)
        have p0 : 0 < (hi - (f : Rat))⁻¹ := Rat.inv_pos.2 phi
        obtain ⟨r, hr⟩ := ih ((hi - (f : Rat))⁻¹) ((lo - (f : Rat))⁻¹) (by omega) (Rat.le_of_lt p0) hle' d2 c2
        have pr : 0 < r := lt_of_lt_le p0 hr.lo
        have pn := num_pos_iff.1 pr
        have br : Bd r k := by
          obtain ⟨m1, m2⟩ := hr.min _ Rat.le_refl hle'
          have := d2.1
          have := d2.2
          exact ⟨by omega, by omega⟩
        have nz : r ≠ 0 := Rat.ne_of_gt pr
        have back := (add_back f r).resolve_right nz
        have l1 : lo ≤ (f : Rat) + r⁻¹ := by
          have h1 := inv_le pr hr.hi
          rw [Rat.inv_inv] at h1
          have h2 := Rat.add_le_add_right (c := (f : Rat)).2 h1
          rwa [Rat.sub_add_cancel, Rat.add_comm] at h2
        have l2 : (f : Rat) + r⁻¹ ≤ hi := by
          have h1 := inv_le p0 hr.lo
          rw [Rat.inv_inv] at h1
          have h2 := Rat.add_le_add_right (c := (f : Rat)).2 h1
          rwa [Rat.sub_add_cancel, Rat.add_comm] at h2
        have ihx : Rp ⟨ofZ ((hi - (f : Rat)).den : Int), ofZ (hi - (f : Rat)).num⟩ (hi - (f : Rat))⁻¹ := ⟨⟨(bd_pos d1).2.mono (by omega), (bd_pos d1).1.mono (by omega)⟩, by unfold toQ; rw [toZ_ofZ, toZ_ofZ, inv_num]⟩
        have ilx : Rp ⟨ofZ ((lo - (f : Rat)).den : Int), ofZ (lo - (f : Rat)).num⟩ (lo - (f : Rat))⁻¹ := ⟨⟨(bd_pos c1).2.mono (by omega), (bd_pos c1).1.mono (by omega)⟩, by unfold toQ; rw [toZ_ofZ, toZ_ofZ, inv_num]⟩
        have irx : Rp ⟨ofZ (r.den : Int), ofZ r.num⟩ r⁻¹ := ⟨⟨(bd_pos br).2.mono (by omega), (bd_pos br).1.mono (by omega)⟩, by unfold toQ; rw [toZ_ofZ, toZ_ofZ, inv_num]⟩
        have nlo : lo - (f : Rat) ≠ 0 := Rat.ne_of_gt plo
        have nhi : hi - (f : Rat) ≠ 0 := Rat.ne_of_gt phi
        refine ⟨(f : Rat) + r⁻¹, l1, l2, fun q h1 h2 => ?_, fun x y hx hd hy => ?_, fun x y hx hy => ?_⟩
        · obtain ⟨t1, t2⟩ := fin q h1 h2
          have g1 : (hi - (f : Rat))⁻¹ ≤ (q - (f : Rat))⁻¹ := inv_le (frac_pos (lt_of_lt_le flt h1)) (sub_le_right h2)
          have g2 : (q - (f : Rat))⁻¹ ≤ (lo - (f : Rat))⁻¹ := inv_le plo (sub_le_right h1)
          obtain ⟨m1, m2⟩ := hr.min _ g1 g2
          have a3 := dv_num q.den (q.num - f * q.den)
          have a4 := dv_den q.den (show q.num - f * q.den ≠ 0 by omega)
          rw [← frac_inv] at a3 a4
          have b3 := dv_num (f * r.num + r.den) r.num
          have b4 := dv_den (f * r.num + r.den) (show r.num ≠ 0 by omega)
          rw [← back] at b3 b4
          have hmul : f * r.num ≤ f * (q.den : Int) := Int.mul_le_mul_of_nonneg_left (by omega) f0
          have hnn : 0 ≤ f * r.num := Int.mul_nonneg f0 (by omega)
          exact ⟨by omega, by omega⟩
        · refine Evt.succ ?_
          apply Tot.of_eq
          dsimp only [rational_simplest, rational_simplest_F]
          refine Tot.bind (Tot.evt (ifl x hx) (Tot.bind (Tot.evt (imul x hx) (Tot.bind (Tot.evt (icmp x hx) (Tot.condE (fun h => absurd ((iq x hx hd).1 h) hq) (fun _ => ?_)))))))
          refine Tot.bind (Tot.bind (Tot.evt (Of_ok 1 (by decide) (by decide)) (Tot.bind (Tot.evt iadd (Tot.bind (Tot.evt iwh1 (Tot.ret ?_)))))))
          refine Tot.bind (Tot.evt (cmp_q rf1 hy) (Tot.condD (fun h => absurd (cmpQ_le.1 h) hh) (fun _ => ?_)))
          refine Tot.bind (Tot.evt iwh (Tot.bind (Tot.evt (sub_q hy rf) (Tot.cut ⟨ofZ ((hi - (f : Rat)).den : Int), ofZ (hi - (f : Rat)).num⟩ (Tot.ret rfl) ?_))))
          refine Tot.bind (Tot.evt (sub_q hx rf) (Tot.cut ⟨ofZ ((lo - (f : Rat)).den : Int), ofZ (lo - (f : Rat)).num⟩ (Tot.ret rfl) ?_))
          refine Tot.bind (Tot.evt (hr.impl _ _ ihx (by rw [toZ_ofZ]; exact d4) ilx) (Tot.cut ⟨ofZ (r.den : Int), ofZ r.num⟩ (Tot.ret rfl) ?_))
          exact Tot.bind (Tot.evt (add_q rf irx) (Tot.ret rfl))
        · refine Evt.succ ?_
          apply Tot.of_eq
          dsimp only [ref02_simple, ref02_simple_F]
          refine Tot.bind (Tot.evt (rfl' x hx) (Tot.bind (Tot.evt refOne_ok (Tot.bind (Tot.evt rnew (Tot.bind (Tot.evt (refCmp_q rf hx) (Tot.condE (fun h => absurd (cmpQ_zero.1 h).symm hq) (fun _ => ?_)))))))))
          refine Tot.bind (Tot.bind (Tot.evt rone.1 (Tot.bind (Tot.evt radd (Tot.ret ?_)))))
          refine Tot.bind (Tot.evt (refCmp_q rf1 hy) (Tot.condD (fun h => absurd (cmpQ_le.1 h) hh) (fun _ => ?_)))
          have dv : ∀ {t : Rat}, t ≠ 0 → Bd t k → Evt (fun n => ref02_Div n (ofQ 1) (ofQ t)) (ofQ t⁻¹, 0) := fun {t} ht bt => by
            have := refDiv_q rone.2 (Rp.of bt (by omega))
            rwa [if_neg ht, Rat.one_mul] at this
          refine Tot.bind (Tot.bind (Tot.evt rone.1 (Tot.bind (Tot.evt (refSub_q hy rf) (Tot.bind (Tot.evt (dv nhi d1) (Tot.ret ?_)))))))
          refine Tot.bind (Tot.bind (Tot.evt rone.1 (Tot.bind (Tot.evt (refSub_q hx rf) (Tot.bind (Tot.evt (dv nlo c1) (Tot.ret ?_)))))))
          refine Tot.bind (Tot.bind (Tot.evt rone.1 (Tot.bind (Tot.evt (hr.ref _ _ (Rp.of d2 (by omega)) (Rp.of c2 (by omega))) (Tot.bind (Tot.evt (dv nz br) (Tot.ret ?_)))))))
          exact Tot.bind (Tot.evt (refAdd_q rf (Rp.of (bd_inv br) (by omega))) (Tot.ret rfl))
end Go.Proofs.YtepadjfmcbjkmaaGreatDoor

namespace Go.Proofs.YtepadjfmcbjkmaaGreatDoor
open Go Go.Proofs.YtepadjfmcbjkmaaGreatDoor.Gw
set_option linter.unusedVariables false

/- ### Simplest -/
theorem sgn_le {q : Rat} : sgnQ q ≤ 0 ↔ q ≤ 0 := by rw [sgnQ_cmp, cmpQ_le]
theorem sgn_lt {q : Rat} : sgnQ q < 0 ↔ q < 0 := by rw [sgnQ_cmp, cmpQ_lt]
theorem sgn_ge {q : Rat} : sgnQ q ≥ 0 ↔ 0 ≤ q := by
  have h := sgn_lt (q := q)
  constructor
  · intro h1; exact Rat.not_lt.1 fun h2 => by have := h.2 h2; omega
  · intro h1; have : ¬ sgnQ q < 0 := fun h2 => absurd (h.1 h2) (Rat.not_lt.2 h1); omega
theorem neg_le {a b : Rat} (h : a ≤ b) : -b ≤ -a := Rat.neg_le_neg h
theorem Sim.bd {a b r : Rat} {k : Nat} (h : Sim a b r) (h0 : 0 ≤ a) (hab : a ≤ b) (ha : Bd a k) : Bd r k := by
  obtain ⟨m1, m2⟩ := h.min a Rat.le_refl hab
  have hn := Rat.num_nonneg.2 (Rat.le_trans h0 h.lo)
  have := ha.1
  have := ha.2
  exact ⟨by omega, by omega⟩
theorem rat_zero : Evt (fun n => rational_Of n 0 1) (ofQ 0) ∧ Evt (fun n => ref02_Of n 0 1) (ofQ 0) := by
  have := rat_of (u := 0) (v := 1) (by unfold inK; decide) (by unfold inK; decide)
  rw [Rat.zero_divInt] at this
  exact ⟨this.1, this.2.1⟩
theorem simplest_q {x y : Rational} {a b : Rat} (hx : Rp x a) (hy : Rp y b) (ba : Bd a 61) (bb : Bd b 61) :
    (b < a ∧ Evt (fun n => rational_Simplest n x y) (⟨⟨false, []⟩, ⟨false, []⟩⟩, 2) ∧ Evt (fun n => ref02_Simplest n x y) (⟨⟨false, []⟩, ⟨false, []⟩⟩, 2)) ∨
    ∃ r, a ≤ r ∧ r ≤ b ∧ (∀ q, a ≤ q → q ≤ b → r.den ≤ q.den) ∧ Bd r 61 ∧ Evt (fun n => rational_Simplest n x y) (ofQ r, 0) ∧ Evt (fun n => ref02_Simplest n x y) (ofQ r, 0) := by
  have na := norm_q hx
  have nb := norm_q hy
  have ma := refNorm_q hx
  have mb := refNorm_q hy
  have rA : Rp (ofQ a) a := Rp.of ba (by omega)
  have rB : Rp (ofQ b) b := Rp.of bb (by omega)
  by_cases hab : b < a
  · refine .inl ⟨hab, ?_, ?_⟩
    · apply Tot.of_eq
      dsimp only [rational_Simplest]
      exact Tot.bind (Tot.evt na (Tot.bind (Tot.evt nb (Tot.bind (Tot.evt (cmp_q rA rB) (Tot.condD (fun _ => Tot.ret rfl) (fun h => absurd (cmpQ_gt.2 hab) h)))))))
    · apply Tot.of_eq
      dsimp only [ref02_Simplest]
      exact Tot.bind (Tot.evt (refCmp_q hx hy) (Tot.condD (fun _ => Tot.ret rfl) (fun h => absurd (cmpQ_gt.2 hab) h)))
  · have hle : a ≤ b := Rat.not_lt.1 hab
    refine .inr ?_
    -- up to the question on the sign
    have step1 : ∀ {Q : Rational × Int → Prop}, Tot (fun n => ((rational_Sign n (ofQ a)).bind fun x => cond (decide (x ≤ 0)) ((rational_Sign n (ofQ b)).bind fun x => some (decide (x ≥ 0))) (some false)).bind fun x => cond x
        ((rational_Of n 0 1).bind fun x => some (x, (0 : Int)))
        ((rational_Sign n (ofQ b)).bind fun x => cond (decide (x < 0))
          ((rational_Neg n (ofQ b)).bind fun u => (rational_Neg n (ofQ a)).bind fun v => (rational_simplest n u v).bind fun w => (rational_Neg n w).bind fun z => some (z, 0))
          ((rational_simplest n (ofQ a) (ofQ b)).bind fun w => some (w, 0)))) Q → Tot (fun n => rational_Simplest n x y) Q := fun {Q} h => by
      dsimp only [rational_Simplest]
      exact Tot.bind (Tot.evt na (Tot.bind (Tot.evt nb (Tot.bind (Tot.evt (cmp_q rA rB) (Tot.condD (fun h => absurd (cmpQ_gt.1 h) hab) (fun _ => h)))))))
    have step2 : ∀ {Q : Rational × Int → Prop}, Tot (fun n => ((ref02_Sign n x).bind fun x => cond (decide (x ≤ 0)) ((ref02_Sign n y).bind fun x => some (decide (x ≥ 0))) (some false)).bind fun z => cond z
        ((ref02_Of n 0 1).bind fun x => some (x, (0 : Int)))
        ((ref02_Sign n y).bind fun z => cond (decide (z < 0))
          ((ref02_Neg n y).bind fun u => (ref02_Neg n x).bind fun v => (ref02_simple n u v).bind fun w => (ref02_Neg n w).bind fun z => some (z, 0))
          ((ref02_Norm n x).bind fun u => (ref02_Norm n y).bind fun v => (ref02_simple n u v).bind fun w => some (w, 0)))) Q → Tot (fun n => ref02_Simplest n x y) Q := fun {Q} h => by
      dsimp only [ref02_Simplest]
      exact Tot.bind (Tot.evt (refCmp_q hx hy) (Tot.condD (fun h => absurd (cmpQ_gt.1 h) hab) (fun _ => h)))
    by_cases hz : a ≤ 0 ∧ 0 ≤ b
    · refine ⟨0, hz.1, hz.2, fun q _ _ => q.den_pos, ⟨by decide, by decide⟩, ?_, ?_⟩
      · apply Tot.of_eq
        refine step1 ?_
        refine Tot.cut true (Tot.bind (Tot.evt (sign_q rA) (Tot.condD (fun _ => Tot.bind (Tot.evt (sign_q rB) (Tot.ret ?_))) (fun h => absurd (sgn_le.2 hz.1) h)))) ?_
        · rw [decide_eq_true_eq]; exact sgn_ge.2 hz.2
        · exact Tot.bind (Tot.evt rat_zero.1 (Tot.ret rfl))
      · apply Tot.of_eq
        refine step2 ?_
        refine Tot.cut true (Tot.bind (Tot.evt (refSign_q hx) (Tot.condD (fun _ => Tot.bind (Tot.evt (refSign_q hy) (Tot.ret ?_))) (fun h => absurd (sgn_le.2 hz.1) h)))) ?_
        · rw [decide_eq_true_eq]; exact sgn_ge.2 hz.2
        · exact Tot.bind (Tot.evt rat_zero.2 (Tot.ret rfl))
    · have g1 : ∀ {Q : Rational × Int → Prop}, Tot (fun n => (rational_Sign n (ofQ b)).bind fun x => cond (decide (x < 0))
          ((rational_Neg n (ofQ b)).bind fun u => (rational_Neg n (ofQ a)).bind fun v => (rational_simplest n u v).bind fun w => (rational_Neg n w).bind fun z => some (z, 0))
          ((rational_simplest n (ofQ a) (ofQ b)).bind fun w => some (w, 0))) Q → Tot (fun n => rational_Simplest n x y) Q := fun {Q} k => step1 (by
        refine Tot.cut false (Tot.bind (Tot.evt (sign_q rA) (Tot.condD (fun h => Tot.bind (Tot.evt (sign_q rB) (Tot.ret ?_))) (fun h => Tot.ret rfl)))) k
        rw [decide_eq_false_iff_not]; exact fun h2 => hz ⟨sgn_le.1 h, sgn_ge.1 h2⟩)
      have g2 : ∀ {Q : Rational × Int → Prop}, Tot (fun n => (ref02_Sign n y).bind fun z => cond (decide (z < 0))
          ((ref02_Neg n y).bind fun u => (ref02_Neg n x).bind fun v => (ref02_simple n u v).bind fun w => (ref02_Neg n w).bind fun z => some (z, 0))
          ((ref02_Norm n x).bind fun u => (ref02_Norm n y).bind fun v => (ref02_simple n u v).bind fun w => some (w, 0))) Q → Tot (fun n => ref02_Simplest n x y) Q := fun {Q} k => step2 (by
        refine Tot.cut false (Tot.bind (Tot.evt (refSign_q hx) (Tot.condD (fun h => Tot.bind (Tot.evt (refSign_q hy) (Tot.ret ?_))) (fun h => Tot.ret rfl)))) k
        rw [decide_eq_false_iff_not]; exact fun h2 => hz ⟨sgn_le.1 h, sgn_ge.1 h2⟩)
      by_cases hb : b < 0
      · have h0 : 0 ≤ -b := by have := neg_le (Rat.le_of_lt hb); rwa [Rat.neg_zero] at this
        have hle' := neg_le hle
        obtain ⟨r, hr⟩ := sim_step 61 (by omega) (by omega) _ (-b) (-a) (Nat.le_refl _) h0 hle' (bd_neg bb) (bd_neg ba)
        have br := hr.bd h0 hle' (bd_neg bb)
        refine ⟨-r, ?_, ?_, fun q h1 h2 => ?_, bd_neg br, ?_, ?_⟩
        · have := neg_le hr.hi; rwa [Rat.neg_neg] at this
        · have := neg_le hr.lo; rwa [Rat.neg_neg] at this
        · have := (hr.min (-q) (neg_le h2) (neg_le h1)).1
          rwa [Rat.neg_den] at this ⊢
        · apply Tot.of_eq
          refine g1 (Tot.bind (Tot.evt (sign_q rB) (Tot.condD (fun _ => ?_) (fun h => absurd (sgn_lt.2 hb) h))))
          refine Tot.bind (Tot.evt (neg_q rB) (Tot.bind (Tot.evt (neg_q rA) (Tot.bind (Tot.evt (hr.impl _ _ (Rp.of (bd_neg bb) (by omega)) ?_ (Rp.of (bd_neg ba) (by omega))) ?_)))))
          · show 0 < toZ (ofZ ((-b).den : Int))
            rw [toZ_ofZ]; have := (-b).den_pos; omega
          · exact Tot.bind (Tot.evt (neg_q (Rp.of br (by omega))) (Tot.ret rfl))
        · apply Tot.of_eq
          refine g2 (Tot.bind (Tot.evt (refSign_q hy) (Tot.condD (fun _ => ?_) (fun h => absurd (sgn_lt.2 hb) h))))
          refine Tot.bind (Tot.evt (refNeg_q hy) (Tot.bind (Tot.evt (refNeg_q hx) (Tot.bind (Tot.evt (hr.ref _ _ (Rp.of (bd_neg bb) (by omega)) (Rp.of (bd_neg ba) (by omega))) ?_)))))
          exact Tot.bind (Tot.evt (refNeg_q (Rp.of br (by omega))) (Tot.ret rfl))
      · have hb0 : 0 ≤ b := Rat.not_lt.1 hb
        have h0 : 0 ≤ a := Rat.le_of_lt (Rat.not_le.1 fun h => hz ⟨h, hb0⟩)
        obtain ⟨r, hr⟩ := sim_step 61 (by omega) (by omega) _ a b (Nat.le_refl _) h0 hle ba bb
        refine ⟨r, hr.lo, hr.hi, fun q h1 h2 => (hr.min q h1 h2).1, hr.bd h0 hle ba, ?_, ?_⟩
        · apply Tot.of_eq
          refine g1 (Tot.bind (Tot.evt (sign_q rB) (Tot.condD (fun h => absurd (sgn_lt.1 h) hb) (fun _ => ?_))))
          refine Tot.bind (Tot.evt (hr.impl _ _ rA ?_ rB) (Tot.ret rfl))
          show 0 < toZ (ofZ (a.den : Int))
          rw [toZ_ofZ]; have := a.den_pos; omega
        · apply Tot.of_eq
          refine g2 (Tot.bind (Tot.evt (refSign_q hy) (Tot.condD (fun h => absurd (sgn_lt.1 h) hb) (fun _ => ?_))))
          exact Tot.bind (Tot.evt ma (Tot.bind (Tot.evt mb (Tot.bind (Tot.evt (hr.ref _ _ rA rB) (Tot.ret rfl))))))
/-- (P2.8). -/
theorem law_RationalSimplest (a : Rational) (ha : okRational a) (b : Rational) (hb : okRational b) (c : Int) (hc : inK .u8 c) : Evt (fun n => law02_RationalSimplest n a b c) true := by
  have hc' : 0 ≤ c ∧ c ≤ 255 := hc
  apply Tot.of_eq
  dsimp only [law02_RationalSimplest]
  refine Tot.bind (Tot.bind (Tot.evt awake_ok (Tot.cond (fun h => by cases h) fun _ => ?_)))
  refine Tot.bind (Tot.mono (few_ok [a, b] (fun z hz => by
    simp only [List.mem_cons, List.not_mem_nil, or_false] at hz
    rcases hz with rfl | rfl
    · exact ha
    · exact hb) (by simp)) fun r hr => Tot.ret (Tot.cond (fun _ => asleep) fun h => ?_))
  have hr := hr (by simpa using h)
  obtain ⟨ra, ba⟩ := Rp.in60 (hr a (by simp))
  obtain ⟨rb, bb⟩ := Rp.in60 (hr b (by simp))
  obtain ⟨A, hA⟩ : ∃ X, toQ a = X := ⟨_, rfl⟩
  obtain ⟨B, hB⟩ : ∃ X, toQ b = X := ⟨_, rfl⟩
  rw [hA] at ra ba
  rw [hB] at rb bb
  obtain ⟨K, hK, K1, K2⟩ : ∃ K : Nat, IntKind.i64.wrap (1 + (IntKind.i64.wrap c).tmod 40) = (K : Int) ∧ 1 ≤ K ∧ K ≤ 40 := by
    refine ⟨1 + c.toNat % 40, ?_, by omega, by omega⟩
    rw [w64 (x := c) (by omega) (by omega)]
    obtain ⟨d, rfl⟩ : ∃ d : Nat, c = (d : Int) := ⟨c.toNat, by omega⟩
    rw [show ((d : Int)).tmod 40 = ((d % 40 : Nat) : Int) from (Int.ofNat_tmod d 40).symm, w64 (by omega) (by omega)]
    omega
  rw [hK]
  rcases simplest_q ra rb ba bb with ⟨hlt, e1, e2⟩ | ⟨r, h1, h2, hmin, br, e1, e2⟩
  · refine Tot.bind (Tot.evt e1 (Tot.bind (Tot.evt e2 ?_)))
    refine Tot.cut false ?_ (Tot.cond (fun h => by cases h) fun _ => ?_)
    · exact Tot.condN (fun h => absurd rfl h) (fun _ => Tot.bind (Tot.evt (baseR_refl _ zero_smr (by omega)) (Tot.ret rfl)))
    · exact Tot.condN (fun _ => Tot.ret rfl) (fun h => absurd h (by decide))
  · refine Tot.bind (Tot.evt e1 (Tot.bind (Tot.evt e2 ?_)))
    refine Tot.cut false ?_ (Tot.cond (fun h => by cases h) fun _ => ?_)
    · exact Tot.condN (fun h => absurd rfl h) (fun _ => Tot.bind (Tot.evt (same_q rfl br (by omega)) (Tot.ret rfl)))
    refine Tot.condN (fun h => absurd rfl h) (fun _ => ?_)
    have oneW : Sm (⟨false, [1]⟩ : Int_2) 1000 := ⟨fun x hx => by rw [List.mem_singleton] at hx; subst hx; omega, by simp⟩
    have e10 : toZ (⟨false, [1]⟩ : Int_2) = 1 := rfl
    have nw : ∀ {z : Int} {k : Nat}, z.natAbs < B32 ^ k → k ≤ 1000 → Evt (fun n => rational_New n (ofZ z) ⟨false, [1]⟩) (ofQ (z : Rat)) := fun {z k} hz hk => by
      have := New_ok _ _ (sm_of hz hk) oneW (by omega)
      rwa [toZ_ofZ, e10, divInt_one] at this
    have hKin : inK .i64 (K : Int) := by
      unfold inK
      have m1 : (IntKind.i64).min = -9223372036854775808 := by decide
      have m2 : (IntKind.i64).max = 9223372036854775807 := by decide
      rw [m1, m2]; omega
    obtain ⟨o1, _, bK⟩ := rat_of hKin (v := 1) (by unfold inK; decide)
    rw [divInt_one] at o1 bK
    have rK : Rp (ofQ ((K : Int) : Rat)) ((K : Int) : Rat) := Rp.of bK (by omega)
    have bD : Bd ((r.den : Int) : Rat) 61 := bd_int (by rw [den_abs]; exact br.2) (by omega)
    refine Tot.bind (Tot.evt (nw (z := (r.den : Int)) (by rw [den_abs]; exact br.2) (by omega)) (Tot.bind (Tot.evt o1 (Tot.bind (Tot.evt (cmp_q (Rp.of bD (by omega)) rK) (Tot.condD (fun _ => Tot.ret rfl) (fun hgt => ?_)))))))
    have hdK : K < r.den := by
      have := mt cmpQ_le.2 hgt
      rw [Rat.intCast_le_intCast] at this
      omega
    have bM := bd_mul bb bK
    obtain ⟨v, hv⟩ : ∃ v, (B * ((K : Int) : Rat)).floor = v := ⟨_, rfl⟩
    have vb : v.natAbs < B32 ^ (61 + 2 + 1) := by rw [← hv, Rat.floor_def]; exact Nat.lt_of_le_of_lt (Int.natAbs_ediv_le_natAbs _ _) bM.1
    have fl := floor_q (Rp.of bM (by omega))
    rw [hv] at fl
    have bv : Bd (v : Rat) 64 := bd_int vb (by omega)
    have rv : Rp (ofQ (v : Rat)) v := Rp.of bv (by omega)
    refine Tot.bind (Tot.bind (Tot.evt o1 (Tot.bind (Tot.evt (mul_q rb rK) (Tot.bind (Tot.evt fl (Tot.bind (Tot.evt (nw vb (by omega)) (Tot.ret ?_)))))))))
    have K0 : ((K : Int) : Rat) ≠ 0 := fun e => by
      have := congrArg Rat.num e
      rw [Rat.num_intCast] at this
      have e0 : (0 : Rat).num = 0 := rfl
      omega
    have dv := div_q rv rK bK (by omega)
    rw [if_neg K0] at dv
    refine Tot.bind (Tot.bind (Tot.evt o1 (Tot.bind (Tot.evt dv (Tot.ret ?_)))))
    refine Tot.cut true (Tot.condE (fun _ => ?_) (fun h => absurd rfl h)) (Tot.ret rfl)
    have bc := bd_mul bv (bd_inv bK)
    refine Tot.bind (Tot.evt (cmp_q (Rp.of bc (by omega)) ra) (Tot.ret ?_))
    rw [decide_eq_true_eq, cmpQ_lt]
    refine Rat.not_le.1 fun hlo => ?_
    have Kp : 0 < ((K : Int) : Rat) := by
      rw [num_pos_iff, Rat.num_intCast]; omega
    have hvle : (v : Rat) ≤ B * ((K : Int) : Rat) := by rw [← hv]; exact Rat.floor_le _
    have hhi : (v : Rat) * ((K : Int) : Rat)⁻¹ ≤ B := by
      have := Rat.mul_le_mul_of_nonneg_right hvle (Rat.le_of_lt (Rat.inv_pos.2 Kp))
      rwa [Rat.mul_assoc, Rat.mul_inv_cancel _ K0, Rat.mul_one] at this
    have hden := hmin _ hlo hhi
    have e : (v : Rat) * ((K : Int) : Rat)⁻¹ = Rat.divInt v K := by
      rw [inv_num, ← divInt_one v, Rat.divInt_mul_divInt]
      congr 1
      · show v * ((1 : Nat) : Int) = v; omega
      · show 1 * (K : Int) = K; omega
    rw [e] at hden
    have := dv_den v (show (K : Int) ≠ 0 by omega)
    omega
end Go.Proofs.YtepadjfmcbjkmaaGreatDoor
