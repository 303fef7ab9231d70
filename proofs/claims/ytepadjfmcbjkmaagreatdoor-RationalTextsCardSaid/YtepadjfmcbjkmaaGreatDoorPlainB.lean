/-
  Plain laws on the plain functions.
-/
import Derived.Test.YtepadjfmcbjkmaaGreatDoorPlainA
namespace Go.Proofs.YtepadjfmcbjkmaaGreatDoor
open Go Go.Proofs.YtepadjfmcbjkmaaGreatDoor.Gw
set_option linter.unusedVariables false

/-- The fixed calls return what the document says. -/
theorem awake_ok : Evt (fun n => law02_awake n) true := Evt.of 30 (fun n => by kernel_rfl)
theorem asleep : Tot (fun n => (law02_awake n).bind fun x => some x) (· = true) := Tot.bind (Tot.evt awake_ok (Tot.ret rfl))
theorem Rp.in60 {x : Rational} (h : SmR x 60) : Rp x (toQ x) ∧ Bd (toQ x) 61 := ⟨⟨h.mono (by omega), rfl⟩, h.bd⟩
end Go.Proofs.YtepadjfmcbjkmaaGreatDoor

namespace Go.Proofs.YtepadjfmcbjkmaaGreatDoor
open Go Go.Proofs.YtepadjfmcbjkmaaGreatDoor.Gw
set_option linter.unusedVariables false

end Go.Proofs.YtepadjfmcbjkmaaGreatDoor

namespace Go.Proofs.YtepadjfmcbjkmaaGreatDoor
open Go Go.Proofs.YtepadjfmcbjkmaaGreatDoor.Gw
set_option linter.unusedVariables false

/- ### Order -/
theorem cmpQ_zero {p q : Rat} : cmpQ p q = 0 ↔ p = q := by
  unfold cmpQ
  split
  · rename_i h; exact ⟨fun e => by omega, fun e => absurd h (by rw [e]; exact Rat.lt_irrefl)⟩
  · rename_i h
    split
    · rename_i h2; exact ⟨fun e => by omega, fun e => absurd h2 (by rw [e]; exact Rat.lt_irrefl)⟩
    · rename_i h2; exact ⟨fun _ => Rat.le_antisymm (Rat.not_lt.1 h2) (Rat.not_lt.1 h), fun _ => rfl⟩
end Go.Proofs.YtepadjfmcbjkmaaGreatDoor

namespace Go.Proofs.YtepadjfmcbjkmaaGreatDoor
open Go Go.Proofs.YtepadjfmcbjkmaaGreatDoor.Gw
set_option linter.unusedVariables false

/- ### Intervals -/
structure Ri (i : Interval) (a b : Rat) : Prop where
  lo : Rp i.Lo a
  hi : Rp i.Hi b
theorem Ri.of {a b : Rat} {k l : Nat} (h : Bd a k) (h2 : Bd b l) (hk : k ≤ 1000) (hl : l ≤ 1000) : Ri ⟨ofQ a, ofQ b⟩ a b := ⟨Rp.of h hk, Rp.of h2 hl⟩
section
variable {i j : Interval} {a b c d : Rat} {x : Rational} {q : Rat}
instance : Decidable (a ≤ q ∧ q ≤ b) := inferInstance
def no : Interval := ⟨⟨⟨false, []⟩, ⟨false, []⟩⟩, ⟨⟨false, []⟩, ⟨false, []⟩⟩⟩
end
end Go.Proofs.YtepadjfmcbjkmaaGreatDoor

namespace Go.Proofs.YtepadjfmcbjkmaaGreatDoor
open Go Go.Proofs.YtepadjfmcbjkmaaGreatDoor.Gw
set_option linter.unusedVariables false

/- ### The reference: order, quotient, floor -/
section
variable {x y : Rational} {p q : Rat}
end
end Go.Proofs.YtepadjfmcbjkmaaGreatDoor

namespace Go.Proofs.YtepadjfmcbjkmaaGreatDoor
open Go Go.Proofs.YtepadjfmcbjkmaaGreatDoor.Gw
set_option linter.unusedVariables false

/- ### The reference's intervals -/
section
variable {i j : Interval} {a b c d : Rat}
end
section
variable {i j : Interval} {a b c d : Rat}
end
end Go.Proofs.YtepadjfmcbjkmaaGreatDoor

namespace Go.Proofs.YtepadjfmcbjkmaaGreatDoor
open Go Go.Proofs.YtepadjfmcbjkmaaGreatDoor.Gw
set_option linter.unusedVariables false

/- ### The simplest number of an interval -/
/-- What stands at every step: the value, the least denominator and numerator among all of the interval, and both functions return it. -/
structure Sim (a b r : Rat) : Prop where
  lo : a ≤ r
  hi : r ≤ b
  min : ∀ q, a ≤ q → q ≤ b → r.den ≤ q.den ∧ r.num ≤ q.num
  impl : ∀ x y, Rp x a → 0 < toZ x.Den → Rp y b → Evt (fun n => rational_simplest n x y) (ofQ r)
  ref : ∀ x y, Rp x a → Rp y b → Evt (fun n => ref02_simple n x y) (ofQ r)
end Go.Proofs.YtepadjfmcbjkmaaGreatDoor

namespace Go.Proofs.YtepadjfmcbjkmaaGreatDoor
open Go Go.Proofs.YtepadjfmcbjkmaaGreatDoor.Gw
set_option linter.unusedVariables false

/- ### Simplest -/
theorem Sim.bd {a b r : Rat} {k : Nat} (h : Sim a b r) (h0 : 0 ≤ a) (hab : a ≤ b) (ha : Bd a k) : Bd r k := by
  obtain ⟨m1, m2⟩ := h.min a Rat.le_refl hab
  have hn := Rat.num_nonneg.2 (Rat.le_trans h0 h.lo)
  have := ha.1
  have := ha.2
  exact ⟨by omega, by omega⟩
end Go.Proofs.YtepadjfmcbjkmaaGreatDoor

namespace Go.Proofs.YtepadjfmcbjkmaaGreatDoor
open Go Go.Proofs.YtepadjfmcbjkmaaGreatDoor.Gw
set_option linter.unusedVariables false

/- ### Texts: cutting at the first stroke -/
def cutL : List UInt8 → List UInt8 × List UInt8 × Bool
  | [] => ([], [], false)
  | c :: l => if c = 47 then ([], l, true) else (c :: (cutL l).1, (cutL l).2)
def NoS (l : List UInt8) : Prop := ∀ c ∈ l, c ≠ 47
theorem cutL_no {a : List UInt8} (h : NoS a) : cutL a = (a, [], false) := by
  induction a with
  | nil => rfl
  | cons c a ih =>
    have hc : c ≠ 47 := h c (by simp)
    rw [cutL, if_neg hc, ih fun x hx => h x (by simp [hx])]
theorem cutL_at {a : List UInt8} (h : NoS a) (b : List UInt8) : cutL (a ++ 47 :: b) = (a, b, true) := by
  induction a with
  | nil => rfl
  | cons c a ih =>
    have hc : c ≠ 47 := h c (by simp)
    show cutL (c :: (a ++ 47 :: b)) = _
    rw [cutL, if_neg hc, ih fun x hx => h x (by simp [hx])]
theorem cutL_spec : ∀ l : List UInt8, NoS (cutL l).1 ∧ ((cutL l).2.2 = true ∧ l = (cutL l).1 ++ 47 :: (cutL l).2.1 ∨ (cutL l).2.2 = false ∧ l = (cutL l).1 ∧ (cutL l).2.1 = [])
  | [] => ⟨fun x hx => (by cases hx), .inr ⟨rfl, rfl, rfl⟩⟩
  | c :: l => by
    by_cases hc : c = 47
    · subst hc; exact ⟨fun x hx => (by cases hx), .inl ⟨rfl, rfl⟩⟩
    · rw [cutL, if_neg hc]
      obtain ⟨h1, h2⟩ := cutL_spec l
      refine ⟨fun x hx => ?_, ?_⟩
      · rcases List.mem_cons.1 hx with rfl | hx
        · exact hc
        · exact h1 x hx
      · rcases h2 with ⟨e1, e2⟩ | ⟨e1, e2, e3⟩
        · exact .inl ⟨e1, by dsimp only; rw [List.cons_append, ← e2]⟩
        · exact .inr ⟨e1, by dsimp only; rw [← e2], e3⟩
theorem cutL_len (l : List UInt8) : (cutL l).1.length ≤ l.length ∧ ((cutL l).2.2 = true → (cutL l).1.length + 1 + (cutL l).2.1.length = l.length) := by
  obtain ⟨_, h⟩ := cutL_spec l
  rcases h with ⟨e1, e2⟩ | ⟨e1, e2, e3⟩
  · have := congrArg List.length e2
    rw [List.length_append, List.length_cons] at this
    exact ⟨by omega, fun _ => by omega⟩
  · exact ⟨by rw [← e2]; exact Nat.le_refl _, fun h => by rw [e1] at h; cases h⟩
theorem idx_cut : ∀ l : List UInt8, Lib.indexByte l 47 = if (cutL l).2.2 then ((cutL l).1.length : Int) else -1
  | [] => rfl
  | c :: l => by
    have ih := idx_cut l
    by_cases hc : c = 47
    · subst hc; rfl
    · have hb : (c == 47) = false := by rw [beq_eq_false_iff_ne]; exact hc
      rw [Lib.indexByte, hb, cutL, if_neg hc, ih]
      cases (cutL l).2.2
      · rfl
      · simp only [Bool.false_eq_true, if_false, if_true]
        rw [show (((cutL l).1.length : Int) == -1) = false by rw [beq_eq_false_iff_ne]; omega]
        simp only [Bool.false_eq_true, if_false, List.length_cons]
        omega
theorem Cut_ok (l : List UInt8) (hl : l.length ≤ 100000) (n : Nat) : strings_Cut n (bs l) (ByteArray.mk #[47]) = some (bs (cutL l).1, bs (cutL l).2.1, (cutL l).2.2) := by
  have e47 : (ByteArray.mk #[47]) = bs [47] := rfl
  have hix : stringslite_Index n (bs l) (bs [47]) = some (Lib.indexByte l 47) := by
    dsimp only [stringslite_Index]
    have z0 : (((bs [47]).size : Int) == 0) = false := rfl
    have z1 : (((bs [47]).size : Int) == 1) = true := rfl
    rw [z0, z1, cond_false, cond_true, Option.bind_some, bs_beq]
    by_cases h : [47] = l
    · rw [decide_eq_true h, cond_true, ← h]; rfl
    · rw [decide_eq_false h, cond_false]
      have hb : bidx (bs [47]) 0 = some 47 := bidx_at (i := 0) (c := 47) rfl rfl
      rw [hb]
      rfl
  obtain ⟨hno, hspec⟩ := cutL_spec l
  obtain ⟨hl1, hl2⟩ := cutL_len l
  dsimp only [strings_Cut, stringslite_Cut]
  rw [e47, hix, idx_cut, Option.bind_some]
  rcases hspec with ⟨h1, h2⟩ | ⟨h1, h2, h3⟩
  · rw [h1, if_pos rfl]
    have hlen := hl2 h1
    have d1 : decide (((cutL l).1.length : Int) ≥ 0) = true := by rw [decide_eq_true_eq]; omega
    have es : (((bs [47]).size : Nat) : Int) = 1 := rfl
    have ew : IntKind.i64.wrap (((cutL l).1.length : Int) + 1) = (((cutL l).1.length + 1 : Nat) : Int) := i64n (by omega) (by omega)
    have c1 : scut (bs l) 0 ((cutL l).1.length : Int) = some (bs ((l.drop 0).take ((cutL l).1.length - 0))) := scut_bs l (a := 0) rfl rfl (by omega) hl1
    have c2 : scut (bs l) (((cutL l).1.length + 1 : Nat) : Int) ((bs l).size : Int) = some (bs ((l.drop ((cutL l).1.length + 1)).take (l.length - ((cutL l).1.length + 1)))) := scut_bs l rfl rfl (by omega) (Nat.le_refl _)
    rw [d1, cond_true, es, ew, c1, Option.bind_some, c2, Option.bind_some]
    have t1 : (l.drop 0).take ((cutL l).1.length - 0) = (cutL l).1 := by
      rw [List.drop_zero, Nat.sub_zero]
      have := List.take_left (l₁ := (cutL l).1) (l₂ := 47 :: (cutL l).2.1)
      rwa [← h2] at this
    have t2 : (l.drop ((cutL l).1.length + 1)).take (l.length - ((cutL l).1.length + 1)) = (cutL l).2.1 := by
      rw [List.take_of_length_le (by rw [List.length_drop]; omega)]
      have e : l = ((cutL l).1 ++ [47]) ++ (cutL l).2.1 := by rw [List.append_assoc]; exact h2
      have := List.drop_left (l₁ := (cutL l).1 ++ [47]) (l₂ := (cutL l).2.1)
      rw [← e, List.length_append] at this
      exact this
    rw [t1, t2]
    rfl
  · rw [h1, if_neg (by decide)]
    rw [h3, ← h2]
    rfl
theorem dec_noS (u : Nat) : NoS (Lib.decDigits u) := fun c hc e => by
  have := List.all_eq_true.1 (dec_num u).2.1 c hc
  rw [e] at this; exact absurd this (by decide)
theorem itoa_noS (z : Int) : NoS (Lib.itoa z) := by
  by_cases h : z < 0
  · rw [itoa_neg h]
    intro c hc
    rcases List.mem_cons.1 hc with rfl | hc
    · decide
    · exact dec_noS _ c hc
  · rw [itoa_pos (by omega)]; exact dec_noS _
/-- The text of a rational number. -/
def ratL (q : Rat) : List UInt8 := if q.den = 1 then Lib.itoa q.num else Lib.itoa q.num ++ 47 :: Lib.itoa (q.den : Int)
theorem ratL_cut (q : Rat) : cutL (ratL q) = if q.den = 1 then (Lib.itoa q.num, [], false) else (Lib.itoa q.num, Lib.itoa (q.den : Int), true) := by
  unfold ratL
  split
  · exact cutL_no (itoa_noS _)
  · exact cutL_at (itoa_noS _) _
theorem ratL_inj {p q : Rat} (h : ratL p = ratL q) : p = q := by
  have e := congrArg cutL h
  rw [ratL_cut, ratL_cut] at e
  have iinj : ∀ {u v : Int}, Lib.itoa u = Lib.itoa v → u = v := fun {u v} e => by rw [← (itoa_good u).2, ← (itoa_good v).2, e]
  by_cases h1 : p.den = 1
  · by_cases h2 : q.den = 1
    · rw [if_pos h1, if_pos h2] at e
      exact Rat.ext (iinj (congrArg Prod.fst e)) (h1.trans h2.symm)
    · rw [if_pos h1, if_neg h2] at e
      exact absurd (congrArg (fun r => r.2.2) e) (by simp)
  · by_cases h2 : q.den = 1
    · rw [if_neg h1, if_pos h2] at e
      exact absurd (congrArg (fun r => r.2.2) e) (by simp)
    · rw [if_neg h1, if_neg h2] at e
      refine Rat.ext (iinj (congrArg Prod.fst e)) ?_
      have := iinj (show Lib.itoa (p.den : Int) = Lib.itoa (q.den : Int) from congrArg (fun r : List UInt8 × List UInt8 × Bool => r.2.1) e)
      omega
theorem cat3 (a b : List UInt8) : (bs a ++ ByteArray.mk #[47]) ++ bs b = bs (a ++ 47 :: b) := by
  rw [show (ByteArray.mk #[47]) = bs [47] from rfl, bs_app, bs_app]; simp
theorem TextQ_ok {x : Rational} {q : Rat} {k m : Nat} (hx : SmR x m) (hm : m ≤ 5000) (e : toQ x = q) (hq : Bd q k) (hk : k ≤ 2000) : Evt (fun n => rational_Text n x) (bs (ratL q)) := by
  apply Tot.of_eq
  dsimp only [rational_Text]
  have hn := NormQ_ok hx (by omega)
  rw [e] at hn
  obtain ⟨a1, a2⟩ := bd_pos hq
  have t1 := Text_ok a1 (by omega)
  have t2 := Text_ok a2 (by omega)
  rw [toZ_ofZ] at t1 t2
  have l1 := itoa_len hq.1
  have l2 := itoa_len (z := (q.den : Int)) (k := k) (by rw [den_abs]; exact hq.2)
  unfold ratL
  refine Tot.bind (Tot.evt hn (Tot.bind (Tot.evt (one_q hq.2 hk) (Tot.condD (fun h => ?_) (fun h => ?_)))))
  · rw [if_pos h]
    exact Tot.bind (Tot.evt t1 (Tot.ret rfl))
  · rw [if_neg h]
    refine Tot.bind (Tot.evt t1 (Tot.need ?_ (Tot.bind (Tot.evt t2 (Tot.need ?_ (Tot.ret ?_))))))
    · rw [bs_size]; show _ + 1 ≤ _; omega
    · rw [show (ByteArray.mk #[47]) = bs [47] from rfl, bs_app, bs_size, bs_size, List.length_append]; show _ + 1 + _ ≤ _; omega
    · exact cat3 _ _
theorem refTextQ_ok {x : Rational} {q : Rat} {k m : Nat} (hx : SmR x m) (hm : m ≤ 5000) (e : toQ x = q) (hq : Bd q k) (hk : k ≤ 2000) : Evt (fun n => ref02_Text n x) (bs (ratL q)) := by
  apply Tot.of_eq
  dsimp only [ref02_Text]
  have hn := refNormR_ok hx (by omega)
  rw [e] at hn
  obtain ⟨a1, a2⟩ := bd_pos hq
  have t1 := refText_ok a1 (by omega)
  have t2 := refText_ok a2 (by omega)
  rw [toZ_ofZ] at t1 t2
  have l1 := itoa_len hq.1
  have l2 := itoa_len (z := (q.den : Int)) (k := k) (by rw [den_abs]; exact hq.2)
  have s2 : Sm (ofZ 1) 2000 := sm_of (z := 1) (k := 1) (by decide) (by omega)
  have c := refCmpZ_ok (a2.mono hk) s2 (by omega)
  rw [toZ_ofZ, toZ_ofZ] at c
  have hp := q.den_pos
  have hc : cmpZ (q.den : Int) 1 = 0 ↔ q.den = 1 := by
    unfold cmpZ
    rw [if_neg (by omega)]
    split <;> omega
  unfold ratL
  refine Tot.bind (Tot.evt hn (Tot.bind (Tot.evt refOne_ok (Tot.bind (Tot.evt c (Tot.condE (fun h => ?_) (fun h => ?_)))))))
  · rw [if_pos (hc.1 h)]
    exact Tot.bind (Tot.evt t1 (Tot.ret rfl))
  · rw [if_neg (fun e => h (hc.2 e))]
    refine Tot.bind (Tot.evt t1 (Tot.need ?_ (Tot.bind (Tot.evt t2 (Tot.need ?_ (Tot.ret ?_))))))
    · rw [bs_size]; show _ + 1 ≤ _; omega
    · rw [show (ByteArray.mk #[47]) = bs [47] from rfl, bs_app, bs_size, bs_size, List.length_append]; show _ + 1 + _ ≤ _; omega
    · exact cat3 _ _
end Go.Proofs.YtepadjfmcbjkmaaGreatDoor

namespace Go.Proofs.YtepadjfmcbjkmaaGreatDoor
open Go Go.Proofs.YtepadjfmcbjkmaaGreatDoor.Gw
set_option linter.unusedVariables false

/- ### Reading a rational number -/
def zeroR : Rational := ⟨⟨false, []⟩, ⟨false, []⟩⟩
def denL (l : List UInt8) : List UInt8 := if (cutL l).2.2 then (cutL l).2.1 else [49]
def valQ (l : List UInt8) : Rat := Rat.divInt (valueOf (cutL l).1) (valueOf (denL l))
def Good (l : List UInt8) : Prop := good (cutL l).1 ∧ good (denL l) ∧ ratL (valQ l) = l
def Long (l : List UInt8) : Prop := 4000 < l.length ∨ 2000 < (cutL l).1.length ∨ 2000 < (cutL l).2.1.length
theorem long_iff (l : List UInt8) : Long l ↔ (4000 < l.length ∨ 2000 < (cutL l).1.length ∨ 2000 < (cutL l).2.1.length) := Iff.rfl
instance (l : List UInt8) : Decidable (Long l) := by unfold Long; infer_instance
open Classical in
/-- What is read of a text. -/
noncomputable def readsQ (l : List UInt8) : Rational × Int := if Long l then (zeroR, 6) else if Good l then (ofQ (valQ l), 0) else (zeroR, 3)
theorem valueOf_lt {l : List UInt8} {K : Nat} (h : good l) (hl : l.length ≤ K) : (valueOf l).natAbs < B32 ^ K := by
  have h4 : (valueOf l).natAbs = numV (split l).2 := by unfold valueOf; split <;> omega
  rw [h4]
  exact lt_words (num_b32 h.1) (by have := split_len l; omega)
theorem value_one : valueOf [49] = 1 := by decide
theorem good_one : good [49] := ⟨by decide, 49, [], rfl, fun h => absurd h (by decide)⟩
theorem denL_len {l : List UInt8} (h : ¬ Long l) : (denL l).length ≤ 2000 := by
  unfold denL
  unfold Long at h
  split
  · omega
  · simp
theorem den_bad {l : List UInt8} (h2 : good (denL l)) (h0 : valueOf (denL l) ≤ 0) : ratL (valQ l) ≠ l := by
  intro e
  obtain ⟨q, hq⟩ : ∃ q, valQ l = q := ⟨_, rfl⟩
  rw [hq] at e
  have ec := congrArg cutL e
  rw [ratL_cut] at ec
  unfold denL at h0 h2
  by_cases hf : (cutL l).2.2 = true
  · rw [if_pos hf] at h0 h2
    by_cases h1 : q.den = 1
    · rw [if_pos h1] at ec
      rw [← ec] at hf; cases hf
    · rw [if_neg h1] at ec
      rw [← ec] at h0
      dsimp only at h0
      rw [(itoa_good (q.den : Int)).2] at h0
      have := q.den_pos
      omega
  · rw [if_neg hf, value_one] at h0
    omega
theorem ParseQ_ok (l : List UInt8) (hl : l.length ≤ 100000) : Evt (fun n => rational_Parse n (bs l)) (readsQ l) := by
  classical
  obtain ⟨K, hK⟩ : ∃ K : Nat, K = 2000 := ⟨_, rfl⟩
  obtain ⟨hno, hspec⟩ := cutL_spec l
  apply Tot.of_eq
  dsimp only [rational_Parse]
  refine Tot.bind (Tot.at_ (fun n => Cut_ok l hl n) ?_)
  dsimp only
  rw [bs_size, bs_size, bs_size]
  refine Tot.cut (decide (Long l)) ?_ ?_
  · have hL := long_iff l
    refine Tot.condD (fun h => Tot.ret ?_) (fun h => Tot.condD (fun h2 => Tot.ret ?_) (fun h2 => Tot.ret ?_))
    · symm; rw [decide_eq_true_eq, hL]; omega
    · symm; rw [decide_eq_true_eq, hL]; omega
    · rw [decide_eq_decide, hL]; omega
  unfold readsQ
  refine Tot.condD (fun h => Tot.ret ?_) (fun h => ?_)
  · rw [if_pos h]; rfl
  rw [if_neg h]
  have hd := denL_len h
  have hb : (cutL l).1.length ≤ 2000 := by unfold Long at h; omega
  refine Tot.cut (bs (denL l)) (Tot.cond (fun hc => Tot.ret ?_) (fun hc => Tot.ret ?_)) ?_
  · unfold denL; rw [if_neg (by simpa using hc)]; rfl
  · unfold denL; rw [if_pos (by simpa using hc)]
  refine Tot.bind (Tot.evt (Parse_ok _ hb) (Tot.bind (Tot.evt (Parse_ok _ hd) ?_)))
  unfold reads
  by_cases g1 : good (cutL l).1
  · by_cases g2 : good (denL l)
    · rw [if_pos g1, if_pos g2]
      have v1 := valueOf_lt (K := K) g1 (by omega)
      have v2 := valueOf_lt (K := K) g2 (by omega)
      have s1 : Sm (ofZ (valueOf (cutL l).1)) K := Sm.ofZ v1
      have s2 : Sm (ofZ (valueOf (denL l))) K := Sm.ofZ v2
      have sg := Sign_ok s2 (by omega)
      rw [toZ_ofZ] at sg
      refine Tot.cut (decide (valueOf (denL l) ≤ 0)) ?_ ?_
      · refine Tot.condN (fun h => absurd rfl h) (fun _ => Tot.condN (fun h => absurd rfl h) (fun _ => Tot.bind (Tot.evt sg (Tot.ret ?_))))
        rw [decide_eq_decide]
        unfold sgn
        split
        · omega
        · split <;> omega
      refine Tot.condD (fun h0 => Tot.ret ?_) (fun h0 => ?_)
      · rw [if_neg (fun hg => den_bad g2 h0 hg.2.2)]; rfl
      have nw := New_ok _ _ s1 s2 (by omega)
      rw [toZ_ofZ, toZ_ofZ] at nw
      have bq : Bd (valQ l) K := bd_divInt (by omega) v1 v2
      have tx := TextQ_ok (x := ofQ (valQ l)) (m := K) (smr_of bq (Nat.le_refl _)) (by omega) (toQ_ofQ _) bq (by omega)
      refine Tot.bind (Tot.evt nw (Tot.bind (Tot.evt tx ?_)))
      rw [bs_beq]
      refine Tot.cond (fun h => Tot.ret ?_) (fun h => Tot.ret ?_)
      · have hne : ratL (valQ l) ≠ l := by simpa using h
        rw [if_neg (fun hg => hne hg.2.2)]; rfl
      · have he : ratL (valQ l) = l := by simpa using h
        rw [if_pos ⟨g1, g2, he⟩]; rfl
    · rw [if_pos g1, if_neg g2, if_neg (show ¬ Good l from fun hg => g2 hg.2.1)]
      exact Tot.cut true (Tot.condN (fun h => absurd rfl h) (fun _ => Tot.condN (fun _ => Tot.ret rfl) (fun h => absurd h (by decide)))) (Tot.ret rfl)
  · rw [if_neg g1, if_neg (show ¬ Good l from fun hg => g1 hg.1)]
    exact Tot.cut true (Tot.condN (fun _ => Tot.ret rfl) (fun h => absurd h (by decide))) (Tot.ret rfl)
end Go.Proofs.YtepadjfmcbjkmaaGreatDoor

namespace Go.Proofs.YtepadjfmcbjkmaaGreatDoor
open Go Go.Proofs.YtepadjfmcbjkmaaGreatDoor.Gw
set_option linter.unusedVariables false

/- ### Parses and texts -/
theorem ratL_len {q : Rat} {k : Nat} (h : Bd q k) (hk : k ≤ 150) : ¬ Long (ratL q) := by
  have l1 := itoa_len h.1
  have l2 := itoa_len (z := (q.den : Int)) (k := k) (by rw [den_abs]; exact h.2)
  rw [long_iff, ratL_cut]
  unfold ratL
  split
  · simp only [List.length_nil]; omega
  · simp only [List.length_append, List.length_cons]; omega
theorem ratL_good (q : Rat) : valQ (ratL q) = q ∧ Good (ratL q) := by
  have key : valQ (ratL q) = q ∧ good (cutL (ratL q)).1 ∧ good (denL (ratL q)) := by
    unfold valQ denL
    rw [ratL_cut]
    by_cases h : q.den = 1
    · rw [if_pos h]
      refine ⟨?_, (itoa_good _).1, good_one⟩
      show Rat.divInt (valueOf (Lib.itoa q.num)) (valueOf [49]) = q
      rw [(itoa_good _).2, value_one]
      conv => rhs; rw [← Rat.num_divInt_den q, h]
      rfl
    · rw [if_neg h]
      refine ⟨?_, (itoa_good _).1, ?_⟩
      · show Rat.divInt (valueOf (Lib.itoa q.num)) (valueOf (Lib.itoa (q.den : Int))) = q
        rw [(itoa_good _).2, (itoa_good _).2, Rat.num_divInt_den]
      · show good (Lib.itoa (q.den : Int))
        exact (itoa_good _).1
  exact ⟨key.1, key.2.1, key.2.2, by rw [key.1]⟩
theorem readsQ_ratL {q : Rat} {k : Nat} (h : Bd q k) (hk : k ≤ 150) : readsQ (ratL q) = (ofQ q, 0) := by
  obtain ⟨e, g⟩ := ratL_good q
  unfold readsQ
  rw [if_neg (ratL_len h hk), if_pos g, e]
/-- (P2.10). -/
theorem law_RationalTexts (a : Rational) (ha : okRational a) (b : Rational) (hb : okRational b) : Evt (fun n => law02_RationalTexts n a b) true := by
  apply Tot.of_eq
  dsimp only [law02_RationalTexts]
  refine Tot.bind (Tot.bind (Tot.evt awake_ok (Tot.cond (fun h => by cases h) fun _ => ?_)))
  refine Tot.bind (Tot.mono (few_ok [a, b] (fun z hz => by
    simp only [List.mem_cons, List.not_mem_nil, or_false] at hz
    rcases hz with rfl | rfl
    · exact ha
    · exact hb) (by simp)) fun r hr => Tot.ret (Tot.cond (fun _ => asleep) fun h => ?_))
  have hr := hr (by simpa using h)
  have sa := hr a (by simp)
  have sb := hr b (by simp)
  obtain ⟨ra, ba⟩ := Rp.in60 sa
  obtain ⟨rb, bb⟩ := Rp.in60 sb
  obtain ⟨A, hA⟩ : ∃ X, toQ a = X := ⟨_, rfl⟩
  obtain ⟨B, hB⟩ : ∃ X, toQ b = X := ⟨_, rfl⟩
  rw [hA] at ra ba
  rw [hB] at rb bb
  have hlen := ratL_len ba (by omega)
  rw [long_iff] at hlen
  have tx := TextQ_ok sa (by omega) hA ba (by omega)
  have ty := TextQ_ok sb (by omega) hB bb (by omega)
  have rx := refTextQ_ok sa (by omega) hA ba (by omega)
  refine Tot.bind (Tot.evt tx (Tot.bind (Tot.evt (ParseQ_ok _ (by omega)) ?_)))
  rw [readsQ_ratL ba (by omega)]
  refine Tot.cut true ?_ (Tot.ret rfl)
  refine Tot.bind (Tot.evt rx ?_)
  rw [bs_beq, decide_eq_true rfl]
  refine Tot.cond (fun _ => ?_) (fun h => by cases h)
  refine Tot.condE (fun _ => ?_) (fun h => absurd rfl h)
  refine Tot.bind (Tot.evt (refNorm_q ra) (Tot.bind (Tot.evt (same_q rfl ba (by omega)) (Tot.cond (fun _ => ?_) (fun h => by cases h)))))
  refine Tot.bind (Tot.evt ty (Tot.bind (Tot.evt (cmp_q ra rb) (Tot.ret ?_))))
  rw [bs_beq, beq_iff_eq]
  by_cases h : A = B
  · subst h
    rw [decide_eq_true rfl, cmpQ_zero.2 rfl]; rfl
  · rw [decide_eq_false (fun e => h (ratL_inj e))]
    symm
    rw [beq_eq_false_iff_ne]
    exact fun e => h (cmpQ_zero.1 e)
end Go.Proofs.YtepadjfmcbjkmaaGreatDoor
