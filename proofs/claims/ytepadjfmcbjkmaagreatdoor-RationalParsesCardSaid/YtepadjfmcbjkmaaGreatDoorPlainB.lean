/-
  Plain laws on the plain functions.
-/
import Derived.Test.YtepadjfmcbjkmaaGreatDoorPlainA
namespace Go.Proofs.YtepadjfmcbjkmaaGreatDoor
open Go Go.Proofs.YtepadjfmcbjkmaaGreatDoor.Gw
set_option linter.unusedVariables false

/-- The fixed calls return what the document says. -/
theorem awake_ok : Evt (fun n => law02_awake n) true := Evt.of 30 (fun n => by kernel_rfl)
theorem asleep : Tot (fun n => (law02_awake n).bind fun x => some x) (· = true) := Tot.bind (Tot.evt awake_ok (Tot.ret rfl))
end Go.Proofs.YtepadjfmcbjkmaaGreatDoor

namespace Go.Proofs.YtepadjfmcbjkmaaGreatDoor
open Go Go.Proofs.YtepadjfmcbjkmaaGreatDoor.Gw
set_option linter.unusedVariables false

end Go.Proofs.YtepadjfmcbjkmaaGreatDoor

namespace Go.Proofs.YtepadjfmcbjkmaaGreatDoor
open Go Go.Proofs.YtepadjfmcbjkmaaGreatDoor.Gw
set_option linter.unusedVariables false

/- ### Order -/
end Go.Proofs.YtepadjfmcbjkmaaGreatDoor

namespace Go.Proofs.YtepadjfmcbjkmaaGreatDoor
open Go Go.Proofs.YtepadjfmcbjkmaaGreatDoor.Gw
set_option linter.unusedVariables false

/- ### Intervals -/
structure Ri (i : Interval) (a b : Rat) : Prop where
  lo : Rp i.Lo a
  hi : Rp i.Hi b
theorem Ri.of {a b : Rat} {k l : Nat} (h : Bd a k) (h2 : Bd b l) (hk : k ≤ 1000) (hl : l ≤ 1000) : Ri ⟨ofQ a, ofQ b⟩ a b := ⟨Rp.of h hk, Rp.of h2 hl⟩
section
variable {i j : Interval} {a b c d : Rat} {x : Rational} {q : Rat}
instance : Decidable (a ≤ q ∧ q ≤ b) := inferInstance
def no : Interval := ⟨⟨⟨false, []⟩, ⟨false, []⟩⟩, ⟨⟨false, []⟩, ⟨false, []⟩⟩⟩
end
end Go.Proofs.YtepadjfmcbjkmaaGreatDoor

namespace Go.Proofs.YtepadjfmcbjkmaaGreatDoor
open Go Go.Proofs.YtepadjfmcbjkmaaGreatDoor.Gw
set_option linter.unusedVariables false

/- ### The reference: order, quotient, floor -/
section
variable {x y : Rational} {p q : Rat}
end
end Go.Proofs.YtepadjfmcbjkmaaGreatDoor

namespace Go.Proofs.YtepadjfmcbjkmaaGreatDoor
open Go Go.Proofs.YtepadjfmcbjkmaaGreatDoor.Gw
set_option linter.unusedVariables false

/- ### The reference's intervals -/
section
variable {i j : Interval} {a b c d : Rat}
end
section
variable {i j : Interval} {a b c d : Rat}
end
end Go.Proofs.YtepadjfmcbjkmaaGreatDoor

namespace Go.Proofs.YtepadjfmcbjkmaaGreatDoor
open Go Go.Proofs.YtepadjfmcbjkmaaGreatDoor.Gw
set_option linter.unusedVariables false

/- ### The simplest number of an interval -/
end Go.Proofs.YtepadjfmcbjkmaaGreatDoor

namespace Go.Proofs.YtepadjfmcbjkmaaGreatDoor
open Go Go.Proofs.YtepadjfmcbjkmaaGreatDoor.Gw
set_option linter.unusedVariables false

/- ### Simplest -/
end Go.Proofs.YtepadjfmcbjkmaaGreatDoor

namespace Go.Proofs.YtepadjfmcbjkmaaGreatDoor
open Go Go.Proofs.YtepadjfmcbjkmaaGreatDoor.Gw
set_option linter.unusedVariables false

/- ### Texts: cutting at the first stroke -/
def cutL : List UInt8 → List UInt8 × List UInt8 × Bool
  | [] => ([], [], false)
  | c :: l => if c = 47 then ([], l, true) else (c :: (cutL l).1, (cutL l).2)
def NoS (l : List UInt8) : Prop := ∀ c ∈ l, c ≠ 47
theorem cutL_no {a : List UInt8} (h : NoS a) : cutL a = (a, [], false) := by
  induction a with
  | nil => rfl
  | cons c a ih =>
    have hc : c ≠ 47 := h c (by simp)
    rw [cutL, if_neg hc, ih fun x hx => h x (by simp [hx])]
theorem cutL_at {a : List UInt8} (h : NoS a) (b : List UInt8) : cutL (a ++ 47 :: b) = (a, b, true) := by
  induction a with
  | nil => rfl
  | cons c a ih =>
    have hc : c ≠ 47 := h c (by simp)
    show cutL (c :: (a ++ 47 :: b)) = _
    rw [cutL, if_neg hc, ih fun x hx => h x (by simp [hx])]
theorem cutL_spec : ∀ l : List UInt8, NoS (cutL l).1 ∧ ((cutL l).2.2 = true ∧ l = (cutL l).1 ++ 47 :: (cutL l).2.1 ∨ (cutL l).2.2 = false ∧ l = (cutL l).1 ∧ (cutL l).2.1 = [])
  | [] => ⟨fun x hx => (by cases hx), .inr ⟨rfl, rfl, rfl⟩⟩
  | c :: l => by
    by_cases hc : c = 47
    · subst hc; exact ⟨fun x hx => (by cases hx), .inl ⟨rfl, rfl⟩⟩
    · rw [cutL, if_neg hc]
      obtain ⟨h1, h2⟩ := cutL_spec l
      refine ⟨fun x hx => ?_, ?_⟩
      · rcases List.mem_cons.1 hx with rfl | hx
        · exact hc
        · exact h1 x hx
      · rcases h2 with ⟨e1, e2⟩ | ⟨e1, e2, e3⟩
        · exact .inl ⟨e1, by dsimp only; rw [List.cons_append, ← e2]⟩
        · exact .inr ⟨e1, by dsimp only; rw [← e2], e3⟩
theorem cutL_len (l : List UInt8) : (cutL l).1.length ≤ l.length ∧ ((cutL l).2.2 = true → (cutL l).1.length + 1 + (cutL l).2.1.length = l.length) := by
  obtain ⟨_, h⟩ := cutL_spec l
  rcases h with ⟨e1, e2⟩ | ⟨e1, e2, e3⟩
  · have := congrArg List.length e2
    rw [List.length_append, List.length_cons] at this
    exact ⟨by omega, fun _ => by omega⟩
  · exact ⟨by rw [← e2]; exact Nat.le_refl _, fun h => by rw [e1] at h; cases h⟩
theorem idx_cut : ∀ l : List UInt8, Lib.indexByte l 47 = if (cutL l).2.2 then ((cutL l).1.length : Int) else -1
  | [] => rfl
  | c :: l => by
    have ih := idx_cut l
    by_cases hc : c = 47
    · subst hc; rfl
    · have hb : (c == 47) = false := by rw [beq_eq_false_iff_ne]; exact hc
      rw [Lib.indexByte, hb, cutL, if_neg hc, ih]
      cases (cutL l).2.2
      · rfl
      · simp only [Bool.false_eq_true, if_false, if_true]
        rw [show (((cutL l).1.length : Int) == -1) = false by rw [beq_eq_false_iff_ne]; omega]
        simp only [Bool.false_eq_true, if_false, List.length_cons]
        omega
theorem Cut_ok (l : List UInt8) (hl : l.length ≤ 100000) (n : Nat) : strings_Cut n (bs l) (ByteArray.mk #[47]) = some (bs (cutL l).1, bs (cutL l).2.1, (cutL l).2.2) := by
  have e47 : (ByteArray.mk #[47]) = bs [47] := rfl
  have hix : stringslite_Index n (bs l) (bs [47]) = some (Lib.indexByte l 47) := by
    dsimp only [stringslite_Index]
    have z0 : (((bs [47]).size : Int) == 0) = false := rfl
    have z1 : (((bs [47]).size : Int) == 1) = true := rfl
    rw [z0, z1, cond_false, cond_true, Option.bind_some, bs_beq]
    by_cases h : [47] = l
    · rw [decide_eq_true h, cond_true, ← h]; rfl
    · rw [decide_eq_false h, cond_false]
      have hb : bidx (bs [47]) 0 = some 47 := bidx_at (i := 0) (c := 47) rfl rfl
      rw [hb]
      rfl
  obtain ⟨hno, hspec⟩ := cutL_spec l
  obtain ⟨hl1, hl2⟩ := cutL_len l
  dsimp only [strings_Cut, stringslite_Cut]
  rw [e47, hix, idx_cut, Option.bind_some]
  rcases hspec with ⟨h1, h2⟩ | ⟨h1, h2, h3⟩
  · rw [h1, if_pos rfl]
    have hlen := hl2 h1
    have d1 : decide (((cutL l).1.length : Int) ≥ 0) = true := by rw [decide_eq_true_eq]; omega
    have es : (((bs [47]).size : Nat) : Int) = 1 := rfl
    have ew : IntKind.i64.wrap (((cutL l).1.length : Int) + 1) = (((cutL l).1.length + 1 : Nat) : Int) := i64n (by omega) (by omega)
    have c1 : scut (bs l) 0 ((cutL l).1.length : Int) = some (bs ((l.drop 0).take ((cutL l).1.length - 0))) := scut_bs l (a := 0) rfl rfl (by omega) hl1
    have c2 : scut (bs l) (((cutL l).1.length + 1 : Nat) : Int) ((bs l).size : Int) = some (bs ((l.drop ((cutL l).1.length + 1)).take (l.length - ((cutL l).1.length + 1)))) := scut_bs l rfl rfl (by omega) (Nat.le_refl _)
    rw [d1, cond_true, es, ew, c1, Option.bind_some, c2, Option.bind_some]
    have t1 : (l.drop 0).take ((cutL l).1.length - 0) = (cutL l).1 := by
      rw [List.drop_zero, Nat.sub_zero]
      have := List.take_left (l₁ := (cutL l).1) (l₂ := 47 :: (cutL l).2.1)
      rwa [← h2] at this
    have t2 : (l.drop ((cutL l).1.length + 1)).take (l.length - ((cutL l).1.length + 1)) = (cutL l).2.1 := by
      rw [List.take_of_length_le (by rw [List.length_drop]; omega)]
      have e : l = ((cutL l).1 ++ [47]) ++ (cutL l).2.1 := by rw [List.append_assoc]; exact h2
      have := List.drop_left (l₁ := (cutL l).1 ++ [47]) (l₂ := (cutL l).2.1)
      rw [← e, List.length_append] at this
      exact this
    rw [t1, t2]
    rfl
  · rw [h1, if_neg (by decide)]
    rw [h3, ← h2]
    rfl
theorem dec_noS (u : Nat) : NoS (Lib.decDigits u) := fun c hc e => by
  have := List.all_eq_true.1 (dec_num u).2.1 c hc
  rw [e] at this; exact absurd this (by decide)
theorem itoa_noS (z : Int) : NoS (Lib.itoa z) := by
  by_cases h : z < 0
  · rw [itoa_neg h]
    intro c hc
    rcases List.mem_cons.1 hc with rfl | hc
    · decide
    · exact dec_noS _ c hc
  · rw [itoa_pos (by omega)]; exact dec_noS _
/-- The text of a rational number. -/
def ratL (q : Rat) : List UInt8 := if q.den = 1 then Lib.itoa q.num else Lib.itoa q.num ++ 47 :: Lib.itoa (q.den : Int)
theorem ratL_cut (q : Rat) : cutL (ratL q) = if q.den = 1 then (Lib.itoa q.num, [], false) else (Lib.itoa q.num, Lib.itoa (q.den : Int), true) := by
  unfold ratL
  split
  · exact cutL_no (itoa_noS _)
  · exact cutL_at (itoa_noS _) _
theorem cat3 (a b : List UInt8) : (bs a ++ ByteArray.mk #[47]) ++ bs b = bs (a ++ 47 :: b) := by
  rw [show (ByteArray.mk #[47]) = bs [47] from rfl, bs_app, bs_app]; simp
theorem TextQ_ok {x : Rational} {q : Rat} {k m : Nat} (hx : SmR x m) (hm : m ≤ 5000) (e : toQ x = q) (hq : Bd q k) (hk : k ≤ 2000) : Evt (fun n => rational_Text n x) (bs (ratL q)) := by
  apply Tot.of_eq
  dsimp only [rational_Text]
  have hn := NormQ_ok hx (by omega)
  rw [e] at hn
  obtain ⟨a1, a2⟩ := bd_pos hq
  have t1 := Text_ok a1 (by omega)
  have t2 := Text_ok a2 (by omega)
  rw [toZ_ofZ] at t1 t2
  have l1 := itoa_len hq.1
  have l2 := itoa_len (z := (q.den : Int)) (k := k) (by rw [den_abs]; exact hq.2)
  unfold ratL
  refine Tot.bind (Tot.evt hn (Tot.bind (Tot.evt (one_q hq.2 hk) (Tot.condD (fun h => ?_) (fun h => ?_)))))
  · rw [if_pos h]
    exact Tot.bind (Tot.evt t1 (Tot.ret rfl))
  · rw [if_neg h]
    refine Tot.bind (Tot.evt t1 (Tot.need ?_ (Tot.bind (Tot.evt t2 (Tot.need ?_ (Tot.ret ?_))))))
    · rw [bs_size]; show _ + 1 ≤ _; omega
    · rw [show (ByteArray.mk #[47]) = bs [47] from rfl, bs_app, bs_size, bs_size, List.length_append]; show _ + 1 + _ ≤ _; omega
    · exact cat3 _ _
theorem refTextQ_ok {x : Rational} {q : Rat} {k m : Nat} (hx : SmR x m) (hm : m ≤ 5000) (e : toQ x = q) (hq : Bd q k) (hk : k ≤ 2000) : Evt (fun n => ref02_Text n x) (bs (ratL q)) := by
  apply Tot.of_eq
  dsimp only [ref02_Text]
  have hn := refNormR_ok hx (by omega)
  rw [e] at hn
  obtain ⟨a1, a2⟩ := bd_pos hq
  have t1 := refText_ok a1 (by omega)
  have t2 := refText_ok a2 (by omega)
  rw [toZ_ofZ] at t1 t2
  have l1 := itoa_len hq.1
  have l2 := itoa_len (z := (q.den : Int)) (k := k) (by rw [den_abs]; exact hq.2)
  have s2 : Sm (ofZ 1) 2000 := sm_of (z := 1) (k := 1) (by decide) (by omega)
  have c := refCmpZ_ok (a2.mono hk) s2 (by omega)
  rw [toZ_ofZ, toZ_ofZ] at c
  have hp := q.den_pos
  have hc : cmpZ (q.den : Int) 1 = 0 ↔ q.den = 1 := by
    unfold cmpZ
    rw [if_neg (by omega)]
    split <;> omega
  unfold ratL
  refine Tot.bind (Tot.evt hn (Tot.bind (Tot.evt refOne_ok (Tot.bind (Tot.evt c (Tot.condE (fun h => ?_) (fun h => ?_)))))))
  · rw [if_pos (hc.1 h)]
    exact Tot.bind (Tot.evt t1 (Tot.ret rfl))
  · rw [if_neg (fun e => h (hc.2 e))]
    refine Tot.bind (Tot.evt t1 (Tot.need ?_ (Tot.bind (Tot.evt t2 (Tot.need ?_ (Tot.ret ?_))))))
    · rw [bs_size]; show _ + 1 ≤ _; omega
    · rw [show (ByteArray.mk #[47]) = bs [47] from rfl, bs_app, bs_size, bs_size, List.length_append]; show _ + 1 + _ ≤ _; omega
    · exact cat3 _ _
end Go.Proofs.YtepadjfmcbjkmaaGreatDoor

namespace Go.Proofs.YtepadjfmcbjkmaaGreatDoor
open Go Go.Proofs.YtepadjfmcbjkmaaGreatDoor.Gw
set_option linter.unusedVariables false

/- ### Reading a rational number -/
def zeroR : Rational := ⟨⟨false, []⟩, ⟨false, []⟩⟩
def denL (l : List UInt8) : List UInt8 := if (cutL l).2.2 then (cutL l).2.1 else [49]
def valQ (l : List UInt8) : Rat := Rat.divInt (valueOf (cutL l).1) (valueOf (denL l))
def Good (l : List UInt8) : Prop := good (cutL l).1 ∧ good (denL l) ∧ ratL (valQ l) = l
def Long (l : List UInt8) : Prop := 4000 < l.length ∨ 2000 < (cutL l).1.length ∨ 2000 < (cutL l).2.1.length
theorem long_iff (l : List UInt8) : Long l ↔ (4000 < l.length ∨ 2000 < (cutL l).1.length ∨ 2000 < (cutL l).2.1.length) := Iff.rfl
instance (l : List UInt8) : Decidable (Long l) := by unfold Long; infer_instance
open Classical in
/-- What is read of a text. -/
noncomputable def readsQ (l : List UInt8) : Rational × Int := if Long l then (zeroR, 6) else if Good l then (ofQ (valQ l), 0) else (zeroR, 3)
theorem valueOf_lt {l : List UInt8} {K : Nat} (h : good l) (hl : l.length ≤ K) : (valueOf l).natAbs < B32 ^ K := by
  have h4 : (valueOf l).natAbs = numV (split l).2 := by unfold valueOf; split <;> omega
  rw [h4]
  exact lt_words (num_b32 h.1) (by have := split_len l; omega)
theorem value_one : valueOf [49] = 1 := by decide
theorem denL_len {l : List UInt8} (h : ¬ Long l) : (denL l).length ≤ 2000 := by
  unfold denL
  unfold Long at h
  split
  · omega
  · simp
theorem den_bad {l : List UInt8} (h2 : good (denL l)) (h0 : valueOf (denL l) ≤ 0) : ratL (valQ l) ≠ l := by
  intro e
  obtain ⟨q, hq⟩ : ∃ q, valQ l = q := ⟨_, rfl⟩
  rw [hq] at e
  have ec := congrArg cutL e
  rw [ratL_cut] at ec
  unfold denL at h0 h2
  by_cases hf : (cutL l).2.2 = true
  · rw [if_pos hf] at h0 h2
    by_cases h1 : q.den = 1
    · rw [if_pos h1] at ec
      rw [← ec] at hf; cases hf
    · rw [if_neg h1] at ec
      rw [← ec] at h0
      dsimp only at h0
      rw [(itoa_good (q.den : Int)).2] at h0
      have := q.den_pos
      omega
  · rw [if_neg hf, value_one] at h0
    omega
theorem ParseQ_ok (l : List UInt8) (hl : l.length ≤ 100000) : Evt (fun n => rational_Parse n (bs l)) (readsQ l) := by
  classical
  obtain ⟨K, hK⟩ : ∃ K : Nat, K = 2000 := ⟨_, rfl⟩
  obtain ⟨hno, hspec⟩ := cutL_spec l
  apply Tot.of_eq
  dsimp only [rational_Parse]
  refine Tot.bind (Tot.at_ (fun n => Cut_ok l hl n) ?_)
  dsimp only
  rw [bs_size, bs_size, bs_size]
  refine Tot.cut (decide (Long l)) ?_ ?_
  · have hL := long_iff l
    refine Tot.condD (fun h => Tot.ret ?_) (fun h => Tot.condD (fun h2 => Tot.ret ?_) (fun h2 => Tot.ret ?_))
    · symm; rw [decide_eq_true_eq, hL]; omega
    · symm; rw [decide_eq_true_eq, hL]; omega
    · rw [decide_eq_decide, hL]; omega
  unfold readsQ
  refine Tot.condD (fun h => Tot.ret ?_) (fun h => ?_)
  · rw [if_pos h]; rfl
  rw [if_neg h]
  have hd := denL_len h
  have hb : (cutL l).1.length ≤ 2000 := by unfold Long at h; omega
  refine Tot.cut (bs (denL l)) (Tot.cond (fun hc => Tot.ret ?_) (fun hc => Tot.ret ?_)) ?_
  · unfold denL; rw [if_neg (by simpa using hc)]; rfl
  · unfold denL; rw [if_pos (by simpa using hc)]
  refine Tot.bind (Tot.evt (Parse_ok _ hb) (Tot.bind (Tot.evt (Parse_ok _ hd) ?_)))
  unfold reads
  by_cases g1 : good (cutL l).1
  · by_cases g2 : good (denL l)
    · rw [if_pos g1, if_pos g2]
      have v1 := valueOf_lt (K := K) g1 (by omega)
      have v2 := valueOf_lt (K := K) g2 (by omega)
      have s1 : Sm (ofZ (valueOf (cutL l).1)) K := Sm.ofZ v1
      have s2 : Sm (ofZ (valueOf (denL l))) K := Sm.ofZ v2
      have sg := Sign_ok s2 (by omega)
      rw [toZ_ofZ] at sg
      refine Tot.cut (decide (valueOf (denL l) ≤ 0)) ?_ ?_
      · refine Tot.condN (fun h => absurd rfl h) (fun _ => Tot.condN (fun h => absurd rfl h) (fun _ => Tot.bind (Tot.evt sg (Tot.ret ?_))))
        rw [decide_eq_decide]
        unfold sgn
        split
        · omega
        · split <;> omega
      refine Tot.condD (fun h0 => Tot.ret ?_) (fun h0 => ?_)
      · rw [if_neg (fun hg => den_bad g2 h0 hg.2.2)]; rfl
      have nw := New_ok _ _ s1 s2 (by omega)
      rw [toZ_ofZ, toZ_ofZ] at nw
      have bq : Bd (valQ l) K := bd_divInt (by omega) v1 v2
      have tx := TextQ_ok (x := ofQ (valQ l)) (m := K) (smr_of bq (Nat.le_refl _)) (by omega) (toQ_ofQ _) bq (by omega)
      refine Tot.bind (Tot.evt nw (Tot.bind (Tot.evt tx ?_)))
      rw [bs_beq]
      refine Tot.cond (fun h => Tot.ret ?_) (fun h => Tot.ret ?_)
      · have hne : ratL (valQ l) ≠ l := by simpa using h
        rw [if_neg (fun hg => hne hg.2.2)]; rfl
      · have he : ratL (valQ l) = l := by simpa using h
        rw [if_pos ⟨g1, g2, he⟩]; rfl
    · rw [if_pos g1, if_neg g2, if_neg (show ¬ Good l from fun hg => g2 hg.2.1)]
      exact Tot.cut true (Tot.condN (fun h => absurd rfl h) (fun _ => Tot.condN (fun _ => Tot.ret rfl) (fun h => absurd h (by decide)))) (Tot.ret rfl)
  · rw [if_neg g1, if_neg (show ¬ Good l from fun hg => g1 hg.1)]
    exact Tot.cut true (Tot.condN (fun _ => Tot.ret rfl) (fun h => absurd h (by decide))) (Tot.ret rfl)
theorem refFind_ok (l : List UInt8) (hl : l.length ≤ 100000) : Evt (fun n => loopN (ref02_Parse_L1 (bs l)) n 0) ((cutL l).1.length : Int) := by
  obtain ⟨hno, hspec⟩ := cutL_spec l
  obtain ⟨hl1, hl2⟩ := cutL_len l
  apply Tot.of_eq
  refine Tot.loop0 (fun s : Int => ∃ i : Nat, s = (i : Int) ∧ i ≤ (cutL l).1.length) (fun s => (cutL l).1.length - s.toNat) ⟨0, rfl, by omega⟩ ?_
  rintro _ ⟨i, rfl, hi⟩
  dsimp only [ref02_Parse_L1]
  rw [bs_size]
  have pre : ∀ {j : Nat}, j < (cutL l).1.length → l[j]? = (cutL l).1[j]? := fun {j} hj => by
    rcases hspec with ⟨_, e⟩ | ⟨_, e, _⟩
    · conv => lhs; rw [e]
      exact List.getElem?_append_left hj
    · conv => lhs; rw [e]
  rcases Nat.lt_or_ge i (cutL l).1.length with hlt | hge
  · have hx : (cutL l).1[i]? = some ((cutL l).1[i]'hlt) := List.getElem?_eq_getElem hlt
    have hne := hno _ (List.getElem_mem hlt)
    obtain ⟨c, hc⟩ : ∃ c, (cutL l).1[i]'hlt = c := ⟨_, rfl⟩
    rw [hc] at hx hne
    have hx2 : l[i]? = some c := by rw [pre hlt]; exact hx
    refine Tot.cut true (Tot.condD (fun _ => Tot.bidxv (bidx_at rfl hx2) (Tot.ret ?_)) (fun h => absurd h (by omega))) ?_
    · have : c.toNat ≠ 47 := fun h => hne (UInt8.toNat_inj.1 h)
      rw [bne_iff_ne]; omega
    · refine Tot.cond (fun _ => Tot.ret ?_) (fun h => by cases h)
      rw [w64 (by omega) (by omega)]
      exact ⟨⟨i + 1, rfl, by omega⟩, by omega⟩
  · obtain rfl : i = (cutL l).1.length := by omega
    refine Tot.cut false ?_ (Tot.cond (fun h => by cases h) (fun _ => Tot.ret rfl))
    rcases hspec with ⟨e1, e⟩ | ⟨_, e, _⟩
    · have := hl2 e1
      have hx : l[(cutL l).1.length]? = some 47 := by
        have := List.getElem?_append_right (l₁ := (cutL l).1) (l₂ := 47 :: (cutL l).2.1) (i := (cutL l).1.length) (Nat.le_refl _)
        rw [← e, Nat.sub_self] at this
        exact this
      exact Tot.condD (fun _ => Tot.bidxv (bidx_at rfl hx) (Tot.ret rfl)) (fun h => absurd h (by omega))
    · have := congrArg List.length e
      exact Tot.condD (fun h => absurd h (by omega)) (fun _ => Tot.ret rfl)
theorem refParseQ_ok (l : List UInt8) (hl : l.length ≤ 100000) : Evt (fun n => ref02_Parse n (bs l)) (readsQ l) := by
  classical
  obtain ⟨K, hK⟩ : ∃ K : Nat, K = 2000 := ⟨_, rfl⟩
  obtain ⟨hno, hspec⟩ := cutL_spec l
  obtain ⟨hl1, hl2⟩ := cutL_len l
  apply Tot.of_eq
  dsimp only [ref02_Parse]
  refine Tot.bind (Tot.evt (refFind_ok l hl) ?_)
  refine Tot.cut (bs (denL l)) ?_ ?_
  · unfold denL
    rw [bs_size]
    rcases hspec with ⟨e1, e⟩ | ⟨e1, e, _⟩
    · have hlen := hl2 e1
      rw [if_pos e1]
      refine Tot.condD (fun _ => ?_) (fun h => absurd h (by omega))
      have ew : IntKind.i64.wrap (((cutL l).1.length : Int) + 1) = (((cutL l).1.length + 1 : Nat) : Int) := i64n (by omega) (by omega)
      rw [ew]
      refine Tot.bind (Tot.val (scut_bs l rfl rfl (by omega) (Nat.le_refl _)) (Tot.ret ?_))
      rw [List.take_of_length_le (by rw [List.length_drop]; omega)]
      have e2 : l = ((cutL l).1 ++ [47]) ++ (cutL l).2.1 := by rw [List.append_assoc]; exact e
      have := List.drop_left (l₁ := (cutL l).1 ++ [47]) (l₂ := (cutL l).2.1)
      rw [← e2, List.length_append] at this
      exact congrArg bs this
    · have := congrArg List.length e
      rw [if_neg (by rw [e1]; decide)]
      exact Tot.condD (fun h => absurd h (by omega)) (fun _ => Tot.ret rfl)
  rw [bs_size, bs_size]
  refine Tot.cut (decide (Long l)) ?_ ?_
  · have hden : 2000 < (denL l).length ↔ 2000 < (cutL l).2.1.length := by
      unfold denL
      rcases hspec with ⟨e1, _⟩ | ⟨e1, _, e3⟩
      · rw [if_pos e1]
      · rw [if_neg (by rw [e1]; decide), e3]; simp
    have hL := long_iff l
    rw [← hden] at hL
    refine Tot.condD (fun h => Tot.ret ?_) (fun h => Tot.condD (fun h2 => Tot.ret ?_) (fun h2 => Tot.ret ?_))
    · symm; rw [decide_eq_true_eq, hL]; omega
    · symm; rw [decide_eq_true_eq, hL]; omega
    · rw [decide_eq_decide, hL]; omega
  unfold readsQ
  refine Tot.condD (fun h => Tot.ret ?_) (fun h => ?_)
  · rw [if_pos h]; rfl
  rw [if_neg h]
  have hd := denL_len h
  have hb : (cutL l).1.length ≤ 2000 := by unfold Long at h; omega
  have c1 : scut (bs l) 0 ((cutL l).1.length : Int) = some (bs (cutL l).1) := by
    have h0 : scut (bs l) 0 ((cutL l).1.length : Int) = some (bs ((l.drop 0).take ((cutL l).1.length - 0))) := scut_bs l (a := 0) rfl rfl (by omega) hl1
    rw [h0, List.drop_zero, Nat.sub_zero]
    rcases hspec with ⟨_, e⟩ | ⟨_, e, _⟩
    · have := List.take_left (l₁ := (cutL l).1) (l₂ := 47 :: (cutL l).2.1)
      rw [← e] at this
      rw [this]
    · rw [← e, List.take_length]
  refine Tot.bind (Tot.val c1 (Tot.bind (Tot.evt (refParse_ok _ hb) (Tot.bind (Tot.evt (refParse_ok _ hd) ?_)))))
  have sm0 : Sm (⟨false, []⟩ : Int_2) K := ⟨Wd.nil, by simp⟩
  unfold reads
  by_cases g1 : good (cutL l).1
  · have v1 := valueOf_lt (K := K) g1 (by omega)
    have s1 : Sm (ofZ (valueOf (cutL l).1)) K := Sm.ofZ v1
    by_cases g2 : good (denL l)
    · rw [if_pos g1, if_pos g2]
      have v2 := valueOf_lt (K := K) g2 (by omega)
      have s2 : Sm (ofZ (valueOf (denL l))) K := Sm.ofZ v2
      have nw := refNew_ok _ _ s1 s2 (by omega)
      rw [toZ_ofZ, toZ_ofZ] at nw
      have bq : Bd (valQ l) K := bd_divInt (by omega) v1 v2
      have tx := refTextQ_ok (x := ofQ (valQ l)) (m := K) (smr_of bq (Nat.le_refl _)) (by omega) (toQ_ofQ _) bq (by omega)
      refine Tot.bind (Tot.evt nw ?_)
      refine Tot.cut (!decide (ratL (valQ l) = l)) ?_ ?_
      · refine Tot.condN (fun h => absurd rfl h) (fun _ => Tot.condN (fun h => absurd rfl h) (fun _ => Tot.bind (Tot.evt tx (Tot.ret ?_))))
        rw [bs_beq]
      refine Tot.cond (fun h => Tot.ret ?_) (fun h => Tot.ret ?_)
      · have hne : ratL (valQ l) ≠ l := by simpa using h
        rw [if_neg (fun hg => hne hg.2.2)]; rfl
      · have he : ratL (valQ l) = l := by simpa using h
        rw [if_pos ⟨g1, g2, he⟩]; rfl
    · rw [if_pos g1, if_neg g2, if_neg (show ¬ Good l from fun hg => g2 hg.2.1)]
      refine Tot.bind (Tot.evt (refNew_ok _ _ s1 sm0 (by omega)) ?_)
      exact Tot.cut true (Tot.condN (fun h => absurd rfl h) (fun _ => Tot.condN (fun _ => Tot.ret rfl) (fun h => absurd h (by decide)))) (Tot.ret rfl)
  · rw [if_neg g1, if_neg (show ¬ Good l from fun hg => g1 hg.1)]
    by_cases g2 : good (denL l)
    · rw [if_pos g2]
      have s2 : Sm (ofZ (valueOf (denL l))) K := Sm.ofZ (valueOf_lt (K := K) g2 (by omega))
      refine Tot.bind (Tot.evt (refNew_ok _ _ sm0 s2 (by omega)) ?_)
      exact Tot.cut true (Tot.condN (fun _ => Tot.ret rfl) (fun h => absurd h (by decide))) (Tot.ret rfl)
    · rw [if_neg g2]
      refine Tot.bind (Tot.evt (refNew_ok _ _ sm0 sm0 (by omega)) ?_)
      exact Tot.cut true (Tot.condN (fun _ => Tot.ret rfl) (fun h => absurd h (by decide))) (Tot.ret rfl)
end Go.Proofs.YtepadjfmcbjkmaaGreatDoor

namespace Go.Proofs.YtepadjfmcbjkmaaGreatDoor
open Go Go.Proofs.YtepadjfmcbjkmaaGreatDoor.Gw
set_option linter.unusedVariables false

/- ### Parses and texts -/
theorem readsQ_sm (l : List UInt8) : SmR (readsQ l).1 2000 := by
  classical
  obtain ⟨K, hK⟩ : ∃ K : Nat, K = 2000 := ⟨_, rfl⟩
  have z : SmR zeroR 2000 := ⟨⟨Wd.nil, Nat.zero_le _⟩, ⟨Wd.nil, Nat.zero_le _⟩⟩
  unfold readsQ
  split
  · exact z
  · rename_i hL
    split
    · rename_i hg
      have hd := denL_len hL
      have hb : (cutL l).1.length ≤ 2000 := by rw [long_iff] at hL; omega
      have bq : Bd (valQ l) K := bd_divInt (by omega) (valueOf_lt hg.1 (by omega)) (valueOf_lt hg.2.1 (by omega))
      exact smr_of bq (by omega)
    · exact z
def sevens (k : Nat) : List UInt8 := List.replicate k 55
theorem sevens_str (k : Nat) : strOfNums (List.replicate k 55) = bs (sevens k) := by
  unfold strOfNums bs sevens
  congr 1
  simp
theorem sevens_no (k : Nat) : NoS (sevens k) := fun c hc e => by
  have := List.eq_of_mem_replicate hc
  rw [e] at this; exact absurd this (by decide)
theorem fill_step (k i : Nat) (h : i < k) : upd (List.replicate i (55 : Int) ++ List.replicate (k - i) 0) (i : Int) 55 = List.replicate (i + 1) 55 ++ List.replicate (k - (i + 1)) 0 := by
  unfold upd
  rw [Int.toNat_natCast, List.set_append_right _ _ (by simp), List.length_replicate, Nat.sub_self]
  obtain ⟨m, hm⟩ : ∃ m, k - i = m + 1 := ⟨k - i - 1, by omega⟩
  rw [hm, List.replicate_succ, List.set_cons_zero, show k - (i + 1) = m by omega, List.replicate_succ', List.append_assoc]
  rfl
theorem fill_ok (k : Nat) (hk : k ≤ 5000) : Evt (fun n => loopN (law02_RationalParses_L1) n (List.replicate k (0 : Int), 0)) (List.replicate k 55) := by
  apply Tot.of_eq
  refine Tot.loop0 (fun s : List Int × Int => ∃ i : Nat, s = (List.replicate i (55 : Int) ++ List.replicate (k - i) 0, (i : Int)) ∧ i ≤ k) (fun s => k - s.2.toNat) ⟨0, by simp, by omega⟩ ?_
  rintro _ ⟨i, rfl, hi⟩
  dsimp only [law02_RationalParses_L1]
  have hlen : (List.replicate i (55 : Int) ++ List.replicate (k - i) 0).length = k := by simp; omega
  rw [hlen]
  refine Tot.condD (fun h => ?_) (fun h => Tot.ret ?_)
  · have hlt : i < k := by omega
    have hx : (List.replicate i (55 : Int) ++ List.replicate (k - i) 0)[i]? = some ((List.replicate i (55 : Int) ++ List.replicate (k - i) 0)[i]'(by omega)) := List.getElem?_eq_getElem _
    refine Tot.idxv (idx_get hx) (Tot.ret ?_)
    rw [fill_step k i hlt, w64 (by omega) (by omega)]
    exact ⟨⟨i + 1, rfl, by omega⟩, by dsimp only; omega⟩
  · obtain rfl : i = k := by omega
    rw [Nat.sub_self]; simp
/-- (P2.9). -/
theorem law_RationalParses (s : ByteArray) (hs : s.size ≤ maxLen) (c : Int) (hc : inK .u16 c) : Evt (fun n => law02_RationalParses n s c) true := by
  classical
  have hc' : 0 ≤ c ∧ c ≤ 65535 := hc
  obtain ⟨l, rfl⟩ : ∃ l, s = bs l := ⟨_, bs_of s⟩
  obtain ⟨K, hK, K1, K2⟩ : ∃ K : Nat, IntKind.i64.wrap (1990 + (IntKind.i64.wrap c).tmod 30) = (K : Int) ∧ 1990 ≤ K ∧ K ≤ 2019 := by
    refine ⟨1990 + c.toNat % 30, ?_, by omega, by omega⟩
    rw [w64 (x := c) (by omega) (by omega)]
    obtain ⟨d, rfl⟩ : ∃ d : Nat, c = (d : Int) := ⟨c.toNat, by omega⟩
    rw [show ((d : Int)).tmod 30 = ((d % 30 : Nat) : Int) from (Int.ofNat_tmod d 30).symm, w64 (by omega) (by omega)]
    omega
  apply Tot.of_eq
  dsimp only [law02_RationalParses]
  rw [hK, bs_size]
  refine Tot.bind (Tot.bind (Tot.evt awake_ok (Tot.cond (fun h => by cases h) fun _ => Tot.ret ?_)))
  refine Tot.condD (fun _ => asleep) (fun hl => ?_)
  have hl' : l.length ≤ 200 := by omega
  refine Tot.bind (Tot.evt (ParseQ_ok l (by omega)) (Tot.bind (Tot.evt (refParseQ_ok l (by omega)) ?_)))
  have hmk : mk (K : Int) (0 : Int) = some (List.replicate K 0) := by unfold mk; rw [if_pos (by omega)]; simp
  refine Tot.bind (Tot.val hmk (Tot.bind (Tot.evt (fill_ok K (by omega)) ?_)))
  rw [sevens_str]
  have hS : (sevens K).length = K := List.length_replicate
  have e1 : (ByteArray.mk #[47]) ++ bs (sevens K) = bs (47 :: sevens K) := by rw [show (ByteArray.mk #[47]) = bs [47] from rfl, bs_app]; rfl
  have e2 : bs (sevens K) ++ (ByteArray.mk #[47, 48]) = bs (sevens K ++ [47, 48]) := by rw [show (ByteArray.mk #[47, 48]) = bs [47, 48] from rfl, bs_app]
  rw [e1, e2]
  have r1 : (readsQ (47 :: sevens K)).2 = if 2000 < K then 6 else 3 := by
    have hcut : cutL (47 :: sevens K) = ([], sevens K, true) := rfl
    have hL : Long (47 :: sevens K) ↔ 2000 < K := by
      rw [long_iff, hcut, List.length_cons]
      simp only [List.length_nil]
      omega
    unfold readsQ
    by_cases h : 2000 < K
    · rw [if_pos (hL.2 h), if_pos h]
    · rw [if_neg (fun h2 => h (hL.1 h2)), if_neg h, if_neg]
      intro hg
      have h1 := hg.1
      rw [hcut] at h1
      obtain ⟨_, u, t, e, _⟩ := h1
      cases e
  have r2 : (readsQ (sevens K ++ [47, 48])).2 = if 2000 < K then 6 else 3 := by
    have hcut : cutL (sevens K ++ [47, 48]) = (sevens K, [48], true) := cutL_at (sevens_no K) [48]
    have hL : Long (sevens K ++ [47, 48]) ↔ 2000 < K := by
      rw [long_iff, hcut, List.length_append]
      simp only [List.length_cons, List.length_nil]
      omega
    unfold readsQ
    by_cases h : 2000 < K
    · rw [if_pos (hL.2 h), if_pos h]
    · rw [if_neg (fun h2 => h (hL.1 h2)), if_neg h, if_neg]
      intro hg
      have hd : denL (sevens K ++ [47, 48]) = [48] := by unfold denL; rw [hcut]; rfl
      refine den_bad hg.2.1 ?_ hg.2.2
      rw [hd]
      decide
  refine Tot.need (by rw [bs_size, hS]; show 1 + K ≤ _; omega) (Tot.bind (Tot.evt (ParseQ_ok _ (by rw [List.length_cons, hS]; omega)) ?_))
  refine Tot.need (by rw [bs_size, hS]; show K + 2 ≤ _; omega) (Tot.bind (Tot.evt (ParseQ_ok _ (by rw [List.length_append, hS]; show K + 2 ≤ _; omega)) ?_))
  refine Tot.cut (if 2000 < K then (6 : Int) else 3) ?_ ?_
  · rw [List.length_replicate]
    refine Tot.condD (fun h => Tot.ret ?_) (fun h => Tot.ret ?_)
    · rw [if_pos (by omega)]
    · rw [if_neg (by omega)]
  refine Tot.cut true ?_ (Tot.ret rfl)
  refine Tot.condE (fun _ => ?_) (fun h => absurd rfl h)
  refine Tot.bind (Tot.evt (baseR_refl _ (readsQ_sm l) (by omega)) (Tot.cond (fun _ => ?_) (fun h => by cases h)))
  refine Tot.condE (fun _ => Tot.ret ?_) (fun h => absurd r1 h)
  rw [r2, beq_self_eq_true]
end Go.Proofs.YtepadjfmcbjkmaaGreatDoor
