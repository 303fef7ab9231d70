/-
  Plain laws on the plain functions.
-/
import Derived.Test.YthhghkcopfnbiaaGreatDoorPlainA
namespace Go.Proofs.YthhghkcopfnbiaaGreatDoor
open Go Go.Proofs.YthhghkcopfnbiaaGreatDoor.Gw
set_option linter.unusedVariables false

/- ### Words with zeros at the end -/
theorem trimgive_ok (l : List Int) (hl : l.length ≤ 1000000) : Evt (fun n => integer_trimgive n l) (trimL l) := by
  apply Tot.of_eq
  dsimp only [integer_trimgive]
  refine Tot.cut (trimL l) ?_ (Tot.ret rfl)
  refine Tot.loop0 (fun s : List Int => s.length ≤ l.length ∧ trimL s = trimL l) (fun s => s.length) ⟨Nat.le_refl _, rfl⟩ ?_
  rintro s ⟨hs, he⟩
  dsimp only [integer_trimgive_L1]
  by_cases h0 : s = []
  · subst h0
    refine Tot.bind (Tot.condD (fun h => by simp at h) (fun _ => Tot.ret (Tot.cond (fun h => by cases h) (fun _ => Tot.ret he))))
  · obtain ⟨k, x, rfl, e1, e2⟩ := trim_round h0
    rw [w64 (by omega) (by omega)]
    refine Tot.bind (Tot.condD (fun _ => Tot.idxv e1 (Tot.ret ?_)) (fun h => by simp at h))
    refine Tot.condE (fun hx => ?_) (fun hx => Tot.ret ?_)
    · subst hx
      refine Tot.bind (Tot.val e2 (Tot.ret ⟨⟨by simp at hs; omega, by rw [← he, trimL_zero]⟩, by simp⟩))
    · rw [← he, trimL_last k hx]
theorem Normown_ok (x : Int_2) (hl : x.Mag.length ≤ 1000000) : Tot (fun n => integer_Normown n x) (fun r => r.Mag.length ≤ 1000000) := by
  obtain ⟨b, l⟩ := x
  dsimp only [integer_Normown] at *
  have ht := trimL_len l
  have ht2 := trimL_len (trimL l)
  have hc : app ([] : List Int) (trimL l) = some (trimL l) := by unfold app; rw [if_pos (by simp; omega)]; simp
  refine Tot.bind (Tot.evt (trim_ok l hl) (Tot.cut (trimL l) ?_ ?_))
  · dsimp only [slices_Cloneown]
    exact Tot.bind (Tot.val hc (Tot.ret rfl))
  refine Tot.bind (Tot.mono (Q' := fun r : Int_2 => r.Mag.length ≤ 1000000) ?_ (fun r h => Tot.ret h))
  dsimp only [integer_madegive]
  refine Tot.bind (Tot.evt (trimgive_ok _ (by omega)) (Tot.condE (fun _ => Tot.ret (Nat.zero_le _)) (fun _ => Tot.ret ?_)))
  dsimp only; omega
theorem turn_ok (l : List Int) (hl : l.length ≤ 1000000) : Evt (fun n => loopN (law01_IntegerForms_L1) n (l, 0)) () := by
  apply Tot.of_eq
  refine Tot.loop0 (fun s : List Int × Int => ∃ i : Nat, s.2 = (i : Int) ∧ s.1.length = l.length ∧ i ≤ l.length) (fun s => l.length - s.2.toNat) ⟨0, rfl, rfl, by omega⟩ ?_
  rintro ⟨s, _⟩ ⟨i, rfl, hs, hi⟩
  dsimp only [law01_IntegerForms_L1] at *
  refine Tot.condD (fun h => ?_) (fun h => Tot.ret rfl)
  have hx : s[i]? = some (s[i]'(by omega)) := List.getElem?_eq_getElem (by omega)
  rw [w64 (x := (i : Int) + 1) (by omega) (by omega)]
  exact Tot.idxv (idx_get hx) (Tot.idxv (idx_get hx) (Tot.ret ⟨⟨i + 1, rfl, by dsimp only; rw [upd_len]; exact hs, by omega⟩, by dsimp only; omega⟩))
theorem still_ok (l : List Int) (hl : l.length ≤ 1000000) : Evt (fun n => loopN (law01_IntegerForms_L3 l l) n 0) (.go ()) := by
  apply Tot.of_eq
  refine Tot.loop0 (fun s : Int => ∃ i : Nat, s = (i : Int) ∧ i ≤ l.length) (fun s => l.length - s.toNat) ⟨0, rfl, by omega⟩ ?_
  rintro _ ⟨i, rfl, hi⟩
  dsimp only [law01_IntegerForms_L3]
  refine Tot.condD (fun hc => ?_) (fun hc => Tot.ret rfl)
  rw [w64 (by omega) (by omega)]
  have hx : l[i]? = some (l[i]'(by omega)) := List.getElem?_eq_getElem (by omega)
  refine Tot.idxv (idx_get hx) (Tot.idxv (idx_get hx) (Tot.condN (fun h => absurd rfl h) (fun _ => Tot.ret ⟨⟨i + 1, rfl, by omega⟩, (by first | omega | (dsimp only; omega) | (simp; done) | (simp; omega))⟩)))
theorem val_zeros (l : List Int) (k : Nat) : val (l ++ List.replicate k 0) = val l := by rw [val_app, zeros_val, Nat.mul_zero, Nat.add_zero]
theorem law_IntegerForms (a : Int_2) (ha : okInt_2 a) (b : Int_2) (hb : okInt_2 b) (c : Int) (hc : inK .u8 c) : Evt (fun n => law01_IntegerForms n a b c) true := by
  have aw := awake_ok
  have hc' : 0 ≤ c ∧ c ≤ 255 := hc
  apply Tot.of_eq
  dsimp only [law01_IntegerForms]
  refine Tot.bind (Tot.bind (Tot.evt aw (Tot.cond (fun h => by cases h) fun _ => ?_)))
  have asleep : Tot (fun n => (law01_awake n).bind fun x => some x) (· = true) := Tot.bind (Tot.evt aw (Tot.ret rfl))
  refine Tot.bind (Tot.at_ (fun n => few_at _ n) (Tot.cond (fun _ => Tot.ret asleep) fun h1 => ?_))
  refine Tot.bind (Tot.at_ (fun n => few_at _ n) (Tot.ret (Tot.cond (fun _ => asleep) fun h2 => ?_)))
  have sa : Sm a 17 := (sm_few ha (by simpa using h1)).mono (by omega)
  have sa12 : Sm a 12 := sm_few ha (by simpa using h1)
  have sb : Sm b 17 := (sm_few hb (by simpa using h2)).mono (by omega)
  have la := sa.lt
  have lb := sb.lt
  obtain ⟨k, hk, hk4⟩ : ∃ k : Nat, (IntKind.i64.wrap c).tmod 5 = (k : Int) ∧ k ≤ 4 := by
    obtain ⟨d, rfl⟩ : ∃ d : Nat, c = (d : Int) := ⟨c.toNat, by omega⟩
    refine ⟨d % 5, ?_, by omega⟩
    rw [w64 (x := (d : Int)) (by omega) (by omega)]
    exact (Int.ofNat_tmod d 5).symm
  have l12 := sa12.len
  have ap1 : app ([] : List Int) a.Mag = some a.Mag := by unfold app; rw [if_pos (by simp; omega)]; simp
  have apz : appz a.Mag (k : Int) 0 = some (a.Mag ++ List.replicate k 0) := by unfold appz; rw [if_pos (by omega), Int.toNat_natCast]
  have plen : (a.Mag ++ List.replicate k (0 : Int)).length ≤ 17 := by rw [List.length_append, List.length_replicate]; omega
  have sp : Sm (⟨a.Neg, a.Mag ++ List.replicate k 0⟩ : Int_2) 17 := ⟨sa.wd.app (fun x hx => by have := List.eq_of_mem_replicate hx; omega), plen⟩
  have ep : toZ (⟨a.Neg, a.Mag ++ List.replicate k 0⟩ : Int_2) = toZ a := by unfold toZ; dsimp only; rw [val_zeros]
  rw [hk]
  refine Tot.bind (Tot.bind (Tot.val ap1 (Tot.bind (Tot.val apz (Tot.ret ?_)))))
  dsimp only
  obtain ⟨p, hp⟩ : ∃ p, a.Mag ++ List.replicate k (0 : Int) = p := ⟨_, rfl⟩
  rw [hp] at plen sp ep ⊢
  have ap2 : app ([] : List Int) p = some p := by unfold app; rw [if_pos (by simp; omega)]; simp
  refine Tot.bind (Tot.val ap2 ?_)
  have hdiv : ∃ q r e, Evt (fun n => integer_DivMod n b ⟨a.Neg, p⟩) (q, r, e) ∧ Evt (fun n => integer_DivMod n b a) (q, r, e) ∧ q.Mag.length ≤ 1000000 ∧ r.Mag.length ≤ 1000000 := by
    by_cases h0 : toZ a = 0
    · exact ⟨_, _, _, DivMod_zero b _ sb sp (by omega) (ep.trans h0), DivMod_zero b a sb sa (by omega) h0, Nat.zero_le _, Nat.zero_le _⟩
    · have d1 := DivMod_ok b _ sb sp (by omega) (by rw [ep]; exact h0)
      have d2 := DivMod_ok b a sb sa (by omega) h0
      rw [ep] at d1
      have lq : (toZ b / toZ a).natAbs < B32 ^ 17 := Nat.lt_of_le_of_lt (Int.natAbs_ediv_le_natAbs _ _) lb
      have hr0 := Int.emod_nonneg (toZ b) h0
      have hr1 := Int.emod_lt (toZ b) h0
      have lr : (toZ b % toZ a).natAbs < B32 ^ 17 := by omega
      have n1 := (sm_of lq (Nat.le_refl _)).len
      have n2 := (sm_of lr (Nat.le_refl _)).len
      exact ⟨_, _, _, d1, d2, by omega, by omega⟩
  obtain ⟨q, r, e, d1, d2, lq, lr⟩ := hdiv
  refine Tot.bind (Tot.evt d1 (Tot.bind (Tot.evt d2 ?_)))
  refine Tot.cut false ?_ (Tot.cond (fun h => by cases h) fun _ => ?_)
  · refine Tot.condN (fun h => absurd rfl h) (fun _ => ?_)
    refine Tot.bind (Tot.evt (Same_refl q lq) (Tot.cond (fun h => by cases h) fun _ => ?_))
    refine Tot.bind (Tot.evt (Same_refl r lr) (Tot.cond (fun h => by cases h) fun _ => ?_))
    have a1 := Add_ok _ _ sp sb (by omega)
    have m1 := Mul_ok sp sb (by omega)
    have c1 := Cmp_ok sp sa (by omega)
    have t1 := Text_ok sp (by omega)
    rw [ep] at a1 m1 c1 t1
    rw [cmpZ_self] at c1
    refine Tot.bind (Tot.evt a1 (Tot.bind (Tot.evt (Add_ok _ _ sa sb (by omega)) (Tot.bind (Tot.evt (same_ok rfl (sm_add la lb) (by omega)) (Tot.cond (fun h => by cases h) fun _ => ?_))))))
    refine Tot.bind (Tot.evt m1 (Tot.bind (Tot.evt (Mul_ok sa sb (by omega)) (Tot.bind (Tot.evt (same_ok rfl (sm_mul la lb) (by omega)) (Tot.cond (fun h => by cases h) fun _ => ?_))))))
    refine Tot.bind (Tot.evt c1 (Tot.condN (fun h => absurd rfl h) (fun _ => ?_)))
    refine Tot.bind (Tot.evt t1 (Tot.bind (Tot.evt (Text_ok sa (by omega)) (Tot.ret ?_))))
    rw [bs_beq]
    simp
  · refine Tot.bind (Tot.mono (Normown_ok _ (by dsimp only; omega)) ?_)
    intro m hm
    refine Tot.bind (Tot.evt (turn_ok m.Mag hm) ?_)
    exact Tot.bind (Tot.evt (still_ok p (by omega)) (Tot.ret rfl))
end Go.Proofs.YthhghkcopfnbiaaGreatDoor
