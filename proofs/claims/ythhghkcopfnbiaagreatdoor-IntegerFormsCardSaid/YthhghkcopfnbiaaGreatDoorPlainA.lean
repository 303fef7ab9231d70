/-
  Plain laws on the plain functions.
-/
import Derived.Test.YthhghkcopfnbiaaGreatDoorDataA
import Derived.Lib.Strings
namespace Go.Proofs.YthhghkcopfnbiaaGreatDoor
open Go Go.Proofs.YthhghkcopfnbiaaGreatDoor.Gw
set_option linter.unusedVariables false

theorem Tot.cut {α β : Type} {f : Nat → Option α} {h : Nat → α → Option β} {Q : β → Prop} (r : α) (k : Tot f (· = r)) (k2 : Tot (fun n => h n r) Q) : Tot (fun n => (f n).bind (h n)) Q := Tot.bind (k.mono fun _ e => by rw [e]; exact k2)
theorem idx_get {α : Type} {xs : List α} {i : Nat} {x : α} (h : xs[i]? = some x) : idx xs (i : Int) = some x := by rw [idx_nat]; exact h
theorem take_succ {α : Type} {l : List α} {i : Nat} {x : α} (h : l[i]? = some x) : l.take (i + 1) = l.take i ++ [x] := by
  obtain ⟨hi, rfl⟩ := List.getElem?_eq_some_iff.1 h
  rw [List.take_succ_eq_append_getElem hi]
/- ### Words -/
abbrev B32 : Nat := 4294967296
/-- All are words. -/
def Wd (l : List Int) : Prop := ∀ x ∈ l, 0 ≤ x ∧ x < 4294967296
theorem Wd.cons {x : Int} {l : List Int} (h : Wd (x :: l)) : (0 ≤ x ∧ x < 4294967296) ∧ Wd l := ⟨h x (by simp), fun y hy => h y (by simp [hy])⟩
theorem Wd.nil : Wd [] := fun x h => by cases h
theorem Wd.app {l k : List Int} (h : Wd l) (j : Wd k) : Wd (l ++ k) := fun x hx => (List.mem_append.1 hx).elim (h x) (j x)
theorem Wd.take {l : List Int} (h : Wd l) (i : Nat) : Wd (l.take i) := fun x hx => h x (List.mem_of_mem_take hx)
theorem Wd.get {l : List Int} (h : Wd l) {i : Nat} {x : Int} (hx : l[i]? = some x) : 0 ≤ x ∧ x < 4294967296 := h x (List.mem_of_getElem? hx)
theorem wd_of {l : List Int} (h : ∀ y ∈ l, inK .u32 y) : Wd l := fun x hx => by
  have := h x hx
  unfold inK at this
  simp [IntKind.min, IntKind.max, IntKind.bits, IntKind.signed] at this
  omega
/-- The number that little-endian words make. -/
def val : List Int → Nat
  | [] => 0
  | x :: l => x.toNat + B32 * val l
theorem val_app : ∀ (l k : List Int), val (l ++ k) = val l + B32 ^ l.length * val k
  | [], k => by simp [val]
  | x :: l, k => by
    rw [List.cons_append, val, val, val_app l k, List.length_cons, Nat.pow_succ, Nat.mul_add]
    rw [Nat.mul_comm (B32 ^ l.length) B32, Nat.mul_assoc, Nat.add_assoc]
theorem val_lt : ∀ {l : List Int}, Wd l → val l < B32 ^ l.length
  | [], _ => by simp [val]
  | x :: l, h => by
    obtain ⟨hx, hl⟩ := h.cons
    have := val_lt hl
    rw [val, List.length_cons, Nat.pow_succ]
    have h2 : B32 * (val l + 1) ≤ B32 * B32 ^ l.length := Nat.mul_le_mul_left _ this
    rw [Nat.mul_comm (B32 ^ l.length)]
    rw [Nat.mul_add] at h2
    have hB : B32 = 4294967296 := rfl
    omega
/-- The words of a number, without leading zeros. -/
def dig (n : Nat) : List Int := if h : n = 0 then [] else ((n % B32 : Nat) : Int) :: dig (n / B32)
termination_by n
decreasing_by exact Nat.div_lt_self (by omega) (by decide)
theorem dig_zero : dig 0 = [] := by rw [dig]; simp
theorem dig_pos {n : Nat} (h : n ≠ 0) : dig n = ((n % B32 : Nat) : Int) :: dig (n / B32) := by rw [dig]; simp [h]
theorem dig_nil {n : Nat} : dig n = [] ↔ n = 0 := by
  constructor
  · intro h
    rcases Nat.eq_zero_or_pos n with h0 | h0
    · exact h0
    · rw [dig_pos (by omega)] at h; cases h
  · rintro rfl; exact dig_zero
theorem dig_wd (n : Nat) : Wd (dig n) := by
  induction n using Nat.strongRecOn with
  | _ n ih =>
    rcases Nat.eq_zero_or_pos n with h0 | h0
    · subst h0; rw [dig_zero]; exact Wd.nil
    · rw [dig_pos (by omega)]
      intro x hx
      rcases List.mem_cons.1 hx with rfl | hx
      · have := Nat.mod_lt n (show 0 < B32 by decide)
        simp only [B32] at this ⊢
        omega
      · exact ih _ (Nat.div_lt_self h0 (by decide)) x hx
theorem val_dig (n : Nat) : val (dig n) = n := by
  induction n using Nat.strongRecOn with
  | _ n ih =>
    rcases Nat.eq_zero_or_pos n with h0 | h0
    · subst h0; rw [dig_zero]; rfl
    · rw [dig_pos (by omega), val, ih _ (Nat.div_lt_self h0 (by decide)), Int.toNat_natCast]
      exact Nat.mod_add_div n B32
/-- Without leading zeros. -/
def trimL : List Int → List Int
  | [] => []
  | x :: l => match trimL l with
    | [] => if x = 0 then [] else [x]
    | y :: t => x :: y :: t
theorem trimL_cons (x : Int) (l : List Int) : trimL (x :: l) = if trimL l = [] ∧ x = 0 then [] else x :: trimL l := by
  rw [trimL]
  cases h : trimL l with
  | nil => by_cases hx : x = 0 <;> simp [hx]
  | cons y t => simp
theorem dig_val : ∀ {l : List Int}, Wd l → dig (val l) = trimL l
  | [], _ => by rw [val, dig_zero]; rfl
  | x :: l, h => by
    obtain ⟨hx, hl⟩ := h.cons
    have ih := dig_val hl
    rw [trimL_cons, val]
    by_cases h0 : x.toNat + B32 * val l = 0
    · have h1 : x = 0 := by simp only [B32] at h0; omega
      have h2 : val l = 0 := by simp only [B32] at h0; omega
      rw [h0, dig_zero, ← ih, h2, dig_zero, if_pos ⟨rfl, h1⟩]
    · rw [dig_pos h0]
      have e1 : (x.toNat + B32 * val l) % B32 = x.toNat := by simp only [B32]; omega
      have e2 : (x.toNat + B32 * val l) / B32 = val l := by simp only [B32]; omega
      rw [e1, e2, ih, if_neg]
      · congr 1; omega
      · rintro ⟨h1, h2⟩
        rw [← ih, dig_nil] at h1
        rw [h1, h2] at h0; simp at h0
theorem trimL_zero (l : List Int) : trimL (l ++ [0]) = trimL l := by
  induction l with
  | nil => rfl
  | cons x l ih => rw [List.cons_append, trimL_cons, trimL_cons, ih]
theorem trimL_last (l : List Int) {x : Int} (h : x ≠ 0) : trimL (l ++ [x]) = l ++ [x] := by
  induction l with
  | nil => simp [trimL, h]
  | cons y l ih => rw [List.cons_append, trimL_cons, ih, if_neg (fun k => by simp at k)]
theorem trimL_len (l : List Int) : (trimL l).length ≤ l.length := by
  induction l with
  | nil => exact Nat.le_refl _
  | cons x l ih =>
    rw [trimL_cons]
    split
    · simp
    · simp only [List.length_cons]; omega
/-- One round of the loop that strikes leading zeros. -/
theorem trim_round {l : List Int} (h : l ≠ []) : ∃ (k : List Int) (x : Int), l = k ++ [x] ∧ idx l ((l.length : Int) - 1) = some x ∧ Gw.cut l 0 ((l.length : Int) - 1) = some k := by
  refine ⟨l.dropLast, l.getLast h, (List.dropLast_concat_getLast h).symm, ?_, ?_⟩
  · have hp := List.length_pos_iff.2 h
    rw [show ((l.length : Int) - 1) = ((l.length - 1 : Nat) : Int) by omega, idx_nat, List.getElem?_eq_getElem (by omega), List.getLast_eq_getElem]
  · have hp := List.length_pos_iff.2 h
    unfold Gw.cut
    rw [if_pos (by omega), show (((l.length : Int) - 1)).toNat = l.length - 1 by omega]
    simp [List.dropLast_eq_take]
theorem trim_ok (l : List Int) (hl : l.length ≤ 1000000) : Evt (fun n => integer_trim n l) (trimL l) := by
  apply Tot.of_eq
  dsimp only [integer_trim]
  refine Tot.cut (trimL l) ?_ (Tot.ret rfl)
  refine Tot.loop0 (fun s : List Int => s.length ≤ l.length ∧ trimL s = trimL l) (fun s => s.length) ⟨Nat.le_refl _, rfl⟩ ?_
  rintro s ⟨hs, he⟩
  dsimp only [integer_trim_L1]
  by_cases h0 : s = []
  · subst h0
    refine Tot.bind (Tot.condD (fun h => by simp at h) (fun _ => Tot.ret (Tot.cond (fun h => by cases h) (fun _ => Tot.ret he))))
  · obtain ⟨k, x, rfl, e1, e2⟩ := trim_round h0
    rw [w64 (by omega) (by omega)]
    refine Tot.bind (Tot.condD (fun _ => Tot.idxv e1 (Tot.ret ?_)) (fun h => by simp at h))
    refine Tot.condE (fun hx => ?_) (fun hx => Tot.ret ?_)
    · subst hx
      refine Tot.bind (Tot.val e2 (Tot.ret ⟨⟨by simp at hs; omega, by rw [← he, trimL_zero]⟩, by simp⟩))
    · rw [← he, trimL_last k hx]
/- ### Integers -/
def toZ (x : Int_2) : Int := if x.Neg then -(val x.Mag : Int) else (val x.Mag : Int)
def ofZ (z : Int) : Int_2 := ⟨decide (z < 0), dig z.natAbs⟩
theorem toZ_ofZ (z : Int) : toZ (ofZ z) = z := by
  unfold toZ ofZ
  dsimp only
  rw [val_dig]
  by_cases h : z < 0
  · simp [h]; omega
  · simp [h]; omega
/-- A sign and words, in canonical form. -/
theorem made_ok (b : Bool) (l : List Int) (hw : Wd l) (hl : l.length ≤ 1000000) : Evt (fun n => integer_made n b l) (ofZ (toZ ⟨b, l⟩)) := by
  apply Tot.of_eq
  dsimp only [integer_made]
  refine Tot.bind (Tot.evt (trim_ok l hl) ?_)
  rw [← dig_val hw]
  have hnat : (toZ ⟨b, l⟩).natAbs = val l := by unfold toZ; dsimp only; split <;> omega
  unfold ofZ
  rw [hnat]
  refine Tot.condE (fun h => Tot.ret ?_) (fun h => Tot.ret ?_)
  · have hd : dig (val l) = [] := List.length_eq_zero_iff.1 (by omega)
    have hv := dig_nil.1 hd
    rw [hd]
    congr 1
    unfold toZ; rw [hv]; simp
  · have hd : val l ≠ 0 := fun e => by rw [e, dig_zero] at h; simp at h
    congr 1
    unfold toZ
    cases b
    · simp
    · simp; omega
end Go.Proofs.YthhghkcopfnbiaaGreatDoor

namespace Go.Proofs.YthhghkcopfnbiaaGreatDoor
open Go Go.Proofs.YthhghkcopfnbiaaGreatDoor.Gw
set_option linter.unusedVariables false

/- ### Comparison -/
def cmpN (m k : Nat) : Int := if m < k then -1 else if k < m then 1 else 0
theorem val_snoc (l : List Int) (x : Int) : val (l ++ [x]) = val l + B32 ^ l.length * x.toNat := by rw [val_app]; simp [val]
theorem val_split {l : List Int} {i : Nat} {x : Int} (h : l[i]? = some x) : val l = val (l.take i) + B32 ^ i * (x.toNat + B32 * val (l.drop (i + 1))) := by
  obtain ⟨hi, rfl⟩ := List.getElem?_eq_some_iff.1 h
  have e : l = l.take i ++ l.drop i := (List.take_append_drop i l).symm
  conv => lhs; rw [e]
  rw [val_app, List.length_take, Nat.min_eq_left (by omega), List.drop_eq_getElem_cons hi, val]
theorem dig_bounds (n : Nat) : n < B32 ^ (dig n).length ∧ (n ≠ 0 → B32 ^ ((dig n).length - 1) ≤ n) := by
  induction n using Nat.strongRecOn with
  | _ n ih =>
    rcases Nat.eq_zero_or_pos n with h0 | h0
    · subst h0; rw [dig_zero]; simp
    · obtain ⟨h1, h2⟩ := ih (n / B32) (Nat.div_lt_self h0 (by decide))
      rw [dig_pos (by omega), List.length_cons]
      refine ⟨?_, fun _ => ?_⟩
      · rw [Nat.pow_succ]; exact (Nat.div_lt_iff_lt_mul (by decide)).1 h1
      · rw [Nat.add_sub_cancel]
        by_cases hz : n / B32 = 0
        · rw [hz, dig_zero]; simp; omega
        · have := h2 hz
          have hl : 1 ≤ (dig (n / B32)).length := by
            rw [dig_pos hz]; simp
          have e : (dig (n / B32)).length = (dig (n / B32)).length - 1 + 1 := by omega
          rw [e, Nat.pow_succ]
          exact (Nat.le_div_iff_mul_le (by decide)).1 this
theorem dig_short {m k : Nat} (h : (dig m).length < (dig k).length) : m < k := by
  have h1 := (dig_bounds m).1
  have hk : k ≠ 0 := by rintro rfl; rw [dig_zero] at h; simp at h
  have h2 := (dig_bounds k).2 hk
  have : B32 ^ (dig m).length ≤ B32 ^ ((dig k).length - 1) := Nat.pow_le_pow_right (by decide) (by omega)
  omega
theorem split_lt {a b : List Int} {i : Nat} {x y : Int} (ha : Wd a) (hb : Wd b) (hx : a[i]? = some x) (hy : b[i]? = some y) (hd : a.drop (i + 1) = b.drop (i + 1)) (hxy : x < y) : val a < val b := by
  rw [val_split hx, val_split hy, hd]
  have hxw := ha.get hx
  have h1 := val_lt (ha.take i)
  rw [List.length_take, Nat.min_eq_left (by have := (List.getElem?_eq_some_iff.1 hx).1; omega)] at h1
  have h2 : B32 ^ i * (x.toNat + B32 * val (b.drop (i + 1)) + 1) ≤ B32 ^ i * (y.toNat + B32 * val (b.drop (i + 1))) := Nat.mul_le_mul_left _ (by omega)
  rw [Nat.mul_add _ _ 1] at h2
  omega
theorem cmpN_lt {m k : Nat} (h : m < k) : cmpN m k = -1 := by unfold cmpN; rw [if_pos h]
theorem cmpN_gt {m k : Nat} (h : k < m) : cmpN m k = 1 := by unfold cmpN; rw [if_neg (by omega), if_pos h]
theorem cmpN_self (m : Nat) : cmpN m m = 0 := by unfold cmpN; rw [if_neg (by omega), if_neg (by omega)]
theorem drop_step {a b : List Int} {i : Nat} {x : Int} (hx : a[i]? = some x) (hy : b[i]? = some x) (hd : a.drop (i + 1) = b.drop (i + 1)) : a.drop i = b.drop i := by
  obtain ⟨h1, e1⟩ := List.getElem?_eq_some_iff.1 hx
  obtain ⟨h2, e2⟩ := List.getElem?_eq_some_iff.1 hy
  rw [List.drop_eq_getElem_cons h1, List.drop_eq_getElem_cons h2, hd, e1, e2]
theorem compare_ok (m k : Nat) (hm : (dig m).length ≤ 1000000) (hk : (dig k).length ≤ 1000000) : Evt (fun n => integer_compare n (dig m) (dig k)) (cmpN m k) := by
  apply Tot.of_eq
  dsimp only [integer_compare]
  have wa := dig_wd m
  have wb := dig_wd k
  refine Tot.condN (fun h => Tot.condD (fun h2 => Tot.ret (cmpN_lt (dig_short (by omega))).symm) (fun h2 => Tot.ret (cmpN_gt (dig_short (by omega))).symm)) (fun h => ?_)
  have hlen : (dig m).length = (dig k).length := by omega
  have hva := val_dig m
  have hvb := val_dig k
  generalize dig m = a at *
  generalize dig k = b at *
  subst hva hvb
  refine Tot.bind (Tot.mono (Q' := fun r => (r = Out.go () ∧ a = b) ∨ (r = Out.done (-1) ∧ val a < val b) ∨ (r = Out.done 1 ∧ val b < val a)) ?_ ?_)
  · rw [w64 (by omega) (by omega)]
    refine Tot.loop0 (fun s : Int => ∃ i : Nat, s = (i : Int) - 1 ∧ i ≤ a.length ∧ a.drop i = b.drop i) (fun s => (s + 1).toNat) ⟨a.length, rfl, Nat.le_refl _, by rw [List.drop_length, hlen, List.drop_length]⟩ ?_
    rintro _ ⟨i, rfl, hi, hd⟩
    dsimp only [integer_compare_L1]
    refine Tot.condD (fun hc => ?_) (fun hc => ?_)
    · obtain ⟨i, rfl⟩ : ∃ j, i = j + 1 := ⟨i - 1, by omega⟩
      have hx : a[i]? = some (a[i]'(by omega)) := List.getElem?_eq_getElem (by omega)
      have hy : b[i]? = some (b[i]'(by omega)) := List.getElem?_eq_getElem (by omega)
      generalize a[i]'(by omega) = x at hx
      generalize b[i]'(by omega) = y at hy
      have e : (((i + 1 : Nat) : Int) - 1) = (i : Int) := by omega
      rw [e]
      refine Tot.idxv (idx_get hx) (Tot.idxv (idx_get hy) (Tot.condN (fun hne => ?_) (fun he => Tot.ret ?_)))
      · refine Tot.idxv (idx_get hx) (Tot.idxv (idx_get hy) (Tot.condD (fun hlt => Tot.ret ?_) (fun hge => Tot.ret ?_)))
        · exact .inr (.inl ⟨rfl, split_lt wa wb hx hy hd hlt⟩)
        · exact .inr (.inr ⟨rfl, split_lt wb wa hy hx hd.symm (by omega)⟩)
      · subst he
        rw [w64 (by omega) (by omega)]
        exact ⟨⟨i, rfl, by omega, drop_step hx hy hd⟩, (by first | omega | (dsimp only; omega) | (simp; done) | (simp; omega))⟩
    · have : i = 0 := by omega
      subst this
      exact Tot.ret (.inl ⟨rfl, by simpa using hd⟩)
  · rintro _ (⟨rfl, h⟩ | ⟨rfl, h⟩ | ⟨rfl, h⟩)
    · subst h; exact Tot.ret (cmpN_self _).symm
    · exact Tot.ret (cmpN_lt h).symm
    · exact Tot.ret (cmpN_gt h).symm
/- ### Sums -/
theorem wu32_nat (s : Nat) : IntKind.u32.wrap (s : Int) = ((s % B32 : Nat) : Int) := by
  unfold IntKind.wrap
  simp only [IntKind.signed, IntKind.bits]
  simp [B32]
theorem shr32 (s : Nat) : ((s : Int).fdiv (2 ^ min (32 : Int).toNat (IntKind.u64).bits)) = ((s / B32 : Nat) : Int) := by
  have : (2 : Int) ^ min (32 : Int).toNat (IntKind.u64).bits = ((B32 : Nat) : Int) := by decide
  rw [this, Int.fdiv_eq_ediv_of_nonneg _ (by omega)]
  rfl
theorem add32 (x y c n : Nat) (hx : x < B32) (hy : y < B32) (hc : c ≤ 1) : bits_Add32 n (x : Int) (y : Int) (c : Int) = some ((((x + y + c) % B32 : Nat) : Int), (((x + y + c) / B32 : Nat) : Int)) := by
  have hB : B32 = 4294967296 := rfl
  unfold bits_Add32
  dsimp only
  rw [wu64 (x := (x : Int)) (by omega) (by omega), wu64 (x := (y : Int)) (by omega) (by omega), wu64 (x := (c : Int)) (by omega) (by omega), wu64 (x := (x : Int) + y) (by omega) (by omega), wu64 (x := (x : Int) + y + c) (by omega) (by omega)]
  rw [show (x : Int) + y + c = ((x + y + c : Nat) : Int) by omega, wu32_nat, shr32, wu32_nat]
  have hq : (x + y + c) / B32 < B32 := by rw [hB]; omega
  rw [Nat.mod_eq_of_lt hq]
theorem carry_eq (p s : Nat) : p * (s % B32) + p * B32 * (s / B32) = p * s := by rw [Nat.mul_assoc, ← Nat.mul_add, Nat.mod_add_div]
/-- A word, or 0 behind the end. -/
def at0 (l : List Int) (i : Nat) : Nat := (l[i]?.getD 0).toNat
theorem val_take (l : List Int) (i : Nat) : val (l.take (i + 1)) = val (l.take i) + B32 ^ i * at0 l i := by
  unfold at0
  rcases Nat.lt_or_ge i l.length with h | h
  · have hx : l[i]? = some l[i] := List.getElem?_eq_getElem h
    rw [take_succ hx, val_snoc, List.length_take, Nat.min_eq_left (by omega), hx]; rfl
  · rw [List.take_of_length_le (by omega), List.take_of_length_le (by omega), List.getElem?_eq_none (by omega)]; simp
theorem at0_lt {l : List Int} (h : Wd l) (i : Nat) : at0 l i < B32 := by
  unfold at0
  cases hx : l[i]? with
  | none => simp
  | some x => have := h.get hx; simp [B32]; omega
theorem at0_idx {l : List Int} (h : Wd l) {i : Nat} (hi : i < l.length) : idx l (i : Int) = some ((at0 l i : Nat) : Int) := by
  have hx : l[i]? = some l[i] := List.getElem?_eq_getElem hi
  have := h.get hx
  rw [idx_nat, hx]
  unfold at0
  rw [hx]
  simp; omega
theorem at0_out {l : List Int} {i : Nat} (h : l.length ≤ i) : at0 l i = 0 := by unfold at0; rw [List.getElem?_eq_none h]; rfl
theorem wd_one (s : Nat) : Wd [((s % B32 : Nat) : Int)] := fun x hx => by
  have := Nat.mod_lt s (show 0 < B32 by decide)
  simp only [List.mem_singleton] at hx
  subst hx
  simp only [B32] at *
  omega
theorem plus_ok (a b : List Int) (ha : Wd a) (hb : Wd b) (la : a.length ≤ 1000000) (lb : b.length ≤ 1000000) : ∃ r, Evt (fun n => integer_plus n a b) r ∧ Wd r ∧ val r = val a + val b ∧ r.length ≤ max a.length b.length + 1 := by
  suffices h : Tot (fun n => integer_plus n a b) (fun r => Wd r ∧ val r = val a + val b ∧ r.length ≤ max a.length b.length + 1) from h
  dsimp only [integer_plus]
  have main : ∀ a b : List Int, Wd a → Wd b → a.length ≤ 1000000 → b.length ≤ a.length → Tot (fun n => (mkc 0 (IntKind.i64.wrap ((a.length : Int) + 1)) (0 : Int)).bind fun o => (loopN (integer_plus_L1 n a b) n (o, 0, 0)).bind fun r => (app r.1 [r.2]).bind fun z => some z) (fun r => Wd r ∧ val r = val a + val b ∧ r.length ≤ a.length + 1) := by
    intro a b ha hb la hle
    rw [w64 (by omega) (by omega)]
    have hmk : mkc 0 ((a.length : Int) + 1) (0 : Int) = some [] := by unfold mkc; rw [if_pos (by omega)]; rfl
    refine Tot.bind (Tot.val hmk (Tot.bind ?_))
    refine Tot.mono (Q' := fun r : List Int × Int => ∃ c : Nat, r.2 = (c : Int) ∧ c ≤ 1 ∧ r.1.length = a.length ∧ Wd r.1 ∧ val r.1 + B32 ^ a.length * c = val a + val b) ?_ ?_
    · refine Tot.loop (fun s : List Int × Int × Int => ∃ c i : Nat, s.2 = ((c : Int), (i : Int)) ∧ c ≤ 1 ∧ i ≤ a.length ∧ s.1.length = i ∧ Wd s.1 ∧ val s.1 + B32 ^ i * c = val (a.take i) + val (b.take i)) (fun s => a.length - s.2.2.toNat)
        ⟨0, 0, rfl, by omega, by omega, rfl, Wd.nil, by simp [val]⟩ ?_
      rintro ⟨out, _⟩ ⟨c, i, rfl, hc, hi, hl, hw, hv⟩
      dsimp only [integer_plus_L1] at *
      refine Tot.condD (fun hlt => ?_) (fun hlt => ?_)
      · rw [w64 (by omega) (by omega)]
        refine Tot.idxv (at0_idx ha (by omega)) (Tot.cut (((at0 b i : Nat) : Int)) (Tot.condD (fun h2 => Tot.idxv (at0_idx hb (by omega)) (Tot.ret rfl)) (fun h2 => Tot.ret (by rw [at0_out (by omega)]; rfl))) ?_)
        refine Tot.bind (Tot.at_ (fun k => add32 _ _ _ k (at0_lt ha i) (at0_lt hb i) hc) (Tot.app (by simp; omega) (Tot.ret ⟨⟨_, i + 1, rfl, ?_, by omega, by simp; omega, hw.app (wd_one _), ?_⟩, (by first | omega | (dsimp only; omega) | (simp; done) | (simp; omega))⟩)))
        · have := at0_lt ha i
          have := at0_lt hb i
          simp only [B32] at *
          omega
        · have := carry_eq (B32 ^ i) (at0 a i + at0 b i + c)
          rw [val_snoc, hl, val_take, val_take, Int.toNat_natCast, Nat.pow_succ]
          rw [Nat.mul_add, Nat.mul_add] at this
          omega
      · obtain rfl : i = a.length := by omega
        rw [List.take_length, List.take_of_length_le (by omega)] at hv
        exact Tot.ret ⟨c, rfl, hc, hl, hw, hv⟩
    · rintro ⟨out, _⟩ ⟨c, rfl, hc, hl, hw, hv⟩
      dsimp only at *
      refine Tot.app (by simp; omega) (Tot.ret ⟨hw.app fun x hx => by simp at hx; subst hx; omega, ?_, by simp; omega⟩)
      rw [val_snoc, hl, Int.toNat_natCast]; exact hv
  refine Tot.bind (Tot.condD (fun h => Tot.ret (Tot.mono (main b a hb ha lb (by omega)) ?_)) (fun h => Tot.ret (Tot.mono (main a b ha hb la (by omega)) ?_)))
  · rintro r ⟨h1, h2, h3⟩; exact ⟨h1, by omega, by omega⟩
  · rintro r ⟨h1, h2, h3⟩; exact ⟨h1, h2, by omega⟩
end Go.Proofs.YthhghkcopfnbiaaGreatDoor

namespace Go.Proofs.YthhghkcopfnbiaaGreatDoor
open Go Go.Proofs.YthhghkcopfnbiaaGreatDoor.Gw
set_option linter.unusedVariables false

/- ### Differences -/
theorem wu32_eq (z : Int) : IntKind.u32.wrap z = z % 4294967296 := by
  unfold IntKind.wrap
  simp only [IntKind.signed, IntKind.bits]
  simp
theorem ofInt32 (n : Nat) : BitVec.ofInt 32 (n : Int) = BitVec.ofNat 32 n := by simp
theorem u32_nat {n : Nat} (h : n < B32) : IntKind.u32.wrap (n : Int) = n := by rw [wu32_eq]; simp only [B32] at h; omega
theorem iu_and {a b : Nat} (ha : a < B32) (hb : b < B32) : ib .and .u32 (a : Int) b = ((a &&& b : Nat) : Int) := by
  have h : (BitVec.ofInt 32 (a : Int) &&& BitVec.ofInt 32 (b : Int)).toNat = a &&& b := by
    simp only [ofInt32, BitVec.toNat_and, BitVec.toNat_ofNat]
    rw [Nat.mod_eq_of_lt ha, Nat.mod_eq_of_lt hb]
  show IntKind.u32.wrap ((BitVec.ofInt 32 (a : Int) &&& BitVec.ofInt 32 (b : Int)).toNat : Int) = _
  rw [h, u32_nat (Nat.lt_of_le_of_lt Nat.and_le_left ha)]
theorem iu_or {a b : Nat} (ha : a < B32) (hb : b < B32) : ib .or .u32 (a : Int) b = ((a ||| b : Nat) : Int) := by
  have h : (BitVec.ofInt 32 (a : Int) ||| BitVec.ofInt 32 (b : Int)).toNat = a ||| b := by
    simp only [ofInt32, BitVec.toNat_or, BitVec.toNat_ofNat]
    rw [Nat.mod_eq_of_lt ha, Nat.mod_eq_of_lt hb]
  show IntKind.u32.wrap ((BitVec.ofInt 32 (a : Int) ||| BitVec.ofInt 32 (b : Int)).toNat : Int) = _
  rw [h, u32_nat (Nat.or_lt_two_pow (n := 32) ha hb)]
theorem iu_xor {a b : Nat} (ha : a < B32) (hb : b < B32) : ib .xor .u32 (a : Int) b = ((a ^^^ b : Nat) : Int) := by
  have h : (BitVec.ofInt 32 (a : Int) ^^^ BitVec.ofInt 32 (b : Int)).toNat = a ^^^ b := by
    simp only [ofInt32, BitVec.toNat_xor, BitVec.toNat_ofNat]
    rw [Nat.mod_eq_of_lt ha, Nat.mod_eq_of_lt hb]
  show IntKind.u32.wrap ((BitVec.ofInt 32 (a : Int) ^^^ BitVec.ofInt 32 (b : Int)).toNat : Int) = _
  rw [h, u32_nat (Nat.xor_lt_two_pow (n := 32) ha hb)]
theorem tb31 {x : Nat} (h : x < B32) : x.testBit 31 = decide (2147483648 ≤ x) := by
  rw [Nat.testBit_eq_decide_div_mod_eq, decide_eq_decide]
  simp only [B32] at h
  have e : (2 : Nat) ^ 31 = 2147483648 := rfl
  rw [e]; omega
theorem shr31 {v : Nat} (h : v < B32) : ((v : Int).fdiv (2 ^ min (31 : Int).toNat (IntKind.u32).bits)) = (((v.testBit 31).toNat : Nat) : Int) := by
  have : (2 : Int) ^ min (31 : Int).toNat (IntKind.u32).bits = ((2147483648 : Nat) : Int) := by decide
  rw [this, Int.fdiv_eq_ediv_of_nonneg _ (by omega), tb31 h]
  simp only [B32] at h
  by_cases hv : 2147483648 ≤ v
  · simp [hv]; omega
  · simp [hv]; omega
theorem sub32 (x y c n : Nat) (hx : x < B32) (hy : y < B32) (hc : c ≤ 1) : bits_Sub32 n (x : Int) (y : Int) (c : Int) = some ((((x + B32 + B32 - y - c) % B32 : Nat) : Int), ((if x < y + c then 1 else 0 : Nat) : Int)) := by
  have hB : B32 = 4294967296 := rfl
  have hd : IntKind.u32.wrap ((IntKind.u32.wrap ((x : Int) - y)) - c) = (((x + B32 + B32 - y - c) % B32 : Nat) : Int) := by
    rw [wu32_eq, wu32_eq, hB]; rw [hB] at hx hy; omega
  have hdl : (x + B32 + B32 - y - c) % B32 < B32 := Nat.mod_lt _ (by decide)
  have hdv : (x + B32 + B32 - y - c) % B32 = if x < y + c then x + B32 - y - c else x - y - c := by
    simp only [B32] at *
    split <;> omega
  unfold bits_Sub32
  dsimp only
  rw [hd]
  generalize (x + B32 + B32 - y - c) % B32 = d at *
  have hm : (if (IntKind.u32).signed then -1 else (IntKind.u32).max : Int) = ((4294967295 : Nat) : Int) := by decide
  have hml : 4294967295 < B32 := by decide
  have hxy : x ^^^ y < B32 := Nat.xor_lt_two_pow (n := 32) hx hy
  have h1 : 4294967295 ^^^ x < B32 := Nat.xor_lt_two_pow (n := 32) hml hx
  have h2 : 4294967295 ^^^ (x ^^^ y) < B32 := Nat.xor_lt_two_pow (n := 32) hml hxy
  have h3 : (4294967295 ^^^ x) &&& y < B32 := Nat.lt_of_le_of_lt Nat.and_le_left h1
  have h4 : (4294967295 ^^^ (x ^^^ y)) &&& d < B32 := Nat.lt_of_le_of_lt Nat.and_le_left h2
  rw [hm, iu_xor hml hx, iu_and h1 hy, iu_xor hx hy, iu_xor hml hxy, iu_and h2 hdl, iu_or h3 h4, shr31 (Nat.or_lt_two_pow (n := 32) h3 h4)]
  congr 2
  rw [Nat.testBit_or, Nat.testBit_and, Nat.testBit_and, Nat.testBit_xor, Nat.testBit_xor, Nat.testBit_xor, tb31 hml, tb31 hx, tb31 hy, tb31 hdl, hdv]
  simp only [B32] at *
  by_cases a1 : 2147483648 ≤ x <;> by_cases a2 : 2147483648 ≤ y <;> by_cases a3 : x < y + c
  all_goals (simp only [a1, a2, a3, if_true, if_false, decide_true, decide_false])
  all_goals first
    | omega
    | (by_cases a4 : 2147483648 ≤ x + 4294967296 - y - c <;> simp [a4] <;> omega)
    | (by_cases a4 : 2147483648 ≤ x - y - c <;> simp [a4] <;> omega)
theorem borrow_eq {p x y c : Nat} (hx : x < B32) (hy : y < B32) (hc : c ≤ 1) : p * ((x + B32 + B32 - y - c) % B32) + p * y + p * c = p * x + p * B32 * (if x < y + c then 1 else 0) := by
  have hB : B32 = 4294967296 := rfl
  rw [Nat.mul_assoc, ← Nat.mul_add, ← Nat.mul_add, ← Nat.mul_add]
  congr 1
  simp only [B32] at *
  split <;> omega
theorem minus_ok (a b : List Int) (ha : Wd a) (hb : Wd b) (la : a.length ≤ 1000000) (lb : b.length ≤ a.length) (hle : val b ≤ val a) : ∃ r, Evt (fun n => integer_minus n a b) r ∧ Wd r ∧ val r = val a - val b ∧ r.length = a.length := by
  suffices h : Tot (fun n => integer_minus n a b) (fun r => Wd r ∧ val r = val a - val b ∧ r.length = a.length) from h
  dsimp only [integer_minus]
  have hmk : mkc 0 (a.length : Int) (0 : Int) = some [] := by unfold mkc; rw [if_pos (by omega)]; rfl
  refine Tot.bind (Tot.val hmk (Tot.bind (Tot.mono (Q' := fun r => Wd r ∧ val r = val a - val b ∧ r.length = a.length) ?_ fun r h => Tot.ret h)))
  refine Tot.loop (fun s : List Int × Int × Int => ∃ c i : Nat, s.2 = ((c : Int), (i : Int)) ∧ c ≤ 1 ∧ i ≤ a.length ∧ s.1.length = i ∧ Wd s.1 ∧ val s.1 + val (b.take i) = val (a.take i) + B32 ^ i * c) (fun s => a.length - s.2.2.toNat)
    ⟨0, 0, rfl, by omega, by omega, rfl, Wd.nil, by simp [val]⟩ ?_
  rintro ⟨out, _⟩ ⟨c, i, rfl, hc, hi, hl, hw, hv⟩
  dsimp only [integer_minus_L1] at *
  refine Tot.condD (fun hlt => ?_) (fun hlt => ?_)
  · rw [w64 (by omega) (by omega)]
    refine Tot.idxv (at0_idx ha (by omega)) (Tot.cut (((at0 b i : Nat) : Int)) (Tot.condD (fun h2 => Tot.idxv (at0_idx hb (by omega)) (Tot.ret rfl)) (fun h2 => Tot.ret (by rw [at0_out (by omega)]; rfl))) ?_)
    refine Tot.bind (Tot.at_ (fun k => sub32 _ _ _ k (at0_lt ha i) (at0_lt hb i) hc) (Tot.app (by simp; omega) (Tot.ret ⟨⟨_, i + 1, rfl, ?_, by omega, by simp; omega, hw.app (wd_one _), ?_⟩, (by first | omega | (dsimp only; omega) | (simp; done) | (simp; omega))⟩)))
    · split <;> omega
    · have := borrow_eq (p := B32 ^ i) (at0_lt ha i) (at0_lt hb i) hc
      rw [val_snoc, hl, val_take, val_take, Int.toNat_natCast, Nat.pow_succ]
      omega
  · obtain rfl : i = a.length := by omega
    rw [List.take_length, List.take_of_length_le (by omega)] at hv
    have hlt2 := val_lt hw
    rw [hl] at hlt2
    have hc0 : c = 0 := by
      rcases Nat.eq_zero_or_pos c with h | h
      · exact h
      · have : c = 1 := by omega
        rw [this, Nat.mul_one] at hv; omega
    rw [hc0, Nat.mul_zero] at hv
    exact Tot.ret ⟨hw, by omega, hl⟩
/- ### The reference -/
end Go.Proofs.YthhghkcopfnbiaaGreatDoor

namespace Go.Proofs.YthhghkcopfnbiaaGreatDoor
open Go Go.Proofs.YthhghkcopfnbiaaGreatDoor.Gw
set_option linter.unusedVariables false

theorem natAbs_toZ (x : Int_2) : (toZ x).natAbs = val x.Mag := by unfold toZ; split <;> omega
theorem clone_ok (l : List Int) (hl : l.length ≤ 1000000) (n : Nat) : slices_Cloneuint32_uint32_ n l = some l := by
  unfold slices_Cloneuint32_uint32_
  dsimp only
  unfold app
  rw [if_pos (by simp; omega)]
  simp
/- ### Canonical forms -/
theorem dig_len {n k : Nat} (h : n < B32 ^ k) : (dig n).length ≤ k := by
  rcases Nat.eq_zero_or_pos n with h0 | h0
  · rw [h0, dig_zero]; simp
  · have h2 := (dig_bounds n).2 (by omega)
    rcases Nat.lt_or_ge k (dig n).length with h3 | h3
    · have : B32 ^ k ≤ B32 ^ ((dig n).length - 1) := Nat.pow_le_pow_right (by decide) (by omega)
      omega
    · exact h3
/-- Words, not too many. -/
structure Sm (x : Int_2) (k : Nat) : Prop where
  wd : Wd x.Mag
  len : x.Mag.length ≤ k
theorem Sm.ofZ {z : Int} {k : Nat} (h : z.natAbs < B32 ^ k) : Sm (ofZ z) k := ⟨dig_wd _, dig_len h⟩
theorem Sm.lt {x : Int_2} {k : Nat} (h : Sm x k) : (toZ x).natAbs < B32 ^ k := by
  rw [natAbs_toZ]
  exact Nat.lt_of_lt_of_le (val_lt h.wd) (Nat.pow_le_pow_right (by decide) h.len)
theorem Sm.tr {x : Int_2} {k : Nat} (h : Sm x k) : (trimL x.Mag).length ≤ k := Nat.le_trans (trimL_len _) h.len
theorem Add_ok (x y : Int_2) {k : Nat} (hx : Sm x k) (hy : Sm y k) (hk : k ≤ 100000) : Evt (fun n => integer_Add n x y) (ofZ (toZ x + toZ y)) := by
  obtain ⟨b, l⟩ := x
  obtain ⟨c, m⟩ := y
  have lx := hx.len
  have ly := hy.len
  have tx := hx.tr
  have ty := hy.tr
  have wx := hx.wd
  have wy := hy.wd
  dsimp only at lx ly tx ty wx wy
  apply Tot.of_eq
  dsimp only [integer_Add]
  refine Tot.bind (Tot.evt (trim_ok l (by omega)) (Tot.bind (Tot.evt (trim_ok m (by omega)) ?_)))
  rw [← dig_val wx, ← dig_val wy] at *
  have vx := val_dig (val l)
  have vy := val_dig (val m)
  by_cases h : b = c
  · subst h
    refine Tot.cond (fun _ => ?_) (fun h => by simp at h)
    obtain ⟨r, r1, r2, r3, r4⟩ := plus_ok _ _ (dig_wd (val l)) (dig_wd (val m)) (by omega) (by omega)
    refine Tot.bind (Tot.evt r1 (Tot.bind (Tot.evt (made_ok b r r2 (by omega)) (Tot.ret ?_))))
    show ofZ _ = ofZ _
    congr 1
    unfold toZ; dsimp only
    rw [r3, vx, vy]
    cases b <;> simp; omega
  · refine Tot.cond (fun h2 => absurd (by simpa using h2) h) (fun _ => ?_)
    refine Tot.bind (Tot.evt (compare_ok (val l) (val m) (by omega) (by omega)) ?_)
    by_cases hlt : val l < val m
    · rw [cmpN_lt hlt]
      refine Tot.condD (fun h => by omega) (fun _ => ?_)
      have hle : (dig (val l)).length ≤ (dig (val m)).length := by
        rcases Nat.lt_or_ge (dig (val m)).length (dig (val l)).length with h3 | h3
        · have := dig_short h3; omega
        · exact h3
      obtain ⟨r, r1, r2, r3, r4⟩ := minus_ok _ _ (dig_wd (val m)) (dig_wd (val l)) (by omega) hle (by omega)
      refine Tot.bind (Tot.evt r1 (Tot.bind (Tot.evt (made_ok c r r2 (by omega)) (Tot.ret ?_))))
      show ofZ _ = ofZ _
      congr 1
      unfold toZ; dsimp only
      rw [r3, vx, vy]
      cases b <;> cases c <;> simp at h ⊢ <;> omega
    · have hc : cmpN (val l) (val m) ≥ 0 := by unfold cmpN; split <;> (try split) <;> omega
      refine Tot.condD (fun _ => ?_) (fun h => absurd hc h)
      have hle : (dig (val m)).length ≤ (dig (val l)).length := by
        rcases Nat.lt_or_ge (dig (val l)).length (dig (val m)).length with h3 | h3
        · have := dig_short h3; omega
        · exact h3
      obtain ⟨r, r1, r2, r3, r4⟩ := minus_ok _ _ (dig_wd (val l)) (dig_wd (val m)) (by omega) hle (by omega)
      refine Tot.bind (Tot.evt r1 (Tot.bind (Tot.evt (made_ok b r r2 (by omega)) (Tot.ret ?_))))
      show ofZ _ = ofZ _
      congr 1
      unfold toZ; dsimp only
      rw [r3, vx, vy]
      cases b <;> cases c <;> simp at h ⊢ <;> omega
end Go.Proofs.YthhghkcopfnbiaaGreatDoor

namespace Go.Proofs.YthhghkcopfnbiaaGreatDoor
open Go Go.Proofs.YthhghkcopfnbiaaGreatDoor.Gw
set_option linter.unusedVariables false

def sgn (z : Int) : Int := if z < 0 then -1 else if 0 < z then 1 else 0
def cmpZ (x y : Int) : Int := if x < y then -1 else if y < x then 1 else 0
theorem toZ_dig (b : Bool) (n : Nat) : toZ ⟨b, dig n⟩ = if b then -(n : Int) else (n : Int) := by unfold toZ; dsimp only; rw [val_dig]
section
variable {x y : Int_2} {k : Nat}
theorem len_pos {n : Nat} : (((dig n).length : Int) == 0) = decide (n = 0) := by
  have := dig_nil (n := n)
  by_cases h : n = 0
  · rw [this.2 h]; simp [h]
  · have h2 : dig n ≠ [] := fun e => h (this.1 e)
    have := List.length_pos_iff.2 h2
    simp [h]; omega
theorem sgn_mk (b : Bool) (l : List Int) : sgn (toZ ⟨b, l⟩) = if val l = 0 then 0 else if b then -1 else 1 := by
  unfold sgn toZ
  dsimp only
  cases b
  · simp; split <;> (try split) <;> omega
  · simp; split <;> (try split) <;> omega
theorem Sign_ok (hx : Sm x k) (hk : k ≤ 100000) : Evt (fun n => integer_Sign n x) (sgn (toZ x)) := by
  obtain ⟨b, l⟩ := x
  have lx := hx.len
  have wx := hx.wd
  dsimp only at lx wx
  apply Tot.of_eq
  dsimp only [integer_Sign]
  refine Tot.bind (Tot.evt (trim_ok l (by omega)) ?_)
  rw [← dig_val wx, len_pos, sgn_mk]
  refine Tot.condD (fun h => Tot.ret (by rw [if_pos h])) (fun h => Tot.cond (fun hb => Tot.ret ?_) (fun hb => Tot.ret ?_))
  · rw [if_neg h, hb]; rfl
  · rw [if_neg h, hb]; rfl
theorem Cmp_ok (hx : Sm x k) (hy : Sm y k) (hk : k ≤ 100000) : Evt (fun n => integer_Cmp n x y) (cmpZ (toZ x) (toZ y)) := by
  have hs := Sign_ok hx hk
  have ht := Sign_ok hy hk
  obtain ⟨b, l⟩ := x
  obtain ⟨c, m⟩ := y
  have lx := hx.tr
  have ly := hy.tr
  have l1 := hx.len
  have l2 := hy.len
  have wx := hx.wd
  have wy := hy.wd
  dsimp only at lx ly l1 l2 wx wy
  apply Tot.of_eq
  dsimp only [integer_Cmp]
  refine Tot.bind (Tot.evt hs (Tot.bind (Tot.evt ht ?_)))
  refine Tot.condD (fun h => Tot.ret ?_) (fun h => Tot.condD (fun h2 => Tot.ret ?_) (fun h2 => ?_))
  · unfold sgn cmpZ at *; split at h <;> split at h <;> (try split at h) <;> (try split at h) <;> (split <;> omega)
  · unfold sgn cmpZ at *; split at h2 <;> split at h2 <;> (try split at h2) <;> (try split at h2) <;> (split <;> (try split) <;> omega)
  · refine Tot.bind (Tot.evt (trim_ok l (by omega)) (Tot.bind (Tot.evt (trim_ok m (by omega)) ?_)))
    rw [← dig_val wx, ← dig_val wy] at *
    refine Tot.bind (Tot.evt (compare_ok _ _ (by omega) (by omega)) (Tot.ret ?_))
    have heq : sgn (toZ ⟨b, l⟩) = sgn (toZ ⟨c, m⟩) := by omega
    rw [heq]
    rw [sgn_mk, sgn_mk] at heq
    rw [sgn_mk]
    have hr : -1 ≤ cmpN (val l) (val m) ∧ cmpN (val l) (val m) ≤ 1 := by unfold cmpN; split <;> (try split) <;> omega
    have hz : (if val m = 0 then (0 : Int) else if c = true then -1 else 1) * cmpN (val l) (val m) = cmpZ (toZ ⟨b, l⟩) (toZ ⟨c, m⟩) := by
      unfold toZ cmpZ cmpN
      dsimp only
      cases b <;> cases c <;> simp at heq ⊢ <;> (repeat' split) <;> simp_all <;> omega
    rw [hz]
    have : -1 ≤ cmpZ (toZ ⟨b, l⟩) (toZ ⟨c, m⟩) ∧ cmpZ (toZ ⟨b, l⟩) (toZ ⟨c, m⟩) ≤ 1 := by unfold cmpZ; split <;> (try split) <;> omega
    exact w64 (by omega) (by omega)
end
end Go.Proofs.YthhghkcopfnbiaaGreatDoor

namespace Go.Proofs.YthhghkcopfnbiaaGreatDoor
open Go Go.Proofs.YthhghkcopfnbiaaGreatDoor.Gw
set_option linter.unusedVariables false

/- ### The reference's sums and comparisons -/
theorem ofZ_neg (z : Int) : (ofZ z).Neg = decide (z < 0) := rfl
section
variable {x y : Int_2} {k : Nat}
end
end Go.Proofs.YthhghkcopfnbiaaGreatDoor

namespace Go.Proofs.YthhghkcopfnbiaaGreatDoor
open Go Go.Proofs.YthhghkcopfnbiaaGreatDoor.Gw
set_option linter.unusedVariables false

/- ### Products -/
theorem upd_get {α : Type} (xs : List α) (i j : Nat) (x : α) : (upd xs (i : Int) x)[j]? = if j = i ∧ i < xs.length then some x else xs[j]? := by
  unfold upd
  rw [Int.toNat_natCast, List.getElem?_set]
  by_cases h : i = j
  · subst h
    by_cases h2 : i < xs.length
    · simp [h2]
    · simp [h2]
  · rw [if_neg h, if_neg (by omega)]
theorem upd_len {α : Type} (g : List α) (i : Int) (x : α) : (upd g i x).length = g.length := by simp [upd]
theorem upd_at0 (l : List Int) (i j w : Nat) (hi : i < l.length) : at0 (upd l (i : Int) (w : Int)) j = if j = i then w else at0 l j := by
  unfold at0
  rw [upd_get]
  by_cases h : j = i
  · rw [if_pos ⟨h, hi⟩, if_pos h]; simp
  · rw [if_neg (fun k => h k.1), if_neg h]
theorem Wd.upd {l : List Int} (h : Wd l) (i : Nat) {w : Nat} (hw : w < B32) : Wd (Gw.upd l (i : Int) (w : Int)) := by
  intro x hx
  unfold Gw.upd at hx
  rcases List.mem_or_eq_of_mem_set hx with h1 | h1
  · exact h x h1
  · subst h1; simp only [B32] at hw; omega
theorem val_upd : ∀ (l : List Int) (i w : Nat), i < l.length → val (upd l (i : Int) (w : Int)) + B32 ^ i * at0 l i = val l + B32 ^ i * w
  | [], i, w, h => by simp at h
  | x :: l, 0, w, h => by
    unfold upd at0
    simp [val]; omega
  | x :: l, i + 1, w, h => by
    have ih := val_upd l i w (by simpa using h)
    have e : upd (x :: l) (((i + 1 : Nat)) : Int) (w : Int) = x :: upd l (i : Int) (w : Int) := by
      unfold upd
      rw [show (((i + 1 : Nat)) : Int).toNat = i + 1 by omega, Int.toNat_natCast, List.set_cons_succ]
    have e2 : at0 (x :: l) (i + 1) = at0 l i := by unfold at0; rw [List.getElem?_cons_succ]
    rw [e, e2, val, val, Nat.pow_succ, Nat.mul_comm (B32 ^ i) B32, Nat.mul_assoc, Nat.mul_assoc]
    have h3 : B32 * (val (upd l (i : Int) (w : Int)) + B32 ^ i * at0 l i) = B32 * (val l + B32 ^ i * w) := by rw [ih]
    rw [Nat.mul_add, Nat.mul_add] at h3
    omega
theorem zeros_at0 (n i : Nat) : at0 (List.replicate n (0 : Int)) i = 0 := by
  unfold at0
  rw [List.getElem?_replicate]
  split <;> rfl
theorem zeros_val : ∀ n, val (List.replicate n (0 : Int)) = 0
  | 0 => rfl
  | n + 1 => by rw [List.replicate_succ, val, zeros_val n]; simp
theorem mul_bound {x y o c : Nat} (hx : x < B32) (hy : y < B32) (ho : o < B32) (hc : c < B32) : x * y < 18446744065119617026 ∧ x * y + o + c < 18446744073709551616 ∧ (x * y + o + c) / B32 < B32 := by
  simp only [B32] at *
  have h1 : x * y ≤ 4294967295 * 4294967295 := Nat.mul_le_mul (by omega) (by omega)
  omega
theorem times_ok (a b : List Int) (ha : Wd a) (hb : Wd b) (la : a.length ≤ 100000) (lb : b.length ≤ 100000) : ∃ r, Evt (fun n => integer_times n a b) r ∧ Wd r ∧ val r = val a * val b ∧ r.length = a.length + b.length := by
  suffices h : Tot (fun n => integer_times n a b) (fun r => Wd r ∧ val r = val a * val b ∧ r.length = a.length + b.length) from h
  dsimp only [integer_times]
  have hmk : mk (IntKind.i64.wrap ((a.length : Int) + (b.length : Int))) (0 : Int) = some (List.replicate (a.length + b.length) 0) := by
    rw [w64 (by omega) (by omega)]; unfold mk; rw [if_pos (by omega)]; congr 2
  refine Tot.bind (Tot.val hmk (Tot.bind (Tot.mono (Q' := fun r => Wd r ∧ val r = val a * val b ∧ r.length = a.length + b.length) ?_ fun r h => Tot.ret h)))
  refine Tot.loop (fun s : List Int × Int => ∃ i : Nat, s.2 = (i : Int) ∧ i ≤ a.length ∧ s.1.length = a.length + b.length ∧ Wd s.1 ∧ val s.1 = val (a.take i) * val b ∧ ∀ p, i + b.length ≤ p → at0 s.1 p = 0) (fun s => a.length - s.2.toNat)
    ⟨0, rfl, by omega, by simp, fun x hx => by simp at hx; omega, by rw [zeros_val]; simp [val], fun p _ => zeros_at0 _ _⟩ ?_
  rintro ⟨out, _⟩ ⟨i, rfl, hi, hl, hw, hv, hz⟩
  dsimp only [integer_times_L21] at *
  refine Tot.condD (fun hc => ?_) (fun hc => ?_)
  · have hx := at0_lt ha i
    rw [w64 (x := (i : Int) + 1) (by omega) (by omega), w64 (x := (i : Int) + (b.length : Int)) (by omega) (by omega)]
    refine Tot.bind (Tot.idxv (at0_idx ha (by omega)) (Tot.bind (Tot.mono (Q' := fun r : List Int × Int => ∃ c : Nat, r.2 = (c : Int) ∧ c < B32 ∧ r.1.length = a.length + b.length ∧ Wd r.1 ∧ val r.1 + B32 ^ (i + b.length) * c = val (a.take i) * val b + B32 ^ i * at0 a i * val b ∧ ∀ p, i + b.length ≤ p → at0 r.1 p = 0) ?_ ?_)))
    · refine Tot.loop0 (fun s : List Int × Int × Int => ∃ c j : Nat, s.2 = ((c : Int), (j : Int)) ∧ c < B32 ∧ j ≤ b.length ∧ s.1.length = a.length + b.length ∧ Wd s.1 ∧ val s.1 + B32 ^ (i + j) * c = val (a.take i) * val b + B32 ^ i * at0 a i * val (b.take j) ∧ ∀ p, i + b.length ≤ p → at0 s.1 p = 0) (fun s => b.length - s.2.2.toNat)
        ⟨0, 0, rfl, by decide, by omega, hl, hw, by rw [hv]; simp [val], hz⟩ ?_
      rintro ⟨o2, _⟩ ⟨c, j, rfl, hcl, hj, hl2, hw2, hv2, hz2⟩
      dsimp only [integer_times_L25] at *
      refine Tot.condD (fun hc2 => ?_) (fun hc2 => ?_)
      · have hy := at0_lt hb j
        have ho := at0_lt hw2 (i + j)
        obtain ⟨m1, m2, m3⟩ := mul_bound hx hy ho hcl
        have hB : B32 = 4294967296 := rfl
        rw [w64 (x := (i : Int) + (j : Int)) (by omega) (by omega), w64 (x := (j : Int) + 1) (by omega) (by omega)]
        have eij : (i : Int) + (j : Int) = ((i + j : Nat) : Int) := by omega
        rw [eij]
        refine Tot.idxv (at0_idx hb (by omega)) (Tot.idxv (at0_idx hw2 (by omega)) (Tot.idxv (at0_idx hw2 (by omega)) (Tot.ret ?_)))
        have e1 : (at0 a i : Int) * (at0 b j : Int) = ((at0 a i * at0 b j : Nat) : Int) := by simp
        rw [wu64 (x := (at0 a i : Int)) (by omega) (by omega), wu64 (x := (at0 b j : Int)) (by omega) (by omega), wu64 (x := (at0 o2 (i + j) : Int)) (by omega) (by omega), e1, wu64 (x := ((at0 a i * at0 b j : Nat) : Int)) (by omega) (by omega),
          wu64 (x := ((at0 a i * at0 b j : Nat) : Int) + _) (by omega) (by omega), wu64 (by omega) (by omega)]
        rw [show ((at0 a i * at0 b j : Nat) : Int) + (at0 o2 (i + j) : Int) + (c : Int) = ((at0 a i * at0 b j + at0 o2 (i + j) + c : Nat) : Int) by omega, wu32_nat, shr32]
        refine ⟨⟨_, j + 1, rfl, m3, by omega, by rw [upd_len]; exact hl2, hw2.upd _ (Nat.mod_lt _ (by decide)), ?_, fun p hp => ?_⟩, (by first | omega | (dsimp only; omega) | (simp; done) | (simp; omega))⟩
        · have h1 := val_upd o2 (i + j) ((at0 a i * at0 b j + at0 o2 (i + j) + c) % B32) (by omega)
          have h2 := carry_eq (B32 ^ (i + j)) (at0 a i * at0 b j + at0 o2 (i + j) + c)
          dsimp only
          rw [val_take, show i + (j + 1) = i + j + 1 by omega, Nat.pow_succ, Nat.mul_add (B32 ^ i * at0 a i)]
          rw [Nat.mul_add, Nat.mul_add] at h2
          have h3 : B32 ^ i * at0 a i * (B32 ^ j * at0 b j) = B32 ^ (i + j) * (at0 a i * at0 b j) := by
            rw [Nat.pow_add]; simp only [Nat.mul_assoc, Nat.mul_left_comm]
          rw [h3]
          omega
        · rw [upd_at0 _ _ _ _ (by omega), if_neg (by omega)]; exact hz2 p hp
      · obtain rfl : j = b.length := by omega
        rw [List.take_length] at hv2
        exact Tot.ret ⟨c, rfl, hcl, hl2, hw2, hv2, hz2⟩
    · rintro ⟨o2, _⟩ ⟨c, rfl, hcl, hl2, hw2, hv2, hz2⟩
      dsimp only at *
      have eib : (i : Int) + (b.length : Int) = ((i + b.length : Nat) : Int) := by omega
      rw [eib]
      refine Tot.idxv (at0_idx hw2 (by omega)) (Tot.ret (Tot.ret ?_))
      rw [wu32_nat, Nat.mod_eq_of_lt hcl]
      refine ⟨⟨i + 1, rfl, by omega, by rw [upd_len]; exact hl2, hw2.upd _ hcl, ?_, fun p hp => ?_⟩, (by first | omega | (dsimp only; omega) | (simp; done) | (simp; omega))⟩
      · have h1 := val_upd o2 (i + b.length) c (by omega)
        rw [hz2 _ (Nat.le_refl _), Nat.mul_zero, Nat.add_zero] at h1
        rw [h1, hv2, val_take, Nat.add_mul]
      · rw [upd_at0 _ _ _ _ (by omega), if_neg (by omega)]; exact hz2 p (by omega)
  · obtain rfl : i = a.length := by omega
    rw [List.take_length] at hv
    exact Tot.ret ⟨hw, hv, hl⟩
theorem Mul_ok {x y : Int_2} {k : Nat} (hx : Sm x k) (hy : Sm y k) (hk : k ≤ 100000) : Evt (fun n => integer_Mul n x y) (ofZ (toZ x * toZ y)) := by
  obtain ⟨b, l⟩ := x
  obtain ⟨c, m⟩ := y
  have tx := hx.tr
  have ty := hy.tr
  have lx := hx.len
  have ly := hy.len
  have wx := hx.wd
  have wy := hy.wd
  dsimp only at tx ty lx ly wx wy
  apply Tot.of_eq
  dsimp only [integer_Mul]
  refine Tot.bind (Tot.evt (trim_ok l (by omega)) (Tot.bind (Tot.evt (trim_ok m (by omega)) ?_)))
  rw [← dig_val wx, ← dig_val wy] at *
  obtain ⟨r, r1, r2, r3, r4⟩ := times_ok _ _ (dig_wd (val l)) (dig_wd (val m)) (by omega) (by omega)
  refine Tot.bind (Tot.evt r1 (Tot.bind (Tot.evt (made_ok _ r r2 (by omega)) (Tot.ret ?_))))
  show ofZ (toZ ⟨!(b == c), r⟩) = _
  congr 1
  unfold toZ; dsimp only
  rw [r3, val_dig, val_dig]
  cases b <;> cases c <;> simp [Int.neg_mul, Int.mul_neg]
end Go.Proofs.YthhghkcopfnbiaaGreatDoor

namespace Go.Proofs.YthhghkcopfnbiaaGreatDoor
open Go Go.Proofs.YthhghkcopfnbiaaGreatDoor.Gw
set_option linter.unusedVariables false

end Go.Proofs.YthhghkcopfnbiaaGreatDoor

namespace Go.Proofs.YthhghkcopfnbiaaGreatDoor
open Go Go.Proofs.YthhghkcopfnbiaaGreatDoor.Gw
set_option linter.unusedVariables false

theorem Same_refl (x : Int_2) (hl : x.Mag.length ≤ 1000000) : Evt (fun n => ref01_Same n x x) true := by
  apply Tot.of_eq
  dsimp only [ref01_Same]
  refine Tot.cut false (Tot.cond (fun h => by simp at h) (fun _ => Tot.ret (by simp))) (Tot.cond (fun h => by cases h) (fun _ => ?_))
  refine Tot.cut (Out.go ()) ?_ (Tot.ret rfl)
  refine Tot.loop0 (fun s : Int => ∃ i : Nat, s = (i : Int) ∧ i ≤ x.Mag.length) (fun s => x.Mag.length - s.toNat) ⟨0, rfl, by omega⟩ ?_
  rintro _ ⟨i, rfl, hi⟩
  dsimp only [ref01_Same_L1]
  refine Tot.condD (fun hc => ?_) (fun hc => Tot.ret rfl)
  rw [w64 (by omega) (by omega)]
  have hx : x.Mag[i]? = some (x.Mag[i]'(by omega)) := List.getElem?_eq_getElem (by omega)
  refine Tot.idxv (idx_get hx) (Tot.idxv (idx_get hx) (Tot.condN (fun h => absurd rfl h) (fun _ => Tot.ret ⟨⟨i + 1, rfl, by omega⟩, (by first | omega | (dsimp only; omega) | (simp; done) | (simp; omega))⟩)))
/- ### Machine integers -/
end Go.Proofs.YthhghkcopfnbiaaGreatDoor

namespace Go.Proofs.YthhghkcopfnbiaaGreatDoor
open Go Go.Proofs.YthhghkcopfnbiaaGreatDoor.Gw
set_option linter.unusedVariables false

theorem Sm.mono {x : Int_2} {k l : Nat} (h : Sm x k) (hk : k ≤ l) : Sm x l := ⟨h.wd, by have := h.len; omega⟩
theorem pow_pos (k : Nat) : 1 ≤ B32 ^ k := Nat.pow_pos (by decide)
theorem sm_add {p q : Int} {k : Nat} (hp : p.natAbs < B32 ^ k) (hq : q.natAbs < B32 ^ k) : (p + q).natAbs < B32 ^ (k + 1) := by
  have := pow_pos k
  rw [Nat.pow_succ]
  simp only [B32] at *
  omega
theorem sm_mul {p q : Int} {k l : Nat} (hp : p.natAbs < B32 ^ k) (hq : q.natAbs < B32 ^ l) : (p * q).natAbs < B32 ^ (k + l) := by
  rw [Int.natAbs_mul, Nat.pow_add]
  exact Nat.mul_lt_mul'' hp hq
theorem sm_of {z : Int} {k l : Nat} (h : z.natAbs < B32 ^ k) (hk : k ≤ l) : Sm (ofZ z) l := (Sm.ofZ h).mono hk
theorem same_ok {p q : Int} {k : Nat} (e : p = q) (h : p.natAbs < B32 ^ k) (hk : k ≤ 1000000) : Evt (fun n => ref01_Same n (ofZ p) (ofZ q)) true := by
  subst e
  exact Same_refl _ (by have := (Sm.ofZ h).len; omega)
end Go.Proofs.YthhghkcopfnbiaaGreatDoor

namespace Go.Proofs.YthhghkcopfnbiaaGreatDoor
open Go Go.Proofs.YthhghkcopfnbiaaGreatDoor.Gw
set_option linter.unusedVariables false

theorem few_at (x : Int_2) (n : Nat) : law01_few n x = some (decide ((x.Mag.length : Int) ≤ 12)) := rfl
theorem sm_few {x : Int_2} (hx : okInt_2 x) (h : decide ((x.Mag.length : Int) ≤ 12) = true) : Sm x 12 := ⟨wd_of hx.2.2, by have := of_decide_eq_true h; omega⟩
/-- The fixed calls return what the document says. -/
theorem awake_ok : Evt (fun n => law01_awake n) true := Evt.of 30 (fun n => by kernel_rfl)
end Go.Proofs.YthhghkcopfnbiaaGreatDoor

namespace Go.Proofs.YthhghkcopfnbiaaGreatDoor
open Go Go.Proofs.YthhghkcopfnbiaaGreatDoor.Gw
set_option linter.unusedVariables false

/- ### Binary digits -/
/-- How many binary digits a number has. -/
def bl (n : Nat) : Nat := if n = 0 then 0 else Nat.log2 n + 1
theorem bl_pos {n : Nat} (h : n ≠ 0) : 0 < bl n := by unfold bl; rw [if_neg h]; omega
theorem lt_bl (n : Nat) : n < 2 ^ bl n := by
  unfold bl
  by_cases h : n = 0
  · rw [if_pos h, h]; decide
  · rw [if_neg h]; exact Nat.lt_log2_self
theorem bl_le {n k : Nat} (h : n < 2 ^ k) : bl n ≤ k := by
  unfold bl
  by_cases h0 : n = 0
  · rw [if_pos h0]; omega
  · rw [if_neg h0]; exact (Nat.log2_lt h0).2 h
theorem bl_ge {n k : Nat} (h : 2 ^ k ≤ n) : k < bl n := by
  have := lt_bl n
  exact (Nat.pow_lt_pow_iff_right (a := 2) (by decide)).1 (Nat.lt_of_le_of_lt h this)
theorem bl_eq {n k : Nat} (h1 : 2 ^ k ≤ n) (h2 : n < 2 ^ (k + 1)) : bl n = k + 1 := Nat.le_antisymm (bl_le h2) (bl_ge h1)
theorem bl_low {n : Nat} (h : n ≠ 0) : 2 ^ (bl n - 1) ≤ n := by
  unfold bl; rw [if_neg h, Nat.add_sub_cancel]; exact Nat.log2_self_le h
theorem bl_shift {n j : Nat} (h : n / 2 ^ j ≠ 0) : bl n = bl (n / 2 ^ j) + j := by
  have h1 := bl_low h
  have h2 := lt_bl (n / 2 ^ j)
  have hp := bl_pos h
  have h3 : 2 ^ (bl (n / 2 ^ j) - 1 + j) ≤ n := by
    rw [Nat.pow_add]; exact (Nat.le_div_iff_mul_le (Nat.pow_pos (by decide))).1 h1
  have h4 : n < 2 ^ (bl (n / 2 ^ j) - 1 + j + 1) := by
    have : n < 2 ^ bl (n / 2 ^ j) * 2 ^ j := (Nat.div_lt_iff_lt_mul (Nat.pow_pos (by decide))).1 h2
    rw [← Nat.pow_add] at this
    rwa [show bl (n / 2 ^ j) - 1 + j + 1 = bl (n / 2 ^ j) + j by omega]
  rw [bl_eq h3 h4]; omega
def tab8 : ByteArray := ByteArray.mk #[0, 1, 2, 2, 3, 3, 3, 3, 4, 4, 4, 4, 4, 4, 4, 4, 5, 5, 5, 5, 5, 5, 5, 5, 5, 5, 5, 5, 5, 5, 5, 5, 6, 6, 6, 6, 6, 6, 6, 6, 6, 6, 6, 6, 6, 6, 6, 6, 6, 6, 6, 6, 6, 6, 6, 6, 6, 6, 6, 6, 6, 6, 6, 6, 7, 7, 7, 7, 7, 7, 7, 7, 7, 7, 7, 7, 7, 7, 7, 7, 7, 7, 7, 7, 7, 7, 7, 7, 7, 7, 7, 7, 7, 7, 7, 7, 7, 7, 7, 7, 7, 7, 7, 7, 7, 7, 7, 7, 7, 7, 7, 7, 7, 7, 7, 7, 7, 7, 7, 7, 7, 7, 7, 7, 7, 7, 7, 7, 8, 8, 8, 8, 8, 8, 8, 8, 8, 8, 8, 8, 8, 8, 8, 8, 8, 8, 8, 8, 8, 8, 8, 8, 8, 8, 8, 8, 8, 8, 8, 8, 8, 8, 8, 8, 8, 8, 8, 8, 8, 8, 8, 8, 8, 8, 8, 8, 8, 8, 8, 8, 8, 8, 8, 8, 8, 8, 8, 8, 8, 8, 8, 8, 8, 8, 8, 8, 8, 8, 8, 8, 8, 8, 8, 8, 8, 8, 8, 8, 8, 8, 8, 8, 8, 8, 8, 8, 8, 8, 8, 8, 8, 8, 8, 8, 8, 8, 8, 8, 8, 8, 8, 8, 8, 8, 8, 8, 8, 8, 8, 8, 8, 8, 8, 8, 8, 8, 8, 8, 8, 8, 8, 8, 8, 8, 8, 8]
theorem tab8_at : ∀ y : Nat, y < 256 → bidx tab8 (y : Int) = some ((bl y : Nat) : Int) := by decide +kernel
theorem wu8n {y : Nat} (h : y < 256) : IntKind.u8.wrap (y : Int) = y := wu8 (by omega) (by omega)
theorem shrn (x j : Nat) (hj : j < 32) : ((x : Int).fdiv (2 ^ min (j : Int).toNat (IntKind.u32).bits)) = ((x / 2 ^ j : Nat) : Int) := by
  have e : min (j : Int).toNat (IntKind.u32).bits = j := by simp [IntKind.bits]; omega
  rw [e, Int.fdiv_eq_ediv_of_nonneg _ (by exact Int.le_of_lt (Int.pow_pos (by decide)))]
  norm_cast
theorem Len32_ok (x : Nat) (hx : x < B32) (n : Nat) : bits_Len32 n (x : Int) = some ((bl x : Nat) : Int) := by
  have h2 : ∀ (y k : Nat), y < 65536 → k ≤ 16 → ((cond (decide ((y : Int) ≥ 256))
    (some ((((y : Int).fdiv (2 ^ min (8 : Int).toNat (IntKind.u32).bits)), (IntKind.i64.wrap ((k : Int) + 8)))))
    (some (((y : Int), (k : Int)))) : Option (Int × Int)).bind fun (x592, x593) =>
    (bidx tab8 (IntKind.u8.wrap x592)).bind fun x596 =>
    some ((IntKind.i64.wrap (x593 + (IntKind.i64.wrap x596))))) = some ((bl y + k : Nat) : Int) := by
    intro y k hy hk
    by_cases h : 256 ≤ y
    · have hs := shrn y 8 (by omega)
      have hd : y / 2 ^ 8 < 256 := by omega
      have hb := bl_shift (n := y) (j := 8) (by omega)
      have hl := bl_le (n := y / 2 ^ 8) (k := 8) (by omega)
      rw [show decide ((y : Int) ≥ 256) = true from decide_eq_true (by omega), cond_true, Option.bind_some]
      dsimp only
      rw [show ((8 : Int)) = ((8 : Nat) : Int) from rfl, hs, wu8n hd, tab8_at _ hd, Option.bind_some, w64 (x := ((bl (y / 2 ^ 8) : Nat) : Int)) (by omega) (by omega), w64 (x := (k : Int) + ((8 : Nat) : Int)) (by omega) (by omega), w64 (by omega) (by omega)]
      congr 1; omega
    · have hd : y < 256 := by omega
      have hl := bl_le (n := y) (k := 8) (by omega)
      rw [show decide ((y : Int) ≥ 256) = false from decide_eq_false (by omega), cond_false, Option.bind_some]
      dsimp only
      rw [wu8n hd, tab8_at _ hd, Option.bind_some, w64 (x := ((bl y : Nat) : Int)) (by omega) (by omega), w64 (by omega) (by omega)]
      congr 1; omega
  have hT : bits_Len32 n (x : Int) = ((cond (decide ((x : Int) ≥ 65536))
    (some (((x : Int).fdiv (2 ^ min (16 : Int).toNat (IntKind.u32).bits)), 16))
    (some ((x : Int), 0)) : Option (Int × Int)).bind fun (x588, x589) =>
    (cond (decide (x588 ≥ 256))
    (some (((x588.fdiv (2 ^ min (8 : Int).toNat (IntKind.u32).bits)), (IntKind.i64.wrap (x589 + 8)))))
    (some ((x588, x589))) : Option (Int × Int)).bind fun (x592, x593) =>
    (bidx tab8 (IntKind.u8.wrap x592)).bind fun x596 =>
    some ((IntKind.i64.wrap (x593 + (IntKind.i64.wrap x596))))) := rfl
  rw [hT]
  by_cases h : 65536 ≤ x
  · have hs := shrn x 16 (by omega)
    simp only [B32] at hx
    have hb := bl_shift (n := x) (j := 16) (by omega)
    rw [show decide ((x : Int) ≥ 65536) = true from decide_eq_true (by omega), cond_true, Option.bind_some]
    dsimp only
    rw [show ((16 : Int)) = ((16 : Nat) : Int) from rfl, hs, h2 _ 16 (by omega) (by omega), hb]
  · rw [show decide ((x : Int) ≥ 65536) = false from decide_eq_false (by omega), cond_false, Option.bind_some]
    exact h2 x 0 (by omega) (by omega)
/-- A word of a number. -/
theorem at0_val {l : List Int} (h : Wd l) (i : Nat) : at0 l i = val l / B32 ^ i % B32 := by
  have e : val l = val (l.take i) + B32 ^ i * (at0 l i + B32 * val (l.drop (i + 1))) := by
    rcases Nat.lt_or_ge i l.length with hi | hi
    · have hx : l[i]? = some (l[i]'hi) := List.getElem?_eq_getElem hi
      have := val_split hx
      unfold at0
      rw [hx]; exact this
    · rw [at0_out hi, List.take_of_length_le hi, List.drop_eq_nil_of_le (by omega)]
      simp [val]
  have h1 : val (l.take i) < B32 ^ i := Nat.lt_of_lt_of_le (val_lt (h.take i)) (Nat.pow_le_pow_right (by decide) (by rw [List.length_take]; omega))
  have h2 := at0_lt h i
  rw [e, Nat.add_mul_div_left _ _ (Nat.pow_pos (by decide)), Nat.div_eq_of_lt h1, Nat.zero_add, Nat.add_mul_mod_self_left, Nat.mod_eq_of_lt h2]
theorem b32_pow (k : Nat) : B32 ^ k = 2 ^ (32 * k) := by rw [Nat.pow_mul]
end Go.Proofs.YthhghkcopfnbiaaGreatDoor

namespace Go.Proofs.YthhghkcopfnbiaaGreatDoor
open Go Go.Proofs.YthhghkcopfnbiaaGreatDoor.Gw
set_option linter.unusedVariables false

/- ### Division by a word -/
theorem u64_nat {n : Nat} (h : n < 18446744073709551616) : IntKind.u64.wrap (n : Int) = n := wu64 (by omega) (by omega)
theorem ofInt64 (n : Nat) : BitVec.ofInt 64 (n : Int) = BitVec.ofNat 64 n := by simp
theorem iu_or64 {a b : Nat} (ha : a < 2 ^ 64) (hb : b < 2 ^ 64) : ib .or .u64 (a : Int) b = ((a ||| b : Nat) : Int) := by
  have h : (BitVec.ofInt 64 (a : Int) ||| BitVec.ofInt 64 (b : Int)).toNat = a ||| b := by
    simp only [ofInt64, BitVec.toNat_or, BitVec.toNat_ofNat]
    rw [Nat.mod_eq_of_lt ha, Nat.mod_eq_of_lt hb]
  show IntKind.u64.wrap ((BitVec.ofInt 64 (a : Int) ||| BitVec.ofInt 64 (b : Int)).toNat : Int) = _
  rw [h, u64_nat (Nat.or_lt_two_pow (n := 64) ha hb)]
theorem or_add {h l : Nat} (hl : l < B32) : h * B32 ||| l = h * B32 + l := by
  have := Nat.shiftLeft_add_eq_or_of_lt (i := 32) (b := l) hl h
  rw [Nat.shiftLeft_eq] at this
  exact this.symm
/-- Two words side by side. -/
theorem two64 {h l : Nat} (hh : h < B32) (hl : l < B32) : ib .or .u64 (IntKind.u64.wrap ((h : Int) * 2 ^ min (32 : Int).toNat (IntKind.u64).bits)) (l : Int) = ((h * B32 + l : Nat) : Int) := by
  have hB : B32 = 4294967296 := rfl
  have : (2 : Int) ^ min (32 : Int).toNat (IntKind.u64).bits = ((B32 : Nat) : Int) := by decide
  rw [this, show (h : Int) * ((B32 : Nat) : Int) = ((h * B32 : Nat) : Int) from (Int.natCast_mul h B32).symm, u64_nat (by rw [hB] at hh ⊢; omega), iu_or64 (by rw [hB] at hh ⊢; omega) (by rw [hB] at hl; omega), or_add hl]
theorem tdiv_nat (a b : Nat) : (a : Int).tdiv (b : Int) = ((a / b : Nat) : Int) := (Int.ofNat_tdiv a b).symm
theorem tmod_nat (a b : Nat) : (a : Int).tmod (b : Int) = ((a % b : Nat) : Int) := (Int.ofNat_tmod a b).symm
theorem div32 (h l d n : Nat) (hh : h < d) (hl : l < B32) (hd : d < B32) : bits_Div32 n (h : Int) (l : Int) (d : Int) = some ((((h * B32 + l) / d : Nat) : Int), (((h * B32 + l) % d : Nat) : Int)) := by
  have hB : B32 = 4294967296 := rfl
  have h2 : h < B32 := Nat.lt_trans hh hd
  have hq : (h * B32 + l) / d < B32 := by
    rw [Nat.div_lt_iff_lt_mul (by omega)]
    have : (h + 1) * B32 ≤ d * B32 := Nat.mul_le_mul_right _ hh
    rw [Nat.add_mul, Nat.one_mul] at this
    rw [Nat.mul_comm B32]; omega
  have hr : (h * B32 + l) % d < d := Nat.mod_lt _ (by omega)
  have hm : h * B32 + l < 18446744073709551616 := by rw [hB] at h2 hl ⊢; omega
  unfold bits_Div32
  dsimp only
  rw [show ((d : Int) != 0) = true by simp; omega, cond_true, Option.bind_some, show decide ((d : Int) ≤ (h : Int)) = false from decide_eq_false (by omega), cond_false, Option.bind_some]
  rw [u64_nat (n := d) (by omega), u64_nat (n := h) (by omega), u64_nat (n := l) (by omega), two64 h2 hl, tdiv_nat, tmod_nat]
  rw [need_t (by simp; omega), Option.bind_some, Option.bind_some, u64_nat (n := (h * B32 + l) / d) (by omega), u32_nat hq, u32_nat (by omega)]
theorem val_drop (l : List Int) {i : Nat} (hw : Wd l) (hi : i < l.length) : val (l.drop i) = at0 l i + B32 * val (l.drop (i + 1)) := by
  rw [List.drop_eq_getElem_cons hi, val]
  unfold at0
  rw [List.getElem?_eq_getElem hi]; rfl
theorem drop_upd {l : List Int} (i : Nat) (x : Int) (j : Nat) (h : i < j) : (upd l (i : Int) x).drop j = l.drop j := by
  unfold upd
  rw [Int.toNat_natCast, List.drop_set, if_pos h]
theorem at0_upd_same {l : List Int} {i w : Nat} (h : i < l.length) : at0 (upd l (i : Int) (w : Int)) i = w := by rw [upd_at0 _ _ _ _ h, if_pos rfl]
theorem short_ok (a : List Int) (d : Nat) (ha : Wd a) (la : a.length ≤ 1000000) (h0 : 0 < d) (hd : d < B32) :
    ∃ q, Evt (fun n => integer_short n a (d : Int)) (q, ((val a % d : Nat) : Int)) ∧ Wd q ∧ val q = val a / d ∧ q.length = a.length := by
  suffices h : Tot (fun n => integer_short n a (d : Int)) (fun r => r.2 = ((val a % d : Nat) : Int) ∧ Wd r.1 ∧ val r.1 = val a / d ∧ r.1.length = a.length) by
    obtain ⟨⟨q, r⟩, he, hr, h⟩ := h
    exact ⟨q, by rw [← hr]; exact he, h⟩
  dsimp only [integer_short]
  have hmk : mk (a.length : Int) (0 : Int) = some (List.replicate a.length 0) := by unfold mk; rw [if_pos (by omega)]; congr 2
  refine Tot.bind (Tot.val hmk (Tot.bind (Tot.mono (Q' := fun r : List Int × Int => r.2 = ((val a % d : Nat) : Int) ∧ Wd r.1 ∧ val r.1 = val a / d ∧ r.1.length = a.length) ?_ fun r h => ?_)))
  rotate_left
  · obtain ⟨r1, r2⟩ := r; exact Tot.ret h
  rw [w64 (by omega) (by omega)]
  refine Tot.loop (fun s : List Int × Int × Int => ∃ i r : Nat, s.2 = ((r : Int), (i : Int) - 1) ∧ i ≤ a.length ∧ r < d ∧ s.1.length = a.length ∧ Wd s.1 ∧ val (s.1.drop i) = val (a.drop i) / d ∧ r = val (a.drop i) % d) (fun s => (s.2.2 + 1).toNat)
    ⟨a.length, 0, rfl, Nat.le_refl _, h0, by simp, fun x hx => by have := List.eq_of_mem_replicate hx; omega, by simp [val], by simp [val]⟩ ?_
  rintro ⟨out, _⟩ ⟨i, r, rfl, hi, hr, hl, hw, hq, hm⟩
  dsimp only [integer_short_L1] at *
  refine Tot.condD (fun hc => ?_) (fun hc => ?_)
  · obtain ⟨i, rfl⟩ : ∃ j, i = j + 1 := ⟨i - 1, by omega⟩
    have e : (((i + 1 : Nat) : Int) - 1) = (i : Int) := by omega
    have hx := at0_lt ha i
    rw [e]
    refine Tot.idxv (at0_idx ha (by omega)) (Tot.bind (Tot.at_ (fun n => div32 r (at0 a i) d n hr hx hd) (Tot.idxv (at0_idx hw (by omega)) (Tot.ret ?_))))
    rw [w64 (by omega) (by omega)]
    have hqd : (r * B32 + at0 a i) / d < B32 := by
      rw [Nat.div_lt_iff_lt_mul (by omega)]
      have : (r + 1) * B32 ≤ d * B32 := Nat.mul_le_mul_right _ hr
      rw [Nat.add_mul, Nat.one_mul] at this
      rw [Nat.mul_comm B32]; omega
    have hv := val_drop a ha (i := i) (by omega)
    have key : val (a.drop i) = d * (B32 * (val (a.drop (i + 1)) / d)) + (r * B32 + at0 a i) := by
      have h3 := Nat.div_add_mod (val (a.drop (i + 1))) d
      rw [← hm] at h3
      rw [hv]
      conv => lhs; rw [← h3]
      rw [Nat.mul_add, Nat.mul_left_comm, Nat.mul_comm B32 r]; omega
    refine ⟨⟨i, (r * B32 + at0 a i) % d, rfl, by omega, Nat.mod_lt _ h0, by rw [upd_len]; exact hl, hw.upd i hqd, ?_, ?_⟩, (by first | omega | (dsimp only; omega) | (simp; done) | (simp; omega))⟩
    · rw [val_drop _ (hw.upd i hqd) (by rw [upd_len]; omega), at0_upd_same (by omega), drop_upd i _ (i + 1) (by omega), hq, key, Nat.mul_add_div h0]
      omega
    · rw [key, Nat.mul_add_mod]
  · have h1 : i = 0 := by omega
    subst h1
    rw [List.drop_zero] at *
    exact Tot.ret ⟨by rw [hm], hw, by simpa using hq, hl⟩
/- ### Bits moved up -/
theorem shifted_ok (a : List Int) (k : Nat) (ha : Wd a) (la : a.length ≤ 1000000) (hk : k < 32) :
    ∃ r, Evt (fun n => integer_shifted n a (k : Int)) r ∧ Wd r ∧ val r = val a * 2 ^ k ∧ r.length = a.length + 1 := by
  suffices h : Tot (fun n => integer_shifted n a (k : Int)) (fun r => Wd r ∧ val r = val a * 2 ^ k ∧ r.length = a.length + 1) from h
  dsimp only [integer_shifted]
  have hmk : mk (IntKind.i64.wrap ((a.length : Int) + 1)) (0 : Int) = some (List.replicate (a.length + 1) 0) := by
    rw [w64 (by omega) (by omega)]; unfold mk; rw [if_pos (by omega)]; congr 2
  refine Tot.bind (Tot.val hmk (Tot.bind (Tot.mono (Q' := fun r => Wd r ∧ val r = val a * 2 ^ k ∧ r.length = a.length + 1) ?_ fun r h => Tot.ret h)))
  have hB : B32 = 4294967296 := rfl
  have hkp : 2 ^ k * 2 ^ (32 - k) = B32 := by rw [← Nat.pow_add, show k + (32 - k) = 32 by omega]
  have hk0 : 0 < 2 ^ k := Nat.pow_pos (by decide)
  have hkB : 2 ^ k ≤ 2147483648 := by have := Nat.pow_le_pow_right (n := 2) (by decide) (show k ≤ 31 by omega); simpa using this
  refine Tot.loop (fun s : List Int × Int => ∃ i : Nat, s.2 = (i : Int) ∧ i ≤ a.length ∧ s.1.length = a.length + 1 ∧ Wd s.1 ∧ val s.1 = val (a.take i) * 2 ^ k ∧ at0 s.1 i < 2 ^ k ∧ ∀ j, i < j → at0 s.1 j = 0) (fun s => a.length - s.2.toNat)
    ⟨0, rfl, by omega, by simp, fun x hx => by have := List.eq_of_mem_replicate hx; omega, by rw [zeros_val]; simp [val], by rw [zeros_at0]; exact hk0, fun j _ => zeros_at0 _ j⟩ ?_
  rintro ⟨out, _⟩ ⟨i, rfl, hi, hl, hw, hv, h1, h2⟩
  dsimp only [integer_shifted_L1] at *
  refine Tot.condD (fun hlt => ?_) (fun hlt => ?_)
  · have hx := at0_lt ha i
    have ex : min (k : Int).toNat (IntKind.u64).bits = k := by simp [IntKind.bits]; omega
    have em : (IntKind.u64.wrap ((IntKind.u64.wrap ((at0 a i : Nat) : Int)) * 2 ^ min (k : Int).toNat (IntKind.u64).bits)) = ((at0 a i * 2 ^ k : Nat) : Int) := by
      rw [ex, u64_nat (by omega)]
      rw [show ((at0 a i : Nat) : Int) * 2 ^ k = ((at0 a i * 2 ^ k : Nat) : Int) by push_cast; rfl]
      refine u64_nat ?_
      have := Nat.mul_le_mul (Nat.le_of_lt hx) hkB
      rw [hB] at this; omega
    refine Tot.idxv (at0_idx ha (by omega)) (Tot.need (by omega) (Tot.idxv (at0_idx hw (by omega)) (Tot.idxv (at0_idx hw (by omega)) ?_)))
    rw [em, wu32_nat, shr32]
    generalize hz : at0 a i = z at *
    have ht : z * 2 ^ k = B32 * (z * 2 ^ k / B32) + z * 2 ^ k % B32 := (Nat.div_add_mod _ _).symm
    have hlow : z * 2 ^ k % B32 = (z % 2 ^ (32 - k)) * 2 ^ k := by
      rw [← hkp, Nat.mul_comm (2 ^ k) (2 ^ (32 - k)), Nat.mul_mod_mul_right]
    have hhigh : z * 2 ^ k / B32 < 2 ^ k := by
      rw [Nat.div_lt_iff_lt_mul (by decide), Nat.mul_comm (2 ^ k)]
      exact Nat.mul_lt_mul_of_pos_right hx hk0
    have hor : ib .or .u32 ((at0 out i : Nat) : Int) ((z * 2 ^ k % B32 : Nat) : Int) = ((at0 out i + z * 2 ^ k % B32 : Nat) : Int) := by
      rw [iu_or (at0_lt hw i) (Nat.mod_lt _ (by decide)), hlow]
      have := Nat.shiftLeft_add_eq_or_of_lt (i := k) (b := at0 out i) h1 (z % 2 ^ (32 - k))
      rw [Nat.shiftLeft_eq] at this
      rw [Nat.or_comm, ← this, Nat.add_comm]
    have hsum : at0 out i + z * 2 ^ k % B32 < B32 := by
      rw [hlow]
      have h3 : z % 2 ^ (32 - k) + 1 ≤ 2 ^ (32 - k) := Nat.mod_lt _ (Nat.pow_pos (by decide))
      have h4 := Nat.mul_le_mul_right (2 ^ k) h3
      rw [Nat.add_mul, Nat.one_mul, Nat.mul_comm (2 ^ (32 - k)), hkp] at h4
      omega
    rw [hor]
    have hw1 := hw.upd i hsum
    have hl1 : (upd out (i : Int) ((at0 out i + z * 2 ^ k % B32 : Nat) : Int)).length = a.length + 1 := by rw [upd_len]; exact hl
    have e1 : IntKind.i64.wrap ((i : Int) + 1) = ((i + 1 : Nat) : Int) := by rw [w64 (by omega) (by omega)]; omega
    rw [e1]
    refine Tot.idxv (at0_idx hw1 (by omega)) (Tot.ret ?_)
    have hhB : z * 2 ^ k / B32 < B32 := by rw [hB] at *; omega
    rw [u32_nat hhB]
    refine ⟨⟨i + 1, rfl, by omega, by rw [upd_len]; exact hl1, hw1.upd _ hhB, ?_, ?_, ?_⟩, (by first | omega | (dsimp only; omega) | (simp; done) | (simp; omega))⟩
    · have a1 := val_upd out i (at0 out i + z * 2 ^ k % B32) (by omega)
      have a2 := val_upd (upd out (i : Int) ((at0 out i + z * 2 ^ k % B32 : Nat) : Int)) (i + 1) (z * 2 ^ k / B32) (by omega)
      have a3 : at0 (upd out (i : Int) ((at0 out i + z * 2 ^ k % B32 : Nat) : Int)) (i + 1) = 0 := by rw [upd_at0 _ _ _ _ (by omega), if_neg (by omega)]; exact h2 _ (by omega)
      rw [a3, Nat.mul_zero, Nat.add_zero] at a2
      rw [a2]
      rw [Nat.mul_add] at a1
      rw [val_take, hz, Nat.add_mul, ← hv, Nat.mul_assoc (B32 ^ i) z]
      have h5 : B32 ^ i * (z * 2 ^ k) = B32 ^ (i + 1) * (z * 2 ^ k / B32) + B32 ^ i * (z * 2 ^ k % B32) := by
        conv => lhs; rw [ht, Nat.mul_add, ← Nat.mul_assoc, ← Nat.pow_succ]
      omega
    · rw [upd_at0 _ _ _ _ (by omega), if_pos rfl]; exact hhigh
    · intro j hj
      rw [upd_at0 _ _ _ _ (by omega), if_neg (by omega), upd_at0 _ _ _ _ (by omega), if_neg (by omega)]
      exact h2 j (by omega)
  · obtain rfl : i = a.length := by omega
    rw [List.take_length] at hv
    exact Tot.ret ⟨hw, hv, hl⟩
end Go.Proofs.YthhghkcopfnbiaaGreatDoor

namespace Go.Proofs.YthhghkcopfnbiaaGreatDoor
open Go Go.Proofs.YthhghkcopfnbiaaGreatDoor.Gw
set_option linter.unusedVariables false

/- ### Long division: numbers -/
theorem guess_first {U V P : Nat} (hv : 0 < V / P) (hP : 0 < P) : U / V ≤ U / P / (V / P) := by
  rw [Nat.le_div_iff_mul_le hv, Nat.le_div_iff_mul_le hP, Nat.mul_assoc]
  exact Nat.le_trans (Nat.mul_le_mul_left _ (Nat.div_mul_le_self V P)) (Nat.div_mul_le_self U V)
theorem guess_down {U V P2 v1 v2 g rest top u2 : Nat} (hP : 0 < P2) (hV : V / P2 = v1 * B32 + v2) (hU : U / P2 = top * B32 + u2) (hg : g * v1 + rest = top) (hV0 : 0 < V) (ht : rest * B32 + u2 < g * v2) : U / V < g := by
  rcases Nat.lt_or_ge (U / V) g with h | h
  · exact h
  · exfalso
    have h1 : g * V ≤ U := (Nat.le_div_iff_mul_le hV0).1 h
    have h2 : g * (V / P2) ≤ U / P2 := by
      rw [Nat.le_div_iff_mul_le hP, Nat.mul_assoc]
      exact Nat.le_trans (Nat.mul_le_mul_left _ (Nat.div_mul_le_self V P2)) h1
    rw [hV, hU, ← hg, Nat.mul_add, Nat.add_mul, ← Nat.mul_assoc] at h2
    omega
theorem guess_up {U V P2 v1 v2 g rest top u2 : Nat} (hP : 0 < P2) (hV : V / P2 = v1 * B32 + v2) (hU : U / P2 = top * B32 + u2) (hg : g * v1 + rest = top) (hgP : g * P2 ≤ V) (ht : g * v2 ≤ rest * B32 + u2) : g * V ≤ U + V := by
  have h2 : g * (V / P2) ≤ U / P2 := by
    rw [hV, hU, ← hg, Nat.mul_add, Nat.add_mul, ← Nat.mul_assoc]; omega
  have h3 : g * (V / P2) * P2 ≤ U := (Nat.le_div_iff_mul_le hP).1 h2
  have h4 : V ≤ V / P2 * P2 + P2 := by
    have := Nat.div_add_mod V P2
    have := Nat.mod_lt V hP
    rw [Nat.mul_comm (V / P2)]; omega
  have h5 := Nat.mul_le_mul_left g h4
  rw [Nat.mul_add, ← Nat.mul_assoc] at h5
  omega
/-- The highest words of a number that is not too great. -/
theorem top_words {U P2 : Nat} (hP : 0 < P2) (h : U / P2 < B32 * B32 * B32) : U / P2 = ((U / (P2 * B32 * B32) % B32) * B32 + U / (P2 * B32) % B32) * B32 + U / P2 % B32 := by
  rw [← Nat.div_div_eq_div_mul, ← Nat.div_div_eq_div_mul]
  generalize U / P2 = y at *
  simp only [B32] at *
  omega
theorem val_zero : ∀ {l : List Int}, Wd l → (∀ t, at0 l t = 0) → val l = 0
  | [], _, _ => rfl
  | x :: l, h, hz => by
    rw [val]
    have h0 := hz 0
    have e : at0 (x :: l) 0 = x.toNat := by unfold at0; simp
    rw [e] at h0
    rw [h0, val_zero h.cons.2 (fun t => by have := hz (t + 1); unfold at0 at this ⊢; simpa using this)]
    simp
theorem val_high {l : List Int} (h : Wd l) {s : Nat} (hz : ∀ t, s ≤ t → at0 l t = 0) : val l < B32 ^ s := by
  have e : l = l.take s ++ l.drop s := (List.take_append_drop s l).symm
  have h1 := val_lt (h.take s)
  have h2 : val (l.drop s) = 0 := val_zero (fun x hx => h x (List.mem_of_mem_drop hx)) (fun t => by
    have := hz (s + t) (by omega)
    unfold at0 at this ⊢
    rw [List.getElem?_drop]; exact this)
  have h3 : val l = val (l.take s) := by conv => lhs; rw [e]
                                         rw [val_app, h2, Nat.mul_zero, Nat.add_zero]
  rw [h3]
  exact Nat.lt_of_lt_of_le h1 (Nat.pow_le_pow_right (by decide) (by rw [List.length_take]; omega))
theorem at0_high {l : List Int} (h : Wd l) {s t : Nat} (hv : val l < B32 ^ s) (ht : s ≤ t) : at0 l t = 0 := by
  rw [at0_val h, Nat.div_eq_of_lt (Nat.lt_of_lt_of_le hv (Nat.pow_le_pow_right (by decide) ht))]; rfl
theorem idx_at {l : List Int} (h : Wd l) {z : Int} {i : Nat} (hz : z = (i : Int)) (hi : i < l.length) : idx l z = some ((at0 l i : Nat) : Int) := by subst hz; exact at0_idx h hi
set_option maxRecDepth 20000 in
/-- The guess of a digit, made less until it is right or too great by one. -/
theorem guess_ok (v u : List Int) (j k : Nat) (hv : Wd v) (hu : Wd u) (hk : v.length = k) (k2 : 2 ≤ k) (hj : j + k < u.length) (lu : u.length ≤ 1000000)
    (hv1 : 0 < at0 v (k - 1)) (hU : val u < B32 ^ (j + 1) * val v) (q : Nat) (hq : q = val u / B32 ^ j / val v) :
    Tot (fun n => loopN (integer_divide_L91 v u (j : Int)) n ((((at0 u (j + k) * B32 + at0 u (j + k - 1)) / at0 v (k - 1) : Nat) : Int), (((at0 u (j + k) * B32 + at0 u (j + k - 1)) % at0 v (k - 1) : Nat) : Int)))
      (fun g => ∃ g' : Nat, g = (g' : Int) ∧ q ≤ g' ∧ g' * val v ≤ val u / B32 ^ j + val v ∧ g' < B32) := by
  have hB : B32 = 4294967296 := rfl
  have hp : ∀ e, 0 < B32 ^ e := fun e => Nat.pow_pos (by decide)
  have hV0 : 0 < val v := by
    rcases Nat.eq_zero_or_pos (val v) with h | h
    · rw [at0_val hv, h, Nat.zero_div] at hv1; simp at hv1
    · exact h
  have hVk := val_lt hv
  rw [hk] at hVk
  -- the window
  have hUw : val u / B32 ^ j < B32 * val v := by
    rw [Nat.div_lt_iff_lt_mul (hp j), Nat.mul_right_comm, Nat.mul_comm B32, ← Nat.pow_succ]; exact hU
  have hUk : val u / B32 ^ j < B32 ^ (k + 1) := Nat.lt_of_lt_of_le hUw (by rw [Nat.pow_succ, Nat.mul_comm]; exact Nat.mul_le_mul_right _ (Nat.le_of_lt hVk))
  have hqB : q < B32 := by rw [hq, Nat.div_lt_iff_lt_mul hV0]; exact hUw
  have e1 : k - 2 + 1 = k - 1 := by omega
  have e2 : k - 2 + 1 + 1 = k := by omega
  have hPP : B32 ^ (k - 2) * B32 = B32 ^ (k - 1) := by rw [← Nat.pow_succ, Nat.succ_eq_add_one, e1]
  have hPP2 : B32 ^ (k - 1) * B32 = B32 ^ k := by rw [← Nat.pow_succ]; congr 1; omega
  have atu : ∀ t, at0 u (j + t) = val u / B32 ^ j / B32 ^ t % B32 := fun t => by rw [at0_val hu, Nat.pow_add, ← Nat.div_div_eq_div_mul]
  have hUP : val u / B32 ^ j / B32 ^ (k - 2) < B32 * B32 * B32 := by
    rw [Nat.div_lt_iff_lt_mul (hp _)]
    rw [show k + 1 = (k - 2) + 1 + 1 + 1 by omega, Nat.pow_succ, Nat.pow_succ, Nat.pow_succ] at hUk
    rw [show B32 * B32 * B32 * B32 ^ (k - 2) = B32 ^ (k - 2) * B32 * B32 * B32 by ac_rfl]
    exact hUk
  have hVP : val v / B32 ^ (k - 2) < B32 * B32 := by
    rw [Nat.div_lt_iff_lt_mul (hp _)]
    rw [show k = (k - 2) + 1 + 1 by omega, Nat.pow_succ, Nat.pow_succ] at hVk
    rw [show B32 * B32 * B32 ^ (k - 2) = B32 ^ (k - 2) * B32 * B32 by ac_rfl]
    simpa using hVk
  have tw := top_words (hp (k - 2)) hUP
  rw [hPP, hPP2, ← atu, ← atu, ← atu] at tw
  have tv : val v / B32 ^ (k - 2) = at0 v (k - 1) * B32 + at0 v (k - 2) := by
    rw [at0_val hv, at0_val hv, ← hPP, ← Nat.div_div_eq_div_mul]
    generalize val v / B32 ^ (k - 2) = y at *
    simp only [B32] at *; omega
  rw [show j + (k - 1) = j + k - 1 by omega, show j + (k - 2) = j + k - 2 by omega] at tw
  have hv1B := at0_lt hv (k - 1)
  have hv2B := at0_lt hv (k - 2)
  have hu0B := at0_lt hu (j + k)
  have hu1B := at0_lt hu (j + k - 1)
  have hu2B := at0_lt hu (j + k - 2)
  have vP : val v / B32 ^ (k - 1) = at0 v (k - 1) := by
    rw [← hPP, ← Nat.div_div_eq_div_mul, tv]; simp only [B32] at *; omega
  have uP : val u / B32 ^ j / B32 ^ (k - 1) = at0 u (j + k) * B32 + at0 u (j + k - 1) := by
    rw [← hPP, ← Nat.div_div_eq_div_mul, tw]; simp only [B32] at *; omega
  have g0 := guess_first (U := val u / B32 ^ j) (V := val v) (P := B32 ^ (k - 1)) (by rw [vP]; exact hv1) (hp _)
  rw [vP, uP, ← hq] at g0
  -- the highest two words are not too great
  have htop : at0 u (j + k) * B32 + at0 u (j + k - 1) < B32 * (at0 v (k - 1) + 1) := by
    rw [← uP, Nat.div_lt_iff_lt_mul (hp _), Nat.mul_assoc]
    refine Nat.lt_of_lt_of_le hUw (Nat.mul_le_mul_left _ ?_)
    rw [← vP]
    have := Nat.div_add_mod (val v) (B32 ^ (k - 1))
    have := Nat.mod_lt (val v) (hp (k - 1))
    rw [Nat.add_mul, Nat.mul_comm (_ / _)]; omega
  have hB2 : ∀ g, g ≤ B32 → g * B32 ^ (k - 2) ≤ val v := fun g hg => by
    refine Nat.le_trans (Nat.mul_le_mul_right _ hg) ?_
    rw [Nat.mul_comm, hPP]
    have h3 : 1 ≤ val v / B32 ^ (k - 1) := by rw [vP]; exact hv1
    have := (Nat.le_div_iff_mul_le (hp (k - 1))).1 h3
    omega
  obtain ⟨top, htv⟩ : ∃ t, at0 u (j + k) * B32 + at0 u (j + k - 1) = t := ⟨_, rfl⟩
  obtain ⟨v1, htv1⟩ : ∃ t, at0 v (k - 1) = t := ⟨_, rfl⟩
  rw [htv] at tw uP g0 htop ⊢
  rw [htv1] at hv1 tv hv1B vP g0 htop ⊢
  have htopB : top < B32 * B32 := by rw [← htv, hB]; rw [hB] at hu0B hu1B; omega
  have init : (fun s : Int × Int => ∃ g rest : Nat, s = ((g : Int), (rest : Int)) ∧ g * v1 + rest = top ∧ q ≤ g ∧ rest < B32) (((top / v1 : Nat) : Int), ((top % v1 : Nat) : Int)) :=
    ⟨top / v1, top % v1, rfl, by rw [Nat.mul_comm]; exact Nat.div_add_mod top v1, g0, Nat.lt_trans (Nat.mod_lt _ hv1) hv1B⟩
  refine Tot.loop0 (fun s : Int × Int => ∃ g rest : Nat, s = ((g : Int), (rest : Int)) ∧ g * v1 + rest = top ∧ q ≤ g ∧ rest < B32) (fun s => s.1.toNat) init ?_
  rintro _ ⟨g, rest, rfl, hg, hqg, hr⟩
  dsimp only [integer_divide_L91]
  have i2 : IntKind.i64.wrap ((v.length : Int) - 2) = ((k - 2 : Nat) : Int) := by rw [w64 (by omega) (by omega)]; omega
  have i1 : IntKind.i64.wrap ((v.length : Int) - 1) = ((k - 1 : Nat) : Int) := by rw [w64 (by omega) (by omega)]; omega
  have i3 : IntKind.i64.wrap ((IntKind.i64.wrap ((j : Int) + (v.length : Int))) - 2) = ((j + k - 2 : Nat) : Int) := by rw [w64 (x := (j : Int) + (v.length : Int)) (by omega) (by omega), w64 (by omega) (by omega)]; omega
  have hgt : g ≤ top := by rw [← hg]; exact Nat.le_trans (Nat.le_mul_of_pos_right g hv1) (Nat.le_add_right _ _)
  rw [i1, i2, i3]
  refine Tot.cut (decide (B32 ≤ g ∨ rest * B32 + at0 u (j + k - 2) < g * at0 v (k - 2))) ?_ ?_
  · refine Tot.condD (fun h => Tot.ret ?_) (fun h => ?_)
    · rw [decide_eq_true]; left; rw [hB]; omega
    · have hgB : g < B32 := by rw [hB]; omega
      have hm := (mul_bound hgB hv2B (show 0 < B32 by decide) (show 0 < B32 by decide)).1
      refine Tot.idxv (idx_at hv rfl (by omega)) (Tot.idxv (idx_at hu rfl (by omega)) (Tot.ret ?_))
      rw [u64_nat (n := at0 v (k - 2)) (by rw [hB] at hv2B; omega), show ((g : Int) * ((at0 v (k - 2) : Nat) : Int)) = ((g * at0 v (k - 2) : Nat) : Int) from (Int.natCast_mul _ _).symm, u64_nat (by omega), u64_nat (n := at0 u (j + k - 2)) (by rw [hB] at hu2B; omega), two64 hr hu2B]
      rw [decide_eq_decide]
      constructor
      · intro h4; right; exact Int.ofNat_lt.1 h4
      · rintro (h4 | h4)
        · exact absurd hgB (Nat.not_lt.2 h4)
        · exact Int.ofNat_lt.2 h4
  · refine Tot.condD (fun ht => ?_) (fun ht => Tot.ret ⟨g, rfl, hqg, ?_, ?_⟩)
    · have hqg2 : q < g := by
        rcases ht with ht | ht
        · omega
        · rw [hq]; exact guess_down (hp (k - 2)) tv tw hg hV0 ht
      refine Tot.idxv (idx_at hv rfl (by omega)) ?_
      rw [htv1, u64_nat (n := v1) (by rw [hB] at hv1B; omega), show ((rest : Int) + (v1 : Int)) = ((rest + v1 : Nat) : Int) from (Int.natCast_add _ _).symm, u64_nat (n := rest + v1) (by rw [hB] at hv1B hr; omega)]
      have eg : IntKind.u64.wrap ((g : Int) - 1) = ((g - 1 : Nat) : Int) := by rw [show (g : Int) - 1 = ((g - 1 : Nat) : Int) by omega]; exact u64_nat (by rw [hB] at htopB; omega)
      rw [eg]
      have hg2 : (g - 1) * v1 + (rest + v1) = top := by
        rw [← hg, Nat.sub_mul, Nat.one_mul]
        have := Nat.le_mul_of_pos_left v1 (show 0 < g by omega)
        omega
      refine Tot.condD (fun hb => Tot.ret ⟨g - 1, rfl, by omega, ?_, ?_⟩) (fun hb => Tot.ret ⟨⟨g - 1, rest + v1, rfl, hg2, by omega, by rw [hB]; omega⟩, ?_⟩)
      · have hlt : g - 1 < B32 := by
          have : (g - 1) * v1 < B32 * v1 := by rw [Nat.mul_add, Nat.mul_one] at htop; rw [hB] at htop ⊢; omega
          exact Nat.lt_of_mul_lt_mul_right this
        refine guess_up (hp (k - 2)) tv tw hg2 (hB2 _ (Nat.le_of_lt hlt)) ?_
        have h5 : (g - 1) * at0 v (k - 2) ≤ B32 * B32 := Nat.mul_le_mul (Nat.le_of_lt hlt) (Nat.le_of_lt hv2B)
        have h6 : B32 * B32 ≤ (rest + v1) * B32 := Nat.mul_le_mul_right _ (by rw [hB]; omega)
        omega
      · have : (g - 1) * v1 < B32 * v1 := by rw [Nat.mul_add, Nat.mul_one] at htop; rw [hB] at htop ⊢; omega
        exact Nat.lt_of_mul_lt_mul_right this
      · show ((g - 1 : Nat) : Int).toNat < ((g : Nat) : Int).toNat
        omega
    · refine guess_up (hp (k - 2)) tv tw hg (hB2 _ (by omega)) (by omega)
    · omega
end Go.Proofs.YthhghkcopfnbiaaGreatDoor

namespace Go.Proofs.YthhghkcopfnbiaaGreatDoor
open Go Go.Proofs.YthhghkcopfnbiaaGreatDoor.Gw
set_option linter.unusedVariables false

theorem i64n {z : Int} {n : Nat} (h : z = (n : Int)) (hn : n < 9223372036854775808) : IntKind.i64.wrap z = (n : Int) := by subst h; exact w64 (by omega) (by omega)
/-- The product of a digit and the divisor is taken away. -/
theorem subtract_ok (v u : List Int) (j k g : Nat) (hv : Wd v) (hu : Wd u) (hk : v.length = k) (hj : j + k < u.length) (lu : u.length ≤ 1000000) (hg : g < B32) :
    Tot (fun n => loopN (integer_divide_L93 n v (j : Int) (g : Int)) n (u, 0, 0, 0))
      (fun r => ∃ c b : Nat, r.2 = ((c : Int), (b : Int)) ∧ c < B32 ∧ b ≤ 1 ∧ r.1.length = u.length ∧ Wd r.1 ∧ val r.1 + B32 ^ j * (g * val v) = val u + B32 ^ (j + k) * (c + b) ∧ ∀ t, j + k ≤ t → at0 r.1 t = at0 u t) := by
  have hB : B32 = 4294967296 := rfl
  refine Tot.loop (fun s : List Int × Int × Int × Int => ∃ c b i : Nat, s.2 = ((c : Int), (b : Int), (i : Int)) ∧ c < B32 ∧ b ≤ 1 ∧ i ≤ k ∧ s.1.length = u.length ∧ Wd s.1 ∧ val s.1 + B32 ^ j * (g * val (v.take i)) = val u + B32 ^ (j + i) * (c + b) ∧ ∀ t, j + i ≤ t → at0 s.1 t = at0 u t) (fun s => k - s.2.2.2.toNat)
    ⟨0, 0, 0, rfl, by decide, by omega, by omega, rfl, hu, by simp [val], fun t _ => rfl⟩ ?_
  rintro ⟨w, _⟩ ⟨c, b, i, rfl, hc, hb, hi, hl, hw, hval, hat⟩
  dsimp only [integer_divide_L93] at *
  refine Tot.condD (fun hlt => ?_) (fun hlt => ?_)
  · have hx := at0_lt hv i
    have hm := mul_bound hg hx hc (show 0 < B32 by decide)
    have hp : g * at0 v i + c < 18446744073709551616 := by have := hm.2.1; omega
    have hp2 : (g * at0 v i + c) / B32 < B32 := by have := hm.2.2; simpa using this
    have eij : IntKind.i64.wrap ((i : Int) + (j : Int)) = ((j + i : Nat) : Int) := i64n (by omega) (by omega)
    have hgx : g * at0 v i < 18446744073709551616 := by omega
    rw [eij]
    refine Tot.idxv (idx_at hv rfl (by omega)) (Tot.idxv (idx_at hw rfl (by omega)) ?_)
    rw [u64_nat (n := at0 v i) (by rw [hB] at hx; omega), show ((g : Int) * ((at0 v i : Nat) : Int)) = ((g * at0 v i : Nat) : Int) from (Int.natCast_mul _ _).symm, u64_nat hgx,
      show (((g * at0 v i : Nat) : Int) + (c : Int)) = ((g * at0 v i + c : Nat) : Int) from (Int.natCast_add _ _).symm, u64_nat hp, wu32_nat, shr32]
    refine Tot.bind (Tot.at_ (fun n => sub32 _ _ _ n (at0_lt hw (j + i)) (Nat.mod_lt _ (show 0 < B32 by decide)) hb) (Tot.idxv (idx_at hw rfl (by omega)) (Tot.ret ?_)))
    have e1 : IntKind.i64.wrap ((i : Int) + 1) = ((i + 1 : Nat) : Int) := i64n (by omega) (by omega)
    rw [e1]
    have hbe := borrow_eq (p := B32 ^ (j + i)) (at0_lt hw (j + i)) (Nat.mod_lt (g * at0 v i + c) (show 0 < B32 by decide)) hb
    have hd : (at0 w (j + i) + B32 + B32 - (g * at0 v i + c) % B32 - b) % B32 < B32 := Nat.mod_lt _ (by decide)
    generalize (at0 w (j + i) + B32 + B32 - (g * at0 v i + c) % B32 - b) % B32 = d at *
    have hb2 : (if at0 w (j + i) < (g * at0 v i + c) % B32 + b then 1 else 0) ≤ 1 := by split <;> omega
    generalize (if at0 w (j + i) < (g * at0 v i + c) % B32 + b then 1 else 0) = b2 at *
    have hvu := val_upd w (j + i) d (by omega)
    refine ⟨⟨_, b2, i + 1, rfl, hp2, hb2, by omega, by rw [upd_len]; exact hl, hw.upd _ hd, ?_, fun t ht => ?_⟩, (by first | omega | (dsimp only; omega) | (simp; done) | (simp; omega))⟩
    · rw [val_take, show j + (i + 1) = j + i + 1 by omega, Nat.pow_succ]
      have hce := carry_eq (B32 ^ (j + i)) (g * at0 v i + c)
      have a1 : B32 ^ j * (g * (val (v.take i) + B32 ^ i * at0 v i)) = B32 ^ j * (g * val (v.take i)) + B32 ^ (j + i) * (g * at0 v i) := by
        rw [Nat.mul_add, Nat.mul_add, Nat.pow_add, Nat.mul_left_comm g (B32 ^ i), Nat.mul_assoc (B32 ^ j)]
      rw [a1]
      rw [Nat.mul_add] at hval hce ⊢
      dsimp only
      omega
    · rw [upd_at0 _ _ _ _ (by omega), if_neg (by omega)]; exact hat t (by omega)
  · obtain rfl : i = k := by omega
    rw [List.take_of_length_le (by omega)] at hval
    exact Tot.ret ⟨c, b, rfl, hc, hb, hl, hw, hval, hat⟩
/-- The divisor is given back. -/
theorem giveback_ok (v u : List Int) (j k : Nat) (hv : Wd v) (hu : Wd u) (hk : v.length = k) (hj : j + k < u.length) (lu : u.length ≤ 1000000) :
    Tot (fun n => loopN (integer_divide_L97 n v (j : Int)) n (u, 0, 0))
      (fun r => ∃ c : Nat, r.2 = (c : Int) ∧ c ≤ 1 ∧ r.1.length = u.length ∧ Wd r.1 ∧ val r.1 + B32 ^ (j + k) * c = val u + B32 ^ j * val v ∧ ∀ t, j + k ≤ t → at0 r.1 t = at0 u t) := by
  have hB : B32 = 4294967296 := rfl
  refine Tot.loop (fun s : List Int × Int × Int => ∃ c i : Nat, s.2 = ((c : Int), (i : Int)) ∧ c ≤ 1 ∧ i ≤ k ∧ s.1.length = u.length ∧ Wd s.1 ∧ val s.1 + B32 ^ (j + i) * c = val u + B32 ^ j * val (v.take i) ∧ ∀ t, j + i ≤ t → at0 s.1 t = at0 u t) (fun s => k - s.2.2.toNat)
    ⟨0, 0, rfl, by omega, by omega, rfl, hu, by simp [val], fun t _ => rfl⟩ ?_
  rintro ⟨w, _⟩ ⟨c, i, rfl, hc, hi, hl, hw, hval, hat⟩
  dsimp only [integer_divide_L97] at *
  refine Tot.condD (fun hlt => ?_) (fun hlt => ?_)
  · have hx := at0_lt hv i
    have eij : IntKind.i64.wrap ((i : Int) + (j : Int)) = ((j + i : Nat) : Int) := i64n (by omega) (by omega)
    rw [eij]
    refine Tot.idxv (idx_at hv rfl (by omega)) (Tot.idxv (idx_at hw rfl (by omega)) ?_)
    refine Tot.bind (Tot.at_ (fun n => add32 _ _ _ n (at0_lt hw (j + i)) hx hc) (Tot.idxv (idx_at hw rfl (by omega)) (Tot.ret ?_)))
    have e1 : IntKind.i64.wrap ((i : Int) + 1) = ((i + 1 : Nat) : Int) := i64n (by omega) (by omega)
    rw [e1]
    have hy := at0_lt hw (j + i)
    have hs : (at0 w (j + i) + at0 v i + c) / B32 ≤ 1 := by rw [hB] at *; omega
    have hd : (at0 w (j + i) + at0 v i + c) % B32 < B32 := Nat.mod_lt _ (by decide)
    have hvu := val_upd w (j + i) ((at0 w (j + i) + at0 v i + c) % B32) (by omega)
    have hce := carry_eq (B32 ^ (j + i)) (at0 w (j + i) + at0 v i + c)
    refine ⟨⟨_, i + 1, rfl, hs, by omega, by rw [upd_len]; exact hl, hw.upd _ hd, ?_, fun t ht => ?_⟩, (by first | omega | (dsimp only; omega) | (simp; done) | (simp; omega))⟩
    · rw [val_take, show j + (i + 1) = j + i + 1 by omega, Nat.pow_succ]
      have a1 : B32 ^ j * (val (v.take i) + B32 ^ i * at0 v i) = B32 ^ j * val (v.take i) + B32 ^ (j + i) * at0 v i := by
        rw [Nat.mul_add, Nat.pow_add, Nat.mul_assoc]
      rw [a1]
      rw [Nat.mul_add, Nat.mul_add] at hce
      dsimp only
      omega
    · rw [upd_at0 _ _ _ _ (by omega), if_neg (by omega)]; exact hat t (by omega)
  · obtain rfl : i = k := by omega
    rw [List.take_of_length_le (by omega)] at hval
    exact Tot.ret ⟨c, rfl, hc, hl, hw, hval, hat⟩
end Go.Proofs.YthhghkcopfnbiaaGreatDoor

namespace Go.Proofs.YthhghkcopfnbiaaGreatDoor
open Go Go.Proofs.YthhghkcopfnbiaaGreatDoor.Gw
set_option linter.unusedVariables false

/-- One digit of the quotient. -/
theorem digit_ok (v u q : List Int) (j k : Nat) (hv : Wd v) (hu : Wd u) (hqw : Wd q) (hk : v.length = k) (k2 : 2 ≤ k) (hj : j + k < u.length) (lu : u.length ≤ 1000000) (hjq : j < q.length)
    (hv1 : 0 < at0 v (k - 1)) (hU : val u < B32 ^ (j + 1) * val v) :
    Tot (fun n => integer_divide_L81 n v (u, q, (j : Int)))
      (fun o => ∃ u2 : List Int, o = .go (u2, upd q (j : Int) ((val u / B32 ^ j / val v : Nat) : Int), (j : Int) - 1) ∧ Wd u2 ∧ u2.length = u.length ∧ val u2 + B32 ^ j * (val u / B32 ^ j / val v * val v) = val u ∧ val u / B32 ^ j / val v < B32) := by
  have hB : B32 = 4294967296 := rfl
  have hp : ∀ e, 0 < B32 ^ e := fun e => Nat.pow_pos (by decide)
  have hV0 : 0 < val v := by
    rcases Nat.eq_zero_or_pos (val v) with h | h
    · rw [at0_val hv, h, Nat.zero_div] at hv1; simp at hv1
    · exact h
  have hVk := val_lt hv
  rw [hk] at hVk
  have hUw : val u / B32 ^ j < B32 * val v := by
    rw [Nat.div_lt_iff_lt_mul (hp j), Nat.mul_right_comm, Nat.mul_comm B32, ← Nat.pow_succ]; exact hU
  have huP : val u < B32 ^ (j + k + 1) := by
    refine Nat.lt_of_lt_of_le hU ?_
    rw [show j + k + 1 = (j + 1) + k by omega, Nat.pow_add B32 (j + 1)]
    exact Nat.mul_le_mul_left _ (Nat.le_of_lt hVk)
  obtain ⟨Q, hQ⟩ : ∃ Q, val u / B32 ^ j / val v = Q := ⟨_, rfl⟩
  have hQB : Q < B32 := by rw [← hQ, Nat.div_lt_iff_lt_mul hV0]; exact hUw
  have hQV : B32 ^ j * (Q * val v) ≤ val u := by
    have h1 : Q * val v ≤ val u / B32 ^ j := by rw [← hQ]; exact Nat.div_mul_le_self _ _
    have := (Nat.le_div_iff_mul_le (hp j)).1 h1
    rwa [Nat.mul_comm]
  rw [hQ]
  dsimp only [integer_divide_L81]
  have ejk : IntKind.i64.wrap ((j : Int) + (v.length : Int)) = ((j + k : Nat) : Int) := i64n (by omega) (by omega)
  have ejk1 : IntKind.i64.wrap (((j + k : Nat) : Int) - 1) = ((j + k - 1 : Nat) : Int) := i64n (by omega) (by omega)
  have ek1 : IntKind.i64.wrap ((v.length : Int) - 1) = ((k - 1 : Nat) : Int) := i64n (by omega) (by omega)
  refine Tot.condD (fun hc => ?_) (fun hc => absurd (show (j : Int) ≥ 0 by omega) hc)
  rw [ejk, ejk1, ek1]
  have hv1B := at0_lt hv (k - 1)
  have hu0B := at0_lt hu (j + k)
  have hu1B := at0_lt hu (j + k - 1)
  refine Tot.bind (Tot.mono (Q' := fun r : List Int × List Int => ∃ u2, r = (u2, upd q (j : Int) (Q : Int)) ∧ Wd u2 ∧ u2.length = u.length ∧ val u2 + B32 ^ j * (Q * val v) = val u) ?_ ?_)
  rotate_left
  · rintro _ ⟨u2, rfl, h1, h2, h3⟩
    refine Tot.ret ⟨u2, ?_, h1, h2, h3, hQB⟩
    rw [w64 (by omega) (by omega)]
  refine Tot.idxv (idx_at hu rfl (by omega)) (Tot.idxv (idx_at hu rfl (by omega)) (Tot.idxv (idx_at hv rfl (by omega)) ?_))
  rw [u64_nat (n := at0 v (k - 1)) (by rw [hB] at hv1B; omega), u64_nat (n := at0 u (j + k)) (by rw [hB] at hu0B; omega), u64_nat (n := at0 u (j + k - 1)) (by rw [hB] at hu1B; omega), two64 hu0B hu1B, tdiv_nat]
  have htB : at0 u (j + k) * B32 + at0 u (j + k - 1) < 18446744073709551616 := by rw [hB] at *; omega
  rw [u64_nat (n := (at0 u (j + k) * B32 + at0 u (j + k - 1)) / at0 v (k - 1)) (Nat.lt_of_le_of_lt (Nat.div_le_self _ _) htB)]
  refine Tot.need (by omega) (Tot.idxv (idx_at hv rfl (by omega)) (Tot.need (by rw [u64_nat (n := at0 v (k - 1)) (by rw [hB] at hv1B; omega)]; omega) ?_))
  rw [u64_nat (n := at0 v (k - 1)) (by rw [hB] at hv1B; omega), tmod_nat]
  refine Tot.bind (Tot.mono (guess_ok v u j k hv hu hk k2 hj lu hv1 hU Q hQ.symm) ?_)
  rintro _ ⟨g, rfl, hg1, hg2, hgB⟩
  have hgQ : g ≤ Q + 1 := by
    rcases Nat.eq_zero_or_pos g with h0 | h0
    · omega
    · have h1 : (g - 1) * val v ≤ val u / B32 ^ j := by rw [Nat.sub_mul, Nat.one_mul]; generalize val u / B32 ^ j = U at hg2 ⊢; omega
      have h2 := (Nat.le_div_iff_mul_le hV0).2 h1
      rw [hQ] at h2; omega
  refine Tot.bind (Tot.mono (subtract_ok v u j k g hv hu hk hj lu hgB) ?_)
  rintro ⟨w, _⟩ ⟨c, b, rfl, hcB, hb, hwl, hww, hwv, hwa⟩
  dsimp only at *
  refine Tot.idxv (idx_at hww rfl (by omega)) ?_
  rw [hwa (j + k) (Nat.le_refl _), u32_nat hcB]
  refine Tot.bind (Tot.at_ (fun n => sub32 _ _ _ n hu0B hcB hb) (Tot.idxv (idx_at hww rfl (by omega)) ?_))
  have hbe := borrow_eq (p := B32 ^ (j + k)) hu0B hcB hb
  have hd : (at0 u (j + k) + B32 + B32 - c - b) % B32 < B32 := Nat.mod_lt _ (by decide)
  obtain ⟨d, hdd⟩ : ∃ d, (at0 u (j + k) + B32 + B32 - c - b) % B32 = d := ⟨_, rfl⟩
  rw [hdd] at hbe hd ⊢
  obtain ⟨b2, hb2⟩ : ∃ b2, (if at0 u (j + k) < c + b then 1 else 0) = b2 := ⟨_, rfl⟩
  have hb21 : b2 ≤ 1 := by rw [← hb2]; split <;> omega
  rw [hb2] at hbe ⊢
  have hvu := val_upd w (j + k) d (by omega)
  rw [hwa (j + k) (Nat.le_refl _)] at hvu
  have hE1 : val (upd w ((j + k : Nat) : Int) (d : Int)) + B32 ^ j * (g * val v) = val u + B32 ^ (j + k) * B32 * b2 := by
    rw [Nat.mul_add] at hwv
    omega
  have hw1w := hww.upd (j + k) hd
  have hw1l : (upd w ((j + k : Nat) : Int) (d : Int)).length = u.length := by rw [upd_len]; exact hwl
  have hw1a : ∀ t, j + k + 1 ≤ t → at0 (upd w ((j + k : Nat) : Int) (d : Int)) t = 0 := fun t ht => by
    rw [upd_at0 _ _ _ _ (by omega), if_neg (by omega), hwa t (by omega)]
    exact at0_high hu huP ht
  have hw1d : at0 (upd w ((j + k : Nat) : Int) (d : Int)) (j + k) = d := by rw [upd_at0 _ _ _ _ (by omega), if_pos rfl]
  have hw1P := val_high hw1w hw1a
  rw [Nat.pow_succ] at hw1P
  refine Tot.bind (Tot.mono (Q' := fun r : List Int × Int => ∃ u2 : List Int, r = (u2, (Q : Int)) ∧ Wd u2 ∧ u2.length = u.length ∧ val u2 + B32 ^ j * (Q * val v) = val u) ?_ ?_)
  · refine Tot.condN (fun hne => ?_) (fun he => Tot.ret ?_)
    · have h1 : b2 = 1 := by omega
      subst h1
      have hgQ1 : g = Q + 1 := by
        rcases Nat.lt_or_ge Q g with h | h
        · omega
        · exfalso
          have : g = Q := by omega
          rw [this] at hE1; omega
      refine Tot.bind (Tot.mono (giveback_ok v _ j k hv hw1w hk (by rw [hw1l]; exact hj) (by rw [hw1l]; exact lu)) ?_)
      rintro ⟨x, _⟩ ⟨co, rfl, hco, hxl, hxw, hxv, hxa⟩
      dsimp only at *
      refine Tot.idxv (idx_at hxw rfl (by omega)) (Tot.idxv (idx_at hxw rfl (by omega)) (Tot.ret ?_))
      rw [hxa (j + k) (Nat.le_refl _), hw1d, show ((d : Int) + (co : Int)) = ((d + co : Nat) : Int) from (Int.natCast_add _ _).symm, wu32_nat]
      have hm : (d + co) % B32 < B32 := Nat.mod_lt _ (by decide)
      have hvx := val_upd x (j + k) ((d + co) % B32) (by omega)
      rw [hxa (j + k) (Nat.le_refl _), hw1d] at hvx
      have hce := carry_eq (B32 ^ (j + k)) (d + co)
      rw [Nat.mul_add (B32 ^ (j + k)) d co] at hce
      have hx3w := hxw.upd (j + k) hm
      have hx3P := val_high hx3w (s := j + k + 1) (fun t ht => by
        rw [upd_at0 _ _ _ _ (by omega), if_neg (by omega), hxa t (by omega)]
        exact hw1a t ht)
      rw [Nat.pow_succ] at hx3P
      have ho : (d + co) / B32 ≤ 1 := by rw [hB] at hd ⊢; omega
      rw [hgQ1, Nat.add_mul, Nat.one_mul, Nat.mul_add] at hE1
      have ho1 : (d + co) / B32 = 1 := by
        rcases Nat.eq_zero_or_pos ((d + co) / B32) with h | h
        · exfalso
          rw [h, Nat.mul_zero] at hce
          omega
        · omega
      rw [ho1] at hce
      refine ⟨_, ?_, hx3w, by rw [upd_len]; omega, by omega⟩
      congr 1
      rw [hgQ1, show (((Q + 1 : Nat) : Int) - 1) = (Q : Int) by omega, u64_nat (by rw [hB] at hQB; omega)]
    · have h1 : b2 = 0 := by omega
      subst h1
      rw [Nat.mul_zero, Nat.add_zero] at hE1
      have h2 : g * val v ≤ val u / B32 ^ j := by
        rw [Nat.le_div_iff_mul_le (hp j), Nat.mul_comm]; omega
      have h3 := (Nat.le_div_iff_mul_le hV0).2 h2
      rw [hQ] at h3
      obtain rfl : g = Q := by omega
      exact ⟨_, rfl, hw1w, hw1l, hE1⟩
  · rintro _ ⟨u2, rfl, h1, h2, h3⟩
    refine Tot.idxv (idx_at hqw rfl hjq) (Tot.ret ⟨u2, ?_, h1, h2, h3⟩)
    rw [u32_nat hQB]
end Go.Proofs.YthhghkcopfnbiaaGreatDoor

namespace Go.Proofs.YthhghkcopfnbiaaGreatDoor
open Go Go.Proofs.YthhghkcopfnbiaaGreatDoor.Gw
set_option linter.unusedVariables false

theorem digits_ok (v u : List Int) (k : Nat) (hv : Wd v) (hu : Wd u) (hk : v.length = k) (k2 : 2 ≤ k) (hj : k < u.length) (lu : u.length ≤ 1000000)
    (hv1 : 0 < at0 v (k - 1)) (hU : val u < B32 ^ (u.length - k) * val v) :
    Tot (fun n => loopN (integer_divide_L81 n v) n (u, List.replicate (u.length - k) 0, (u.length : Int) - k - 1))
      (fun r => Wd r.1 ∧ Wd r.2 ∧ r.1.length = u.length ∧ r.2.length = u.length - k ∧ val r.1 = val u % val v ∧ val r.2 = val u / val v) := by
  have hV0 : 0 < val v := by
    rcases Nat.eq_zero_or_pos (val v) with h | h
    · rw [at0_val hv, h, Nat.zero_div] at hv1; simp at hv1
    · exact h
  refine Tot.loop (fun s : List Int × List Int × Int => ∃ i : Nat, s.2.2 = (i : Int) - 1 ∧ i ≤ u.length - k ∧ Wd s.1 ∧ Wd s.2.1 ∧ s.1.length = u.length ∧ s.2.1.length = u.length - k ∧ val s.1 < B32 ^ i * val v ∧ val u = val s.1 + B32 ^ i * (val (s.2.1.drop i) * val v)) (fun s => (s.2.2 + 1).toNat)
    ⟨u.length - k, by dsimp only; omega, Nat.le_refl _, hu, fun x hx => by have := List.eq_of_mem_replicate hx; omega, rfl, by simp, hU, by dsimp only; rw [List.drop_eq_nil_of_le (by simp)]; simp [val]⟩ ?_
  rintro ⟨w, q, _⟩ ⟨i, rfl, hi, hww, hqw, hwl, hql, hlt, hval⟩
  dsimp only at *
  rcases Nat.eq_zero_or_pos i with h0 | h0
  · subst h0
    dsimp only [integer_divide_L81]
    refine Tot.condD (fun hc => by simp at hc) (fun hc => Tot.ret ⟨hww, hqw, hwl, hql, ?_, ?_⟩)
    · rw [Nat.pow_zero, Nat.one_mul] at hlt hval
      rw [hval, Nat.add_mul_mod_self_right, Nat.mod_eq_of_lt hlt]
    · rw [Nat.pow_zero, Nat.one_mul] at hlt hval
      rw [hval, Nat.add_mul_div_right _ _ hV0, Nat.div_eq_of_lt hlt, Nat.zero_add, List.drop_zero]
  · obtain ⟨j, rfl⟩ : ∃ j, i = j + 1 := ⟨i - 1, by omega⟩
    have e : (((j + 1 : Nat) : Int) - 1) = (j : Int) := by omega
    rw [e]
    refine Tot.mono (digit_ok v w q j k hv hww hqw hk k2 (by omega) (by omega) (by omega) hv1 hlt) ?_
    rintro _ ⟨u2, rfl, h1, h2, h3, h4⟩
    obtain ⟨Q, hQ⟩ : ∃ Q, val w / B32 ^ j / val v = Q := ⟨_, rfl⟩
    have hlt2 : val w - B32 ^ j * (Q * val v) < B32 ^ j * val v := by
      have a1 := Nat.div_add_mod (val w / B32 ^ j) (val v)
      have a2 := Nat.mod_lt (val w / B32 ^ j) hV0
      have a3 := Nat.div_add_mod (val w) (B32 ^ j)
      have a4 := Nat.mod_lt (val w) (Nat.pow_pos (a := B32) (n := j) (by decide))
      rw [hQ] at a1
      have a5 : val w / B32 ^ j + 1 ≤ Q * val v + val v := by rw [Nat.mul_comm Q]; omega
      have a6 := Nat.mul_le_mul_left (B32 ^ j) a5
      rw [Nat.mul_add, Nat.mul_add, Nat.mul_one] at a6
      have a7 : 0 < B32 ^ j * val v := Nat.mul_pos (Nat.pow_pos (by decide)) hV0
      generalize B32 ^ j * (val w / B32 ^ j) = z at a3 a6
      generalize val w % B32 ^ j = y at a3 a4
      omega
    rw [hQ] at h3 h4 ⊢
    refine ⟨⟨j, rfl, by omega, h1, hqw.upd j h4, (by first | omega | (dsimp only; omega) | (simp; done) | (simp; omega)), by rw [upd_len]; exact hql, (by first | omega | (dsimp only; omega) | (simp; done) | (simp; omega)), ?_⟩, ?_⟩
    · show val u = val u2 + B32 ^ j * (val ((upd q (j : Int) (Q : Int)).drop j) * val v)
      rw [val_drop _ (hqw.upd j h4) (by rw [upd_len]; omega), at0_upd_same (by omega), drop_upd j _ (j + 1) (by omega), hval, Nat.add_mul, Nat.mul_add, Nat.pow_succ, Nat.mul_assoc (B32 ^ j), ← Nat.mul_assoc B32]
      omega
    · dsimp only; omega
theorem shr64 (x j : Nat) (hj : j < 64) : ((x : Int).fdiv (2 ^ min (j : Int).toNat (IntKind.u64).bits)) = ((x / 2 ^ j : Nat) : Int) := by
  have e : min (j : Int).toNat (IntKind.u64).bits = j := by simp [IntKind.bits]; omega
  rw [e, Int.fdiv_eq_ediv_of_nonneg _ (by exact Int.le_of_lt (Int.pow_pos (by decide)))]
  norm_cast
/-- The remainder, moved down. -/
theorem lower_ok (u : List Int) (k s : Nat) (hu : Wd u) (hk : k < u.length) (lu : u.length ≤ 1000000) (hs : s < 32) (hU : val u < B32 ^ k) :
    Tot (fun n => loopN (integer_divide_L99 (s : Int) u (List.replicate k 0)) n (List.replicate k 0, 0)) (fun r => Wd r ∧ r.length = k ∧ val r = val u / 2 ^ s) := by
  have hB : B32 = 4294967296 := rfl
  have hsp : 2 ^ s * 2 ^ (32 - s) = B32 := by rw [← Nat.pow_add, show s + (32 - s) = 32 by omega]
  have hs0 : 0 < 2 ^ s := Nat.pow_pos (by decide)
  refine Tot.loop0 (fun t : List Int × Int => ∃ i : Nat, t.2 = (i : Int) ∧ i ≤ k ∧ t.1.length = k ∧ Wd t.1 ∧ val (t.1.take i) = val u / 2 ^ s % B32 ^ i) (fun t => k - t.2.toNat)
    ⟨0, rfl, by omega, by simp, fun x hx => by have := List.eq_of_mem_replicate hx; omega, by simp [val, Nat.mod_one]⟩ ?_
  rintro ⟨r, _⟩ ⟨i, rfl, hi, hl, hw, hv⟩
  dsimp only [integer_divide_L99] at *
  refine Tot.condD (fun hlt => ?_) (fun hlt => ?_)
  · have hik : i < k := by simp at hlt; omega
    have e1 : IntKind.i64.wrap ((i : Int) + 1) = ((i + 1 : Nat) : Int) := i64n (by omega) (by omega)
    have hx := at0_lt hu (i + 1)
    have hy := at0_lt hu i
    rw [e1]
    refine Tot.idxv (idx_at hu rfl (by omega)) (Tot.idxv (idx_at hu rfl (by omega)) ?_)
    rw [u64_nat (n := s) (by omega), u64_nat (n := at0 u (i + 1)) (by rw [hB] at hx; omega), u64_nat (n := at0 u i) (by rw [hB] at hy; omega), two64 hx hy, shr64 _ _ (by omega), wu32_nat]
    refine Tot.need (by omega) (Tot.idxv (idx_at hw rfl (by omega)) (Tot.ret ⟨⟨i + 1, rfl, by omega, by rw [upd_len]; exact hl, hw.upd i (Nat.mod_lt _ (by decide)), ?_⟩, (by first | omega | (dsimp only; omega) | (simp; done) | (simp; omega))⟩))
    have et : (upd r (i : Int) ((((at0 u (i + 1) * B32 + at0 u i) / 2 ^ s) % B32 : Nat) : Int)).take i = r.take i := by
      unfold upd; rw [Int.toNat_natCast, List.take_set_of_le (Nat.le_refl _)]
    rw [val_take, at0_upd_same (by omega), et, hv, Nat.mod_pow_succ]
    congr 2
    rw [Nat.div_div_eq_div_mul, Nat.mul_comm (2 ^ s), ← Nat.div_div_eq_div_mul, at0_val hu, at0_val hu, Nat.pow_succ, ← Nat.div_div_eq_div_mul]
    generalize val u / B32 ^ i = y
    have h3 : y = B32 * B32 * (y / B32 / B32) + (y / B32 % B32 * B32 + y % B32) := by rw [hB]; omega
    have h4 : B32 * B32 * (y / B32 / B32) = 2 ^ s * (B32 * (2 ^ (32 - s) * (y / B32 / B32))) := by
      rw [← hsp]; ac_rfl
    conv => rhs; rw [h3, h4, Nat.mul_add_div hs0, Nat.mul_add_mod]
  · obtain rfl : i = k := by simp at hlt; omega
    rw [List.take_of_length_le (by omega)] at hv
    refine Tot.ret ⟨hw, hl, ?_⟩
    rw [hv]
    exact Nat.mod_eq_of_lt (Nat.lt_of_le_of_lt (Nat.div_le_self _ _) hU)
/-- Quotient and remainder of words. -/
theorem divide_ok (m d : Nat) (hd : d ≠ 0) (lm : (dig m).length ≤ 100000) (ld : (dig d).length ≤ 100000) :
    ∃ q r, Evt (fun n => integer_divide n (dig m) (dig d)) (q, r) ∧ Wd q ∧ Wd r ∧ val q = m / d ∧ val r = m % d ∧ q.length ≤ 200000 ∧ r.length ≤ 200000 := by
  suffices h : Tot (fun n => integer_divide n (dig m) (dig d)) (fun x => Wd x.1 ∧ Wd x.2 ∧ val x.1 = m / d ∧ val x.2 = m % d ∧ x.1.length ≤ 200000 ∧ x.2.length ≤ 200000) by
    obtain ⟨⟨q, r⟩, he, h⟩ := h
    exact ⟨q, r, he, h⟩
  have hB : B32 = 4294967296 := rfl
  dsimp only [integer_divide]
  refine Tot.bind (Tot.evt (compare_ok m d (by omega) (by omega)) ?_)
  have hdl : 0 < (dig d).length := by
    rcases Nat.eq_zero_or_pos (dig d).length with h | h
    · exact absurd (dig_nil.1 (List.eq_nil_of_length_eq_zero h)) hd
    · exact h
  refine Tot.condD (fun h => ?_) (fun h => ?_)
  · have hlt : m < d := by
      unfold cmpN at h
      by_cases h1 : m < d
      · exact h1
      · rw [if_neg h1] at h; split at h <;> omega
    refine Tot.bind (Tot.at_ (fun n => clone_ok (dig m) (by omega) n) (Tot.ret ⟨Wd.nil, dig_wd m, ?_, ?_, by simp, by dsimp only; omega⟩))
    · rw [Nat.div_eq_of_lt hlt]; rfl
    · rw [val_dig, Nat.mod_eq_of_lt hlt]
  have hge : d ≤ m := by
    rcases Nat.lt_or_ge m d with h1 | h1
    · rw [cmpN_lt h1] at h; exact absurd (by decide) h
    · exact h1
  have hlen : (dig d).length ≤ (dig m).length := by
    rcases Nat.lt_or_ge (dig m).length (dig d).length with h1 | h1
    · exact absurd (dig_short h1) (by omega)
    · exact h1
  refine Tot.condE (fun h1 => ?_) (fun h1 => ?_)
  · have hd0 : at0 (dig d) 0 = d := by
      have := (dig_bounds d).1
      rw [show (dig d).length = 1 by omega, Nat.pow_one] at this
      rw [at0_val (dig_wd d), val_dig, Nat.pow_zero, Nat.div_one, Nat.mod_eq_of_lt this]
    have hdB := at0_lt (dig_wd d) 0
    rw [hd0] at hdB
    refine Tot.idxv (idx_at (dig_wd d) rfl hdl) ?_
    rw [hd0]
    obtain ⟨q, he, hq1, hq2, hq3⟩ := short_ok (dig m) d (dig_wd m) (by omega) (by omega) hdB
    refine Tot.bind (Tot.evt he (Tot.ret ⟨hq1, ?_, ?_, ?_, by dsimp only; omega, by simp⟩))
    · rw [val_dig]
      have : m % d < d := Nat.mod_lt _ (by omega)
      intro x hx
      rw [List.mem_singleton] at hx
      subst hx; rw [hB] at hdB; omega
    · rw [hq2, val_dig]
    · dsimp only; rw [val_dig]; show ((m % d : Nat) : Int).toNat + B32 * 0 = m % d; rw [Int.toNat_natCast, Nat.mul_zero, Nat.add_zero]
  · have hk2 : 2 ≤ (dig d).length := by omega
    obtain ⟨k, hk⟩ : ∃ k, (dig d).length = k := ⟨_, rfl⟩
    have ek1 : IntKind.i64.wrap (((dig d).length : Int) - 1) = ((k - 1 : Nat) : Int) := i64n (by omega) (by omega)
    rw [ek1]
    obtain ⟨top, htop⟩ : ∃ t, at0 (dig d) (k - 1) = t := ⟨_, rfl⟩
    have htB := at0_lt (dig_wd d) (k - 1)
    have hbd := dig_bounds d
    rw [hk] at hbd
    have htv : d / B32 ^ (k - 1) = top := by
      rw [← htop, at0_val (dig_wd d), val_dig, Nat.mod_eq_of_lt]
      rw [Nat.div_lt_iff_lt_mul (Nat.pow_pos (by decide)), Nat.mul_comm, ← Nat.pow_succ]
      have := hbd.1
      rwa [show (k - 1).succ = k by omega]
    have ht0 : top ≠ 0 := by
      have h3 := (Nat.le_div_iff_mul_le (Nat.pow_pos (a := B32) (n := k - 1) (by decide))).2 (by rw [Nat.one_mul]; exact hbd.2 hd)
      omega
    refine Tot.idxv (idx_at (dig_wd d) rfl (by omega)) ?_
    rw [htop] at htB ⊢
    have hbl := bl_le (n := top) (k := 32) htB
    have hbp := bl_pos ht0
    have hlz : ∀ n, bits_LeadingZeros32 n (top : Int) = some ((32 - bl top : Nat) : Int) := fun n => by
      unfold bits_LeadingZeros32
      dsimp only
      rw [Len32_ok top htB n, Option.bind_some, i64n (n := 32 - bl top) (by omega) (by omega)]
    refine Tot.bind (Tot.at_ hlz ?_)
    obtain ⟨s, hs⟩ : ∃ s, 32 - bl top = s := ⟨_, rfl⟩
    have hs32 : s < 32 := by omega
    rw [hs, u64_nat (n := s) (by omega)]
    obtain ⟨u, heu, huw, huv, hul⟩ := shifted_ok (dig m) s (dig_wd m) (by omega) hs32
    obtain ⟨w, hew, hww, hwv, hwl⟩ := shifted_ok (dig d) s (dig_wd d) (by omega) hs32
    rw [val_dig] at huv hwv
    refine Tot.bind (Tot.evt heu (Tot.bind (Tot.evt hew ?_)))
    have hV : d * 2 ^ s < B32 ^ k := by
      have h3 := lt_bl top
      have h4 : top + 1 ≤ 2 ^ bl top := h3
      have h5 : (top + 1) * 2 ^ s ≤ B32 := by
        refine Nat.le_trans (Nat.mul_le_mul_right _ h4) ?_
        rw [← Nat.pow_add, show bl top + s = 32 by omega]
        exact Nat.le_refl _
      have h6 : d < (top + 1) * B32 ^ (k - 1) := by
        rw [← htv]
        have := Nat.div_add_mod d (B32 ^ (k - 1))
        have := Nat.mod_lt d (Nat.pow_pos (a := B32) (n := k - 1) (by decide))
        rw [Nat.add_mul, Nat.mul_comm (_ / _)]; omega
      have h7 : d * 2 ^ s < (top + 1) * B32 ^ (k - 1) * 2 ^ s := Nat.mul_lt_mul_of_pos_right h6 (Nat.pow_pos (by decide))
      refine Nat.lt_of_lt_of_le h7 ?_
      rw [Nat.mul_right_comm]
      refine Nat.le_trans (Nat.mul_le_mul_right _ h5) ?_
      rw [Nat.mul_comm, ← Nat.pow_succ, show (k - 1).succ = k by omega]
      exact Nat.le_refl _
    have hcut : Gw.cut w 0 ((dig d).length : Int) = some (w.take k) := by
      unfold Gw.cut
      rw [if_pos (by omega)]
      simp [hk]
    refine Tot.bind (Tot.val hcut ?_)
    have hvl : (w.take k).length = k := by rw [List.length_take]; omega
    have hvv : val (w.take k) = d * 2 ^ s := by
      have h3 := val_take w k
      rw [List.take_of_length_le (by omega), at0_high hww (s := k) (by rw [hwv]; exact hV) (Nat.le_refl _), Nat.mul_zero, hwv] at h3
      exact h3.symm
    have hvw := hww.take k
    have hv1 : 0 < at0 (w.take k) (k - 1) := by
      rw [at0_val hvw, hvv]
      have h3 : d * 2 ^ s / B32 ^ (k - 1) < B32 := by
        rw [Nat.div_lt_iff_lt_mul (Nat.pow_pos (by decide)), Nat.mul_comm B32, ← Nat.pow_succ, show (k - 1).succ = k by omega]; exact hV
      rw [Nat.mod_eq_of_lt h3]
      have h4 : 1 ≤ d * 2 ^ s / B32 ^ (k - 1) := by
        rw [Nat.le_div_iff_mul_le (Nat.pow_pos (by decide)), Nat.one_mul]
        exact Nat.le_trans (hbd.2 hd) (Nat.le_mul_of_pos_right _ (Nat.pow_pos (by decide)))
      exact h4
    have eL : IntKind.i64.wrap ((u.length : Int) - ((w.take k).length : Int)) = ((u.length - k : Nat) : Int) := i64n (by omega) (by omega)
    have eL1 : IntKind.i64.wrap (((u.length - k : Nat) : Int) - 1) = (u.length : Int) - k - 1 := by rw [w64 (by omega) (by omega)]; omega
    rw [eL, eL1]
    have hmk : ∀ t : Nat, t ≤ 1000000 → mk (t : Int) (0 : Int) = some (List.replicate t 0) := fun t ht => by unfold mk; rw [if_pos (by omega)]; congr 2
    refine Tot.bind (Tot.val (hmk _ (by omega)) ?_)
    have hU : val u < B32 ^ (u.length - k) * val (w.take k) := by
      rw [huv, hvv, hul]
      have h3 := (dig_bounds m).1
      have h4 : B32 ^ (k - 1) ≤ d := hbd.2 hd
      rw [← Nat.mul_assoc]
      refine Nat.mul_lt_mul_of_pos_right (Nat.lt_of_lt_of_le h3 ?_) (Nat.pow_pos (by decide))
      refine Nat.le_trans ?_ (Nat.mul_le_mul_left _ h4)
      rw [← Nat.pow_add]
      exact Nat.pow_le_pow_right (by decide) (by omega)
    refine Tot.bind (Tot.mono (digits_ok (w.take k) u k hvw huw hvl (by omega) (by omega) (by omega) hv1 hU) ?_)
    rintro ⟨r0, q⟩ ⟨hr0, hq0, hrl, hql, hrv, hqv⟩
    dsimp only at *
    rw [hvl]
    refine Tot.bind (Tot.val (hmk _ (by omega)) ?_)
    have hrk : val r0 < B32 ^ k := by
      rw [hrv, hvv]
      exact Nat.lt_trans (Nat.mod_lt _ (Nat.mul_pos (by omega) (Nat.pow_pos (by decide)))) hV
    refine Tot.bind (Tot.mono (lower_ok r0 k s hr0 (by omega) (by omega) hs32 hrk) ?_)
    rintro r ⟨hrw, hrlen, hrval⟩
    have hs0 : 0 < 2 ^ s := Nat.pow_pos (by decide)
    refine Tot.ret ⟨hq0, hrw, ?_, ?_, by dsimp only; omega, by dsimp only; omega⟩
    · rw [hqv, huv, hvv, Nat.mul_div_mul_right _ _ hs0]
    · rw [hrval, hrv, huv, hvv, Nat.mul_mod_mul_right, Nat.mul_div_cancel _ hs0]
end Go.Proofs.YthhghkcopfnbiaaGreatDoor

namespace Go.Proofs.YthhghkcopfnbiaaGreatDoor
open Go Go.Proofs.YthhghkcopfnbiaaGreatDoor.Gw
set_option linter.unusedVariables false

/- ### Quotient and remainder -/
theorem div_unique {a b q r : Int} (hb : b ≠ 0) (h : r + b * q = a) (h0 : 0 ≤ r) (hr : r < b.natAbs) : a / b = q ∧ a % b = r := by
  rcases Int.lt_or_gt_of_ne hb with h1 | h1
  · exact (Int.ediv_emod_unique' h1).2 ⟨h, h0, by omega⟩
  · exact (Int.ediv_emod_unique h1).2 ⟨h, h0, by omega⟩
theorem DivMod_zero (x y : Int_2) {k : Nat} (hx : Sm x k) (hy : Sm y k) (hk : k ≤ 50000) (h0 : toZ y = 0) : Evt (fun n => integer_DivMod n x y) (⟨false, []⟩, ⟨false, []⟩, 10) := by
  obtain ⟨b, l⟩ := x
  obtain ⟨c, m⟩ := y
  have lx := hx.len
  have ly := hy.len
  dsimp only at lx ly
  have hm : val m = 0 := by have := natAbs_toZ ⟨c, m⟩; rw [h0] at this; exact this.symm
  apply Tot.of_eq
  dsimp only [integer_DivMod]
  refine Tot.bind (Tot.evt (trim_ok l (by omega)) (Tot.bind (Tot.evt (trim_ok m (by omega)) ?_)))
  rw [← dig_val hy.wd, hm, dig_zero]
  exact Tot.condE (fun _ => Tot.ret rfl) (fun h => absurd rfl h)
theorem DivMod_ok (x y : Int_2) {k : Nat} (hx : Sm x k) (hy : Sm y k) (hk : k ≤ 50000) (h0 : toZ y ≠ 0) : Evt (fun n => integer_DivMod n x y) (ofZ (toZ x / toZ y), ofZ (toZ x % toZ y), 0) := by
  have hxl := hx.lt
  have hyl := hy.lt
  rw [natAbs_toZ] at hxl hyl
  obtain ⟨b, l⟩ := x
  obtain ⟨c, m⟩ := y
  have lx := hx.len
  have ly := hy.len
  have tx := hx.tr
  have ty := hy.tr
  have wx := hx.wd
  have wy := hy.wd
  dsimp only at lx ly tx ty wx wy hxl hyl
  have hm : val m ≠ 0 := fun e => h0 (by unfold toZ; dsimp only; rw [e]; simp)
  apply Tot.of_eq
  dsimp only [integer_DivMod]
  refine Tot.bind (Tot.evt (trim_ok l (by omega)) (Tot.bind (Tot.evt (trim_ok m (by omega)) ?_)))
  rw [← dig_val wx] at tx ⊢
  rw [← dig_val wy] at ty ⊢
  refine Tot.condE (fun h => ?_) (fun _ => ?_)
  · exact absurd (dig_nil.1 (List.length_eq_zero_iff.1 (by omega))) hm
  obtain ⟨q, r, he, hq, hr, hqv, hrv, hql, hrl⟩ := divide_ok (val l) (val m) hm (by omega) (by omega)
  refine Tot.bind (Tot.evt he ?_)
  have hdm := Nat.div_add_mod (val l) (val m)
  have hlt := Nat.mod_lt (val l) (show val m > 0 by omega)
  have hQl : val l / val m ≤ val l := Nat.div_le_self _ _
  obtain ⟨Q, hQ⟩ : ∃ Q, val l / val m = Q := ⟨_, rfl⟩
  obtain ⟨R, hR⟩ : ∃ R, val l % val m = R := ⟨_, rfl⟩
  rw [hQ] at hdm hqv hQl
  rw [hR] at hdm hrv hlt
  have hz : (val l : Int) = (val m : Int) * (Q : Int) + (R : Int) := by rw [← hdm, Int.natCast_add, Int.natCast_mul]
  have eq0 : toZ ⟨!(b == c), q⟩ = if b = c then (Q : Int) else -(Q : Int) := by unfold toZ; dsimp only; rw [hqv]; cases b <;> cases c <;> rfl
  have er0 : toZ ⟨b, r⟩ = if b then -(R : Int) else (R : Int) := by unfold toZ; dsimp only; rw [hrv]
  have hpow : B32 ^ (k + 1) = B32 ^ k * B32 := Nat.pow_succ ..
  have hBl : 2 ≤ B32 := by decide
  have hk1 : B32 ^ k * 2 ≤ B32 ^ (k + 1) := by rw [hpow]; exact Nat.mul_le_mul_left _ hBl
  have hk0 : 1 ≤ B32 ^ k := Nat.pow_pos (by decide)
  have eX : toZ ⟨b, l⟩ = if b then -(val l : Int) else (val l : Int) := rfl
  have eY : toZ ⟨c, m⟩ = if c then -(val m : Int) else (val m : Int) := rfl
  obtain ⟨X, hX⟩ : ∃ X, toZ ⟨b, l⟩ = X := ⟨_, rfl⟩
  obtain ⟨Y, hY⟩ : ∃ Y, toZ ⟨c, m⟩ = Y := ⟨_, rfl⟩
  rw [hX] at eX ⊢
  rw [hY] at h0 eY ⊢
  refine Tot.bind (Tot.bind (Tot.evt (made_ok _ q hq (by omega)) (Tot.bind (Tot.evt (made_ok b r hr (by omega)) (Tot.ret ?_)))))
  rw [eq0, er0]
  obtain ⟨q0, hq0⟩ : ∃ q0, (if b = c then (Q : Int) else -(Q : Int)) = q0 := ⟨_, rfl⟩
  obtain ⟨r0, hr0⟩ : ∃ r0, (if b = true then -(R : Int) else (R : Int)) = r0 := ⟨_, rfl⟩
  rw [hq0, hr0]
  dsimp only
  have nq : q0.natAbs = Q := by rw [← hq0]; split <;> omega
  have nr : r0.natAbs = R := by rw [← hr0]; split <;> omega
  have main : r0 + Y * q0 = X := by
    rw [← hq0, ← hr0, eX, eY, hz]
    cases b <;> cases c <;> simp [Int.mul_neg, Int.neg_mul] <;> omega
  have hYn : Y.natAbs = val m := by rw [eY]; split <;> omega
  refine Tot.bind (Tot.mono (Q' := fun s => s = ((ofZ (X / Y)).Neg, (ofZ (X / Y)).Mag, (ofZ (X % Y)).Neg, (ofZ (X % Y)).Mag)) ?_ ?_)
  · rw [ofZ_neg]
    refine Tot.condD (fun hneg => ?_) (fun hneg => Tot.ret ?_)
    · have s1 : Sm (⟨decide (r0 < 0), (ofZ r0).Mag⟩ : Int_2) (k + 1) := (sm_of (z := r0) (k := k) (by omega) (by omega))
      have s2 : Sm (⟨false, dig (val m)⟩ : Int_2) (k + 1) := ⟨dig_wd _, by dsimp only; omega⟩
      have s3 : Sm (⟨(ofZ q0).Neg, (ofZ q0).Mag⟩ : Int_2) (k + 1) := (sm_of (z := q0) (k := k) (by omega) (by omega))
      have s4 : Sm (⟨!c, [1]⟩ : Int_2) (k + 1) := ⟨fun x hx => by rw [List.mem_singleton] at hx; subst hx; omega, by simp⟩
      refine Tot.bind (Tot.evt (Add_ok _ _ s1 s2 (by omega)) (Tot.bind (Tot.evt (Add_ok _ _ s3 s4 (by omega)) (Tot.ret ?_))))
      have a1 : toZ ⟨decide (r0 < 0), (ofZ r0).Mag⟩ = r0 := toZ_ofZ r0
      have a2 : toZ ⟨false, dig (val m)⟩ = (val m : Int) := by rw [toZ_dig]; rfl
      have a3 : toZ ⟨(ofZ q0).Neg, (ofZ q0).Mag⟩ = q0 := toZ_ofZ q0
      have a4 : toZ ⟨!c, [1]⟩ = if c then 1 else -1 := by unfold toZ; cases c <;> rfl
      rw [a1, a2, a3, a4]
      have hb : r0 + (val m : Int) + Y * (q0 + if c then 1 else -1) = X := by
        rw [← main, Int.mul_add, eY]
        cases c <;> simp <;> omega
      obtain ⟨e1, e2⟩ := div_unique h0 hb (by omega) (by omega)
      rw [e1, e2]
    · obtain ⟨e1, e2⟩ := div_unique h0 main (by omega) (by omega)
      rw [e1, e2]; rfl
  · rintro _ rfl
    exact Tot.ret rfl
end Go.Proofs.YthhghkcopfnbiaaGreatDoor

namespace Go.Proofs.YthhghkcopfnbiaaGreatDoor
open Go Go.Proofs.YthhghkcopfnbiaaGreatDoor.Gw
set_option linter.unusedVariables false

/- ### Machine words -/
theorem cmpZ_self (z : Int) : cmpZ z z = 0 := by unfold cmpZ; simp
end Go.Proofs.YthhghkcopfnbiaaGreatDoor

namespace Go.Proofs.YthhghkcopfnbiaaGreatDoor
open Go Go.Proofs.YthhghkcopfnbiaaGreatDoor.Gw
set_option linter.unusedVariables false

/- ### Square roots -/
end Go.Proofs.YthhghkcopfnbiaaGreatDoor

namespace Go.Proofs.YthhghkcopfnbiaaGreatDoor
open Go Go.Proofs.YthhghkcopfnbiaaGreatDoor.Gw
set_option linter.unusedVariables false

/- ### Greatest common divisors -/
/- ### The reference's, by halves -/
end Go.Proofs.YthhghkcopfnbiaaGreatDoor

namespace Go.Proofs.YthhghkcopfnbiaaGreatDoor
open Go Go.Proofs.YthhghkcopfnbiaaGreatDoor.Gw
set_option linter.unusedVariables false

/- ### Strings as lists of bytes -/
def bs (l : List UInt8) : ByteArray := ⟨l.toArray⟩
theorem bs_data (l : List UInt8) : (bs l).data.toList = l := rfl
theorem bs_toList (l : List UInt8) : (bs l).toList = l := by rw [Lib.toList_data]; rfl
theorem bs_size (l : List UInt8) : (bs l).size = l.length := rfl
theorem bs_app (a b : List UInt8) : bs a ++ bs b = bs (a ++ b) := by
  apply ByteArray.ext
  rw [ByteArray.data_append]
  simp [bs]
theorem beq_list (a b : List UInt8) : (a == b) = decide (a = b) := by
  by_cases h : a = b
  · simp [h]
  · simp [h]
/- ### Decimal numerals -/
/-- The last k decimal digits. -/
def padD : Nat → Nat → List UInt8
  | 0, _ => []
  | k + 1, r => padD k (r / 10) ++ [UInt8.ofNat (48 + r % 10)]
theorem dec_small {u : Nat} (h : u < 10) : Lib.decDigits u = [UInt8.ofNat (48 + u)] := by rw [Lib.decDigits, dif_pos h]
theorem dec_big {u : Nat} (h : ¬ u < 10) : Lib.decDigits u = Lib.decDigits (u / 10) ++ [UInt8.ofNat (48 + u % 10)] := by rw [Lib.decDigits, dif_neg h]
theorem dec_split (a : Nat) (ha : 0 < a) : ∀ (k r : Nat), r < 10 ^ k → Lib.decDigits (a * 10 ^ k + r) = Lib.decDigits a ++ padD k r
  | 0, r, h => by
    have : r = 0 := by simpa using h
    subst this; simp [padD]
  | k + 1, r, h => by
    have e1 : (a * 10 ^ (k + 1) + r) / 10 = a * 10 ^ k + r / 10 := by rw [Nat.pow_succ, ← Nat.mul_assoc]; omega
    have e2 : (a * 10 ^ (k + 1) + r) % 10 = r % 10 := by rw [Nat.pow_succ, ← Nat.mul_assoc]; omega
    have h10 : ¬ a * 10 ^ (k + 1) + r < 10 := by
      have : 1 * 10 ≤ a * 10 ^ (k + 1) := by
        refine Nat.mul_le_mul ha ?_
        rw [Nat.pow_succ]
        have : 1 ≤ 10 ^ k := Nat.pow_pos (by decide)
        omega
      omega
    rw [dec_big h10, e1, e2, dec_split a ha k (r / 10) (by rw [Nat.pow_succ] at h; omega), padD, List.append_assoc]
theorem padD_zero : ∀ k, padD k 0 = List.replicate k 48
  | 0 => rfl
  | k + 1 => by
    rw [padD, Nat.zero_div, padD_zero k, List.replicate_succ']
    rfl
theorem padD_dec : ∀ (k r : Nat), r < 10 ^ (k + 1) → padD (k + 1) r = List.replicate (k + 1 - (Lib.decDigits r).length) 48 ++ Lib.decDigits r
  | 0, r, h => by
    have h2 : r < 10 := by simpa using h
    rw [dec_small h2, padD, padD, Nat.mod_eq_of_lt h2]; rfl
  | k + 1, r, h => by
    by_cases h2 : r < 10
    · rw [dec_small h2, padD, Nat.div_eq_of_lt h2, padD_zero, Nat.mod_eq_of_lt h2]
      rfl
    · rw [dec_big h2, padD, padD_dec k (r / 10) (by rw [Nat.pow_succ] at h; omega), List.length_append, List.append_assoc]
      congr 2
      simp
theorem dec_len : ∀ (k r : Nat), r < 10 ^ (k + 1) → (Lib.decDigits r).length ≤ k + 1
  | 0, r, h => by rw [dec_small (by simpa using h)]; simp
  | k + 1, r, h => by
    by_cases h2 : r < 10
    · rw [dec_small h2]; simp
    · rw [dec_big h2, List.length_append]
      have := dec_len k (r / 10) (by rw [Nat.pow_succ] at h; omega)
      simp only [List.length_cons, List.length_nil]; omega
theorem rep_one (x : UInt8) : ∀ k, Lib.repeatL [x] k = List.replicate k x
  | 0 => rfl
  | k + 1 => by rw [Lib.repeatL, rep_one x k]; rfl
theorem join_none : ∀ xs : List (List UInt8), Lib.join xs [] = xs.flatten
  | [] => rfl
  | x :: r => by
    rw [Lib.join_cons, Lib.joinTail, List.flatten_cons]
    congr 1
    have : (r.map (([] : List UInt8) ++ ·)) = r := by rw [show (fun y : List UInt8 => ([] : List UInt8) ++ y) = id by funext y; rfl, List.map_id]
    rw [this]
/-- The reversal of a slice's elements, from both ends. -/
theorem reverse_ok (xs : List ByteArray) (hl : xs.length ≤ 1000000) : Evt (fun n => slices_Reversestring_string_ n xs) xs.reverse := by
  apply Tot.of_eq
  dsimp only [slices_Reversestring_string_]
  rw [w64 (by omega) (by omega)]
  refine Tot.loop0 (fun s : List ByteArray × Int × Int => ∃ i : Nat, s.2 = ((i : Int), (xs.length : Int) - 1 - i) ∧ 2 * i ≤ xs.length + 1 ∧ s.1.length = xs.length ∧ ∀ t, t < xs.length → s.1[t]? = if t < i ∨ xs.length ≤ t + i then xs[xs.length - 1 - t]? else xs[t]?) (fun s => xs.length - s.2.1.toNat)
    ⟨0, by simp, by omega, rfl, fun t ht => by rw [if_neg (by omega)]⟩ ?_
  rintro ⟨ys, _⟩ ⟨i, rfl, hi, hyl, hy⟩
  dsimp only [slices_Reversestring_string__L0] at *
  refine Tot.condD (fun hlt => ?_) (fun hlt => Tot.ret ?_)
  · obtain ⟨j, hj⟩ : ∃ j : Nat, xs.length - 1 - i = j := ⟨_, rfl⟩
    have ej : (xs.length : Int) - 1 - i = (j : Int) := by omega
    rw [ej] at hlt ⊢
    have hij : i < j := by omega
    have hjl : j < ys.length := by omega
    have a1 : ys[j]? = some (ys[j]'hjl) := List.getElem?_eq_getElem hjl
    have a2 : ys[i]? = some (ys[i]'(by omega)) := List.getElem?_eq_getElem (by omega)
    obtain ⟨u, hu⟩ : ∃ u, ys[j]'hjl = u := ⟨_, rfl⟩
    obtain ⟨v, hv⟩ : ∃ v, ys[i]'(by omega) = v := ⟨_, rfl⟩
    rw [hu] at a1
    rw [hv] at a2
    have a3 : idx (upd ys (i : Int) u) (j : Int) = some u := by
      rw [idx_nat, upd_get, if_neg (by omega)]; exact a1
    refine Tot.bind (Tot.idxv (idx_get a1) (Tot.idxv (idx_get a2) (Tot.idxv (idx_get a2) (Tot.idxv a3 (Tot.ret (Tot.ret ?_))))))
    refine ⟨⟨i + 1, ?_, by omega, by rw [upd_len, upd_len]; exact hyl, fun t ht => ?_⟩, ?_⟩
    · rw [w64 (by omega) (by omega), w64 (by omega) (by omega)]
      show ((i : Int) + 1, (j : Int) - 1) = (((i + 1 : Nat) : Int), (xs.length : Int) - 1 - ((i + 1 : Nat) : Int))
      rw [Prod.mk.injEq]; omega
    · show (upd (upd ys (i : Int) u) (j : Int) v)[t]? = _
      rw [upd_get, upd_get, upd_len]
      have b1 := hy j (by omega)
      have b2 := hy i (by omega)
      rw [if_neg (by omega)] at b1 b2
      by_cases t1 : t = j
      · rw [if_pos ⟨t1, hjl⟩, if_pos (by omega), ← a2, b2]; congr 1; omega
      · rw [if_neg (fun h => t1 h.1)]
        by_cases t2 : t = i
        · rw [if_pos ⟨t2, by omega⟩, if_pos (by omega), ← a1, b1]; congr 1; omega
        · rw [if_neg (fun h => t2 h.1), hy t ht]
          by_cases t3 : t < i ∨ xs.length ≤ t + i
          · rw [if_pos t3, if_pos (by omega)]
          · rw [if_neg t3, if_neg (by omega)]
    · dsimp only
      rw [w64 (by omega) (by omega)]
      omega
  · apply List.ext_getElem?
    intro t
    rcases Nat.lt_or_ge t xs.length with h | h
    · rw [hy t h, List.getElem?_reverse h]
      split
      · rfl
      · congr 1; omega
    · rw [List.getElem?_eq_none (by omega), List.getElem?_eq_none (by simp; omega)]
end Go.Proofs.YthhghkcopfnbiaaGreatDoor

namespace Go.Proofs.YthhghkcopfnbiaaGreatDoor
open Go Go.Proofs.YthhghkcopfnbiaaGreatDoor.Gw
set_option linter.unusedVariables false

theorem dec_bound {m k : Nat} (h : m < B32 ^ k) : (Lib.decDigits m).length ≤ 10 * k + 1 := by
  refine dec_len (10 * k) m (Nat.lt_of_lt_of_le h ?_)
  rw [Nat.pow_succ, Nat.pow_mul]
  have : B32 ^ k ≤ (10 ^ 10) ^ k := Nat.pow_le_pow_left (by decide) k
  omega
theorem map_bs (l : List (List UInt8)) : (l.map bs).map (·.data.toList) = l := by
  rw [List.map_map]
  have : ((·.data.toList) ∘ bs : List UInt8 → List UInt8) = id := rfl
  rw [this, List.map_id]
theorem join_bs (l : List (List UInt8)) (hl : l.length ≤ 1000000) (hf : l.flatten.length ≤ 1000000) (n : Nat) : strings_Join n (l.map bs) (bs []) = some (bs l.flatten) := by
  unfold strings_Join joinS
  rw [map_bs, bs_data, join_none, if_pos ⟨by rw [List.length_map]; omega, by omega⟩]
  rfl
theorem itoa_pos {z : Int} (h : 0 ≤ z) : Lib.itoa z = Lib.decDigits z.natAbs := by unfold Lib.itoa; rw [if_neg (by omega)]; congr 1; omega
theorem itoa_neg {z : Int} (h : z < 0) : Lib.itoa z = 45 :: Lib.decDigits z.natAbs := by unfold Lib.itoa; rw [if_pos h]
theorem Text_ok {x : Int_2} {k : Nat} (hx : Sm x k) (hk : k ≤ 5000) : Evt (fun n => integer_Text n x) (bs (Lib.itoa (toZ x))) := by
  have hxl := hx.lt
  obtain ⟨b, l⟩ := x
  have hl := hx.len
  have ht := hx.tr
  have hw := hx.wd
  dsimp only at hl ht hw
  rw [natAbs_toZ] at hxl
  have eT : toZ ⟨b, l⟩ = if b then -(val l : Int) else (val l : Int) := rfl
  rw [eT]
  apply Tot.of_eq
  dsimp only [integer_Text]
  refine Tot.bind (Tot.evt (trim_ok l (by omega)) ?_)
  rw [← dig_val hw] at ht ⊢
  dsimp only at hxl
  generalize val l = M at *
  refine Tot.bind (Tot.at_ (fun n => clone_ok (dig M) (by omega) n) ?_)
  rw [len_pos]
  refine Tot.condD (fun h => Tot.ret ?_) (fun h0 => ?_)
  · subst h
    have : (if b = true then -((0 : Nat) : Int) else ((0 : Nat) : Int)) = 0 := by cases b <;> rfl
    rw [this, itoa_pos (by omega), show (0 : Int).natAbs = 0 from rfl, dec_small (by omega)]; rfl
  have hM : (Lib.decDigits M).length ≤ 10 * k + 1 := dec_bound hxl
  refine Tot.bind (Tot.mono (Q' := fun r : List ByteArray => ∃ ps : List (List UInt8), r = ps.map bs ∧ Lib.decDigits M = ps.reverse.flatten ∧ ps.length ≤ 32 * k + 1) ?_ ?_)
  · refine Tot.loop (fun s : List Int × List ByteArray => ∃ (q : Nat) (ps : List (List UInt8)), s = (dig q, ps.map bs) ∧ (0 < q → Lib.decDigits M = Lib.decDigits q ++ ps.reverse.flatten) ∧ (q = 0 → Lib.decDigits M = ps.reverse.flatten) ∧ q * 2 ^ ps.length ≤ M ∧ q ≤ M ∧ ps.length ≤ 32 * k + 1) (fun s => val s.1)
      ⟨M, [], rfl, fun _ => by simp, fun h => absurd h h0, by simp, Nat.le_refl _, by simp⟩ ?_
    rintro _ ⟨q, ps, rfl, h1, h2, h3, h4, h5⟩
    dsimp only [integer_Text_L1]
    rcases Nat.eq_zero_or_pos q with hq | hq
    · subst hq
      rw [dig_zero]
      exact Tot.condD (fun h => by simp at h) (fun _ => Tot.ret ⟨ps, rfl, h2 rfl, h5⟩)
    · have hql : (dig q).length ≠ 0 := fun h => by
        have := dig_nil.1 (List.eq_nil_of_length_eq_zero h)
        omega
      have hqk : q < B32 ^ k := by omega
      have hdl := dig_len hqk
      refine Tot.condD (fun _ => ?_) (fun h => absurd (show ((dig q).length : Int) > 0 by omega) h)
      obtain ⟨w, hw1, hw2, hw3, hw4⟩ := short_ok (dig q) 1000000000 (dig_wd q) (by omega) (by decide) (by decide)
      rw [val_dig] at hw1 hw3
      refine Tot.bind (Tot.evt hw1 (Tot.bind (Tot.evt (trim_ok w (by omega)) ?_)))
      rw [← dig_val hw2, hw3]
      have hr : q % 1000000000 < 1000000000 := Nat.mod_lt _ (by decide)
      have hdiv : q = q / 1000000000 * 10 ^ 9 + q % 1000000000 := by have := Nat.div_add_mod q 1000000000; rw [Nat.mul_comm] at this; exact this.symm
      obtain ⟨q1, hq1⟩ : ∃ q1, q / 1000000000 = q1 := ⟨_, rfl⟩
      obtain ⟨r, hr1⟩ : ∃ r, q % 1000000000 = r := ⟨_, rfl⟩
      rw [hq1, hr1] at hdiv
      rw [hr1] at hr
      rw [hq1, hr1]
      have hfmt : ∀ n, strconv_FormatUint n (IntKind.u64.wrap ((r : Nat) : Int)) 10 = some (bs (Lib.decDigits r)) := fun n => by
        rw [u64_nat (by omega)]
        unfold strconv_FormatUint fmtU
        rw [if_pos ⟨rfl, by omega, by omega⟩, Int.toNat_natCast]; rfl
      have hrd : (Lib.decDigits r).length ≤ 9 := dec_len 8 r (by omega)
      refine Tot.bind (Tot.at_ hfmt ?_)
      have hq1s : q1 * 2 ≤ q := by omega
      have hlen2 : 2 ^ ps.length < 2 ^ (32 * k) := by
        rw [← b32_pow]
        have := Nat.le_mul_of_pos_left (2 ^ ps.length) hq
        omega
      have hlen3 := (Nat.pow_lt_pow_iff_right (a := 2) (by decide)).1 hlen2
      refine Tot.bind (Tot.mono (Q' := fun s : ByteArray => ∃ p, s = bs p ∧ (0 < q1 → p = padD 9 r) ∧ (q1 = 0 → p = Lib.decDigits r)) ?_ ?_)
      · rcases Nat.eq_zero_or_pos q1 with hz | hz
        · rw [hz, dig_zero]
          exact Tot.condD (fun h => by simp at h) (fun _ => Tot.ret ⟨_, rfl, fun h => by omega, fun _ => rfl⟩)
        · have hzl : (dig q1).length ≠ 0 := fun h => by
            have := dig_nil.1 (List.eq_nil_of_length_eq_zero h)
            omega
          refine Tot.condD (fun _ => ?_) (fun h => absurd (show ((dig q1).length : Int) > 0 by omega) h)
          have hrep : ∀ n, strings_Repeat n (ByteArray.mk #[48]) (IntKind.i64.wrap (9 - ((bs (Lib.decDigits r)).size : Int))) = some (bs (List.replicate (9 - (Lib.decDigits r).length) 48)) := fun n => by
            rw [bs_size, i64n (n := 9 - (Lib.decDigits r).length) (by omega) (by omega)]
            unfold strings_Repeat repS
            rw [if_pos ⟨by omega, by omega, by decide⟩, Int.toNat_natCast]
            show some (bs (Lib.repeatL [48] _)) = _
            rw [rep_one]
          refine Tot.bind (Tot.at_ hrep (Tot.need (by rw [bs_size, bs_size, List.length_replicate]; omega) (Tot.ret ?_)))
          refine ⟨_, bs_app _ _, fun _ => (padD_dec 8 r (by omega)).symm, fun h => by omega⟩
      · rintro _ ⟨p, rfl, hp1, hp2⟩
        refine Tot.app (by simp; omega) (Tot.ret ⟨⟨q1, ps ++ [p], by simp, ?_, ?_, ?_, by omega, by simp; omega⟩, ?_⟩)
        · intro h
          rw [h1 hq, hdiv, dec_split q1 h 9 r (by omega), hp1 h]; simp
        · intro h
          rw [h1 hq, hp2 h]
          have : q = r := by rw [hdiv, h]; omega
          rw [this]; simp
        · rw [List.length_append, List.length_singleton, Nat.pow_succ, Nat.mul_comm (2 ^ _) 2, ← Nat.mul_assoc]
          exact Nat.le_trans (Nat.mul_le_mul_right _ hq1s) h3
        · dsimp only; rw [val_dig, val_dig]; omega
  · rintro _ ⟨ps, rfl, hps, hpl⟩
    refine Tot.bind (Tot.mono (Q' := fun s : List ByteArray => s = (if b then ps ++ [[45]] else ps).map bs) ?_ ?_)
    · cases b
      · exact Tot.cond (fun h => by cases h) (fun _ => Tot.ret rfl)
      · refine Tot.cond (fun _ => Tot.app (by simp; omega) (Tot.ret ?_)) (fun h => by cases h)
        simp [bs]
    · rintro _ rfl
      have hpl2 : (if b = true then ps ++ [[45]] else ps).length ≤ 32 * k + 2 := by
        split
        · rw [List.length_append, List.length_singleton]; omega
        · omega
      refine Tot.bind (Tot.evt (reverse_ok _ (by rw [List.length_map]; omega)) ?_)
      rw [← List.map_reverse]
      have hfl : (if b = true then ps ++ [[45]] else ps).reverse.flatten = Lib.itoa (if b = true then -(M : Int) else (M : Int)) := by
        cases b
        · simp only [Bool.false_eq_true, if_false]
          rw [itoa_pos (by omega), Int.natAbs_natCast, hps]
        · simp only [if_true]
          rw [itoa_neg (by omega), Int.natAbs_neg, Int.natAbs_natCast, hps]; simp
      have hfle : (Lib.itoa (if b = true then -(M : Int) else (M : Int))).length ≤ 10 * k + 2 := by
        cases b
        · simp only [Bool.false_eq_true, if_false]
          rw [itoa_pos (by omega), Int.natAbs_natCast]; omega
        · simp only [if_true]
          rw [itoa_neg (by omega), Int.natAbs_neg, Int.natAbs_natCast, List.length_cons]; omega
      refine Tot.bind (Tot.at_ (fun n => join_bs _ (by rw [List.length_reverse]; omega) (by rw [hfl]; omega) n) (Tot.ret ?_))
      rw [hfl]
end Go.Proofs.YthhghkcopfnbiaaGreatDoor

namespace Go.Proofs.YthhghkcopfnbiaaGreatDoor
open Go Go.Proofs.YthhghkcopfnbiaaGreatDoor.Gw
set_option linter.unusedVariables false

/- ### The reference's text -/
end Go.Proofs.YthhghkcopfnbiaaGreatDoor

namespace Go.Proofs.YthhghkcopfnbiaaGreatDoor
open Go Go.Proofs.YthhghkcopfnbiaaGreatDoor.Gw
set_option linter.unusedVariables false

/- ### Reading: bytes -/
def isD (c : UInt8) : Bool := decide (48 ≤ c.toNat ∧ c.toNat ≤ 57)
theorem bs_beq (a b : List UInt8) : ((bs a).toList == (bs b).toList) = decide (a = b) := by rw [bs_toList, bs_toList, beq_list]
/-- The sign and the digits of a text. -/
def split (l : List UInt8) : Bool × List UInt8 := match l with | [] => (false, []) | c :: d => if c = 45 then (true, d) else (false, c :: d)
/- ### Reading: numbers -/
def numV (l : List UInt8) : Nat := l.foldl (fun a c => a * 10 + (c.toNat - 48)) 0
end Go.Proofs.YthhghkcopfnbiaaGreatDoor

namespace Go.Proofs.YthhghkcopfnbiaaGreatDoor
open Go Go.Proofs.YthhghkcopfnbiaaGreatDoor.Gw
set_option linter.unusedVariables false

/- ### Reading: integers -/
def good (l : List UInt8) : Prop := (split l).2.all isD = true ∧ ∃ c t, (split l).2 = c :: t ∧ (c = 48 → l = [48])
def valueOf (l : List UInt8) : Int := if (split l).1 then -(numV (split l).2 : Int) else (numV (split l).2 : Int)
open Classical in
/-- What is read of a text. -/
noncomputable def reads (l : List UInt8) : Int_2 × Int := if good l then (ofZ (valueOf l), 0) else (⟨false, []⟩, 3)
/- ### The reference's reading -/
end Go.Proofs.YthhghkcopfnbiaaGreatDoor
