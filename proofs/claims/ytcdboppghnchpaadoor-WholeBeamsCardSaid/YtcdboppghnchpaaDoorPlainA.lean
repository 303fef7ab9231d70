/-
  Plain laws on the plain functions.
-/
import Derived.Test.YtcdboppghnchpaaDoorDataA
namespace Go.Proofs.YtcdboppghnchpaaDoor
open Go Go.Proofs.YtcdboppghnchpaaDoor.Gw
set_option linter.unusedVariables false

theorem Tot.cut {α β : Type} {f : Nat → Option α} {h : Nat → α → Option β} {Q : β → Prop} (r : α) (k : Tot f (· = r)) (k2 : Tot (fun n => h n r) Q) : Tot (fun n => (f n).bind (h n)) Q := Tot.bind (k.mono fun _ e => by rw [e]; exact k2)
theorem idx_get {α : Type} {xs : List α} {i : Nat} {x : α} (h : xs[i]? = some x) : idx xs (i : Int) = some x := by rw [idx_nat]; exact h
theorem take_succ {α : Type} {l : List α} {i : Nat} {x : α} (h : l[i]? = some x) : l.take (i + 1) = l.take i ++ [x] := by
  obtain ⟨hi, rfl⟩ := List.getElem?_eq_some_iff.1 h
  rw [List.take_succ_eq_append_getElem hi]
/- ### Words -/
abbrev B32 : Nat := 4294967296
/-- All are words. -/
def Wd (l : List Int) : Prop := ∀ x ∈ l, 0 ≤ x ∧ x < 4294967296
theorem Wd.cons {x : Int} {l : List Int} (h : Wd (x :: l)) : (0 ≤ x ∧ x < 4294967296) ∧ Wd l := ⟨h x (by simp), fun y hy => h y (by simp [hy])⟩
theorem Wd.nil : Wd [] := fun x h => by cases h
theorem Wd.app {l k : List Int} (h : Wd l) (j : Wd k) : Wd (l ++ k) := fun x hx => (List.mem_append.1 hx).elim (h x) (j x)
theorem Wd.take {l : List Int} (h : Wd l) (i : Nat) : Wd (l.take i) := fun x hx => h x (List.mem_of_mem_take hx)
theorem Wd.get {l : List Int} (h : Wd l) {i : Nat} {x : Int} (hx : l[i]? = some x) : 0 ≤ x ∧ x < 4294967296 := h x (List.mem_of_getElem? hx)
/-- The number that little-endian words make. -/
def val : List Int → Nat
  | [] => 0
  | x :: l => x.toNat + B32 * val l
theorem val_app : ∀ (l k : List Int), val (l ++ k) = val l + B32 ^ l.length * val k
  | [], k => by simp [val]
  | x :: l, k => by
    rw [List.cons_append, val, val, val_app l k, List.length_cons, Nat.pow_succ, Nat.mul_add]
    rw [Nat.mul_comm (B32 ^ l.length) B32, Nat.mul_assoc, Nat.add_assoc]
theorem val_lt : ∀ {l : List Int}, Wd l → val l < B32 ^ l.length
  | [], _ => by simp [val]
  | x :: l, h => by
    obtain ⟨hx, hl⟩ := h.cons
    have := val_lt hl
    rw [val, List.length_cons, Nat.pow_succ]
    have h2 : B32 * (val l + 1) ≤ B32 * B32 ^ l.length := Nat.mul_le_mul_left _ this
    rw [Nat.mul_comm (B32 ^ l.length)]
    rw [Nat.mul_add] at h2
    have hB : B32 = 4294967296 := rfl
    omega
/-- The words of a number, without leading zeros. -/
def dig (n : Nat) : List Int := if h : n = 0 then [] else ((n % B32 : Nat) : Int) :: dig (n / B32)
termination_by n
decreasing_by exact Nat.div_lt_self (by omega) (by decide)
theorem dig_zero : dig 0 = [] := by rw [dig]; simp
theorem dig_pos {n : Nat} (h : n ≠ 0) : dig n = ((n % B32 : Nat) : Int) :: dig (n / B32) := by rw [dig]; simp [h]
theorem dig_nil {n : Nat} : dig n = [] ↔ n = 0 := by
  constructor
  · intro h
    rcases Nat.eq_zero_or_pos n with h0 | h0
    · exact h0
    · rw [dig_pos (by omega)] at h; cases h
  · rintro rfl; exact dig_zero
theorem dig_wd (n : Nat) : Wd (dig n) := by
  induction n using Nat.strongRecOn with
  | _ n ih =>
    rcases Nat.eq_zero_or_pos n with h0 | h0
    · subst h0; rw [dig_zero]; exact Wd.nil
    · rw [dig_pos (by omega)]
      intro x hx
      rcases List.mem_cons.1 hx with rfl | hx
      · have := Nat.mod_lt n (show 0 < B32 by decide)
        simp only [B32] at this ⊢
        omega
      · exact ih _ (Nat.div_lt_self h0 (by decide)) x hx
theorem val_dig (n : Nat) : val (dig n) = n := by
  induction n using Nat.strongRecOn with
  | _ n ih =>
    rcases Nat.eq_zero_or_pos n with h0 | h0
    · subst h0; rw [dig_zero]; rfl
    · rw [dig_pos (by omega), val, ih _ (Nat.div_lt_self h0 (by decide)), Int.toNat_natCast]
      exact Nat.mod_add_div n B32
/-- Without leading zeros. -/
def trimL : List Int → List Int
  | [] => []
  | x :: l => match trimL l with
    | [] => if x = 0 then [] else [x]
    | y :: t => x :: y :: t
theorem trimL_cons (x : Int) (l : List Int) : trimL (x :: l) = if trimL l = [] ∧ x = 0 then [] else x :: trimL l := by
  rw [trimL]
  cases h : trimL l with
  | nil => by_cases hx : x = 0 <;> simp [hx]
  | cons y t => simp
theorem dig_val : ∀ {l : List Int}, Wd l → dig (val l) = trimL l
  | [], _ => by rw [val, dig_zero]; rfl
  | x :: l, h => by
    obtain ⟨hx, hl⟩ := h.cons
    have ih := dig_val hl
    rw [trimL_cons, val]
    by_cases h0 : x.toNat + B32 * val l = 0
    · have h1 : x = 0 := by simp only [B32] at h0; omega
      have h2 : val l = 0 := by simp only [B32] at h0; omega
      rw [h0, dig_zero, ← ih, h2, dig_zero, if_pos ⟨rfl, h1⟩]
    · rw [dig_pos h0]
      have e1 : (x.toNat + B32 * val l) % B32 = x.toNat := by simp only [B32]; omega
      have e2 : (x.toNat + B32 * val l) / B32 = val l := by simp only [B32]; omega
      rw [e1, e2, ih, if_neg]
      · congr 1; omega
      · rintro ⟨h1, h2⟩
        rw [← ih, dig_nil] at h1
        rw [h1, h2] at h0; simp at h0
theorem trimL_zero (l : List Int) : trimL (l ++ [0]) = trimL l := by
  induction l with
  | nil => rfl
  | cons x l ih => rw [List.cons_append, trimL_cons, trimL_cons, ih]
theorem trimL_last (l : List Int) {x : Int} (h : x ≠ 0) : trimL (l ++ [x]) = l ++ [x] := by
  induction l with
  | nil => simp [trimL, h]
  | cons y l ih => rw [List.cons_append, trimL_cons, ih, if_neg (fun k => by simp at k)]
theorem trimL_len (l : List Int) : (trimL l).length ≤ l.length := by
  induction l with
  | nil => exact Nat.le_refl _
  | cons x l ih =>
    rw [trimL_cons]
    split
    · simp
    · simp only [List.length_cons]; omega
/-- One round of the loop that strikes leading zeros. -/
theorem trim_round {l : List Int} (h : l ≠ []) : ∃ (k : List Int) (x : Int), l = k ++ [x] ∧ idx l ((l.length : Int) - 1) = some x ∧ Gw.cut l 0 ((l.length : Int) - 1) = some k := by
  refine ⟨l.dropLast, l.getLast h, (List.dropLast_concat_getLast h).symm, ?_, ?_⟩
  · have hp := List.length_pos_iff.2 h
    rw [show ((l.length : Int) - 1) = ((l.length - 1 : Nat) : Int) by omega, idx_nat, List.getElem?_eq_getElem (by omega), List.getLast_eq_getElem]
  · have hp := List.length_pos_iff.2 h
    unfold Gw.cut
    rw [if_pos (by omega), show (((l.length : Int) - 1)).toNat = l.length - 1 by omega]
    simp [List.dropLast_eq_take]
theorem trim_ok (l : List Int) (hl : l.length ≤ 1000000) : Evt (fun n => integer_trim n l) (trimL l) := by
  apply Tot.of_eq
  dsimp only [integer_trim]
  refine Tot.cut (trimL l) ?_ (Tot.ret rfl)
  refine Tot.loop0 (fun s : List Int => s.length ≤ l.length ∧ trimL s = trimL l) (fun s => s.length) ⟨Nat.le_refl _, rfl⟩ ?_
  rintro s ⟨hs, he⟩
  dsimp only [integer_trim_L1]
  by_cases h0 : s = []
  · subst h0
    refine Tot.bind (Tot.condD (fun h => by simp at h) (fun _ => Tot.ret (Tot.cond (fun h => by cases h) (fun _ => Tot.ret he))))
  · obtain ⟨k, x, rfl, e1, e2⟩ := trim_round h0
    rw [w64 (by omega) (by omega)]
    refine Tot.bind (Tot.condD (fun _ => Tot.idxv e1 (Tot.ret ?_)) (fun h => by simp at h))
    refine Tot.condE (fun hx => ?_) (fun hx => Tot.ret ?_)
    · subst hx
      refine Tot.bind (Tot.val e2 (Tot.ret ⟨⟨by simp at hs; omega, by rw [← he, trimL_zero]⟩, by simp⟩))
    · rw [← he, trimL_last k hx]
/- ### Integers -/
def toZ (x : Int_2) : Int := if x.Neg then -(val x.Mag : Int) else (val x.Mag : Int)
def ofZ (z : Int) : Int_2 := ⟨decide (z < 0), dig z.natAbs⟩
theorem toZ_ofZ (z : Int) : toZ (ofZ z) = z := by
  unfold toZ ofZ
  dsimp only
  rw [val_dig]
  by_cases h : z < 0
  · simp [h]; omega
  · simp [h]; omega
/-- A sign and words, in canonical form. -/
theorem made_ok (b : Bool) (l : List Int) (hw : Wd l) (hl : l.length ≤ 1000000) : Evt (fun n => integer_made n b l) (ofZ (toZ ⟨b, l⟩)) := by
  apply Tot.of_eq
  dsimp only [integer_made]
  refine Tot.bind (Tot.evt (trim_ok l hl) ?_)
  rw [← dig_val hw]
  have hnat : (toZ ⟨b, l⟩).natAbs = val l := by unfold toZ; dsimp only; split <;> omega
  unfold ofZ
  rw [hnat]
  refine Tot.condE (fun h => Tot.ret ?_) (fun h => Tot.ret ?_)
  · have hd : dig (val l) = [] := List.length_eq_zero_iff.1 (by omega)
    have hv := dig_nil.1 hd
    rw [hd]
    congr 1
    unfold toZ; rw [hv]; simp
  · have hd : val l ≠ 0 := fun e => by rw [e, dig_zero] at h; simp at h
    congr 1
    unfold toZ
    cases b
    · simp
    · simp; omega
end Go.Proofs.YtcdboppghnchpaaDoor

namespace Go.Proofs.YtcdboppghnchpaaDoor
open Go Go.Proofs.YtcdboppghnchpaaDoor.Gw
set_option linter.unusedVariables false

/- ### Comparison -/
def cmpN (m k : Nat) : Int := if m < k then -1 else if k < m then 1 else 0
theorem val_snoc (l : List Int) (x : Int) : val (l ++ [x]) = val l + B32 ^ l.length * x.toNat := by rw [val_app]; simp [val]
theorem val_split {l : List Int} {i : Nat} {x : Int} (h : l[i]? = some x) : val l = val (l.take i) + B32 ^ i * (x.toNat + B32 * val (l.drop (i + 1))) := by
  obtain ⟨hi, rfl⟩ := List.getElem?_eq_some_iff.1 h
  have e : l = l.take i ++ l.drop i := (List.take_append_drop i l).symm
  conv => lhs; rw [e]
  rw [val_app, List.length_take, Nat.min_eq_left (by omega), List.drop_eq_getElem_cons hi, val]
theorem dig_bounds (n : Nat) : n < B32 ^ (dig n).length ∧ (n ≠ 0 → B32 ^ ((dig n).length - 1) ≤ n) := by
  induction n using Nat.strongRecOn with
  | _ n ih =>
    rcases Nat.eq_zero_or_pos n with h0 | h0
    · subst h0; rw [dig_zero]; simp
    · obtain ⟨h1, h2⟩ := ih (n / B32) (Nat.div_lt_self h0 (by decide))
      rw [dig_pos (by omega), List.length_cons]
      refine ⟨?_, fun _ => ?_⟩
      · rw [Nat.pow_succ]; exact (Nat.div_lt_iff_lt_mul (by decide)).1 h1
      · rw [Nat.add_sub_cancel]
        by_cases hz : n / B32 = 0
        · rw [hz, dig_zero]; simp; omega
        · have := h2 hz
          have hl : 1 ≤ (dig (n / B32)).length := by
            rw [dig_pos hz]; simp
          have e : (dig (n / B32)).length = (dig (n / B32)).length - 1 + 1 := by omega
          rw [e, Nat.pow_succ]
          exact (Nat.le_div_iff_mul_le (by decide)).1 this
theorem dig_short {m k : Nat} (h : (dig m).length < (dig k).length) : m < k := by
  have h1 := (dig_bounds m).1
  have hk : k ≠ 0 := by rintro rfl; rw [dig_zero] at h; simp at h
  have h2 := (dig_bounds k).2 hk
  have : B32 ^ (dig m).length ≤ B32 ^ ((dig k).length - 1) := Nat.pow_le_pow_right (by decide) (by omega)
  omega
theorem split_lt {a b : List Int} {i : Nat} {x y : Int} (ha : Wd a) (hb : Wd b) (hx : a[i]? = some x) (hy : b[i]? = some y) (hd : a.drop (i + 1) = b.drop (i + 1)) (hxy : x < y) : val a < val b := by
  rw [val_split hx, val_split hy, hd]
  have hxw := ha.get hx
  have h1 := val_lt (ha.take i)
  rw [List.length_take, Nat.min_eq_left (by have := (List.getElem?_eq_some_iff.1 hx).1; omega)] at h1
  have h2 : B32 ^ i * (x.toNat + B32 * val (b.drop (i + 1)) + 1) ≤ B32 ^ i * (y.toNat + B32 * val (b.drop (i + 1))) := Nat.mul_le_mul_left _ (by omega)
  rw [Nat.mul_add _ _ 1] at h2
  omega
theorem cmpN_lt {m k : Nat} (h : m < k) : cmpN m k = -1 := by unfold cmpN; rw [if_pos h]
theorem cmpN_gt {m k : Nat} (h : k < m) : cmpN m k = 1 := by unfold cmpN; rw [if_neg (by omega), if_pos h]
theorem cmpN_self (m : Nat) : cmpN m m = 0 := by unfold cmpN; rw [if_neg (by omega), if_neg (by omega)]
theorem drop_step {a b : List Int} {i : Nat} {x : Int} (hx : a[i]? = some x) (hy : b[i]? = some x) (hd : a.drop (i + 1) = b.drop (i + 1)) : a.drop i = b.drop i := by
  obtain ⟨h1, e1⟩ := List.getElem?_eq_some_iff.1 hx
  obtain ⟨h2, e2⟩ := List.getElem?_eq_some_iff.1 hy
  rw [List.drop_eq_getElem_cons h1, List.drop_eq_getElem_cons h2, hd, e1, e2]
theorem compare_ok (m k : Nat) (hm : (dig m).length ≤ 1000000) (hk : (dig k).length ≤ 1000000) : Evt (fun n => integer_compare n (dig m) (dig k)) (cmpN m k) := by
  apply Tot.of_eq
  dsimp only [integer_compare]
  have wa := dig_wd m
  have wb := dig_wd k
  refine Tot.condN (fun h => Tot.condD (fun h2 => Tot.ret (cmpN_lt (dig_short (by omega))).symm) (fun h2 => Tot.ret (cmpN_gt (dig_short (by omega))).symm)) (fun h => ?_)
  have hlen : (dig m).length = (dig k).length := by omega
  have hva := val_dig m
  have hvb := val_dig k
  generalize dig m = a at *
  generalize dig k = b at *
  subst hva hvb
  refine Tot.bind (Tot.mono (Q' := fun r => (r = Out.go () ∧ a = b) ∨ (r = Out.done (-1) ∧ val a < val b) ∨ (r = Out.done 1 ∧ val b < val a)) ?_ ?_)
  · rw [w64 (by omega) (by omega)]
    refine Tot.loop0 (fun s : Int => ∃ i : Nat, s = (i : Int) - 1 ∧ i ≤ a.length ∧ a.drop i = b.drop i) (fun s => (s + 1).toNat) ⟨a.length, rfl, Nat.le_refl _, by rw [List.drop_length, hlen, List.drop_length]⟩ ?_
    rintro _ ⟨i, rfl, hi, hd⟩
    dsimp only [integer_compare_L1]
    refine Tot.condD (fun hc => ?_) (fun hc => ?_)
    · obtain ⟨i, rfl⟩ : ∃ j, i = j + 1 := ⟨i - 1, by omega⟩
      have hx : a[i]? = some (a[i]'(by omega)) := List.getElem?_eq_getElem (by omega)
      have hy : b[i]? = some (b[i]'(by omega)) := List.getElem?_eq_getElem (by omega)
      generalize a[i]'(by omega) = x at hx
      generalize b[i]'(by omega) = y at hy
      have e : (((i + 1 : Nat) : Int) - 1) = (i : Int) := by omega
      rw [e]
      refine Tot.idxv (idx_get hx) (Tot.idxv (idx_get hy) (Tot.condN (fun hne => ?_) (fun he => Tot.ret ?_)))
      · refine Tot.idxv (idx_get hx) (Tot.idxv (idx_get hy) (Tot.condD (fun hlt => Tot.ret ?_) (fun hge => Tot.ret ?_)))
        · exact .inr (.inl ⟨rfl, split_lt wa wb hx hy hd hlt⟩)
        · exact .inr (.inr ⟨rfl, split_lt wb wa hy hx hd.symm (by omega)⟩)
      · subst he
        rw [w64 (by omega) (by omega)]
        exact ⟨⟨i, rfl, by omega, drop_step hx hy hd⟩, (by first | omega | (dsimp only; omega) | (simp; done) | (simp; omega))⟩
    · have : i = 0 := by omega
      subst this
      exact Tot.ret (.inl ⟨rfl, by simpa using hd⟩)
  · rintro _ (⟨rfl, h⟩ | ⟨rfl, h⟩ | ⟨rfl, h⟩)
    · subst h; exact Tot.ret (cmpN_self _).symm
    · exact Tot.ret (cmpN_lt h).symm
    · exact Tot.ret (cmpN_gt h).symm
/- ### Sums -/
theorem wu32_nat (s : Nat) : IntKind.u32.wrap (s : Int) = ((s % B32 : Nat) : Int) := by
  unfold IntKind.wrap
  simp only [IntKind.signed, IntKind.bits]
  simp [B32]
theorem shr32 (s : Nat) : ((s : Int).fdiv (2 ^ min (32 : Int).toNat (IntKind.u64).bits)) = ((s / B32 : Nat) : Int) := by
  have : (2 : Int) ^ min (32 : Int).toNat (IntKind.u64).bits = ((B32 : Nat) : Int) := by decide
  rw [this, Int.fdiv_eq_ediv_of_nonneg _ (by omega)]
  rfl
theorem add32 (x y c n : Nat) (hx : x < B32) (hy : y < B32) (hc : c ≤ 1) : bits_Add32 n (x : Int) (y : Int) (c : Int) = some ((((x + y + c) % B32 : Nat) : Int), (((x + y + c) / B32 : Nat) : Int)) := by
  have hB : B32 = 4294967296 := rfl
  unfold bits_Add32
  dsimp only
  rw [wu64 (x := (x : Int)) (by omega) (by omega), wu64 (x := (y : Int)) (by omega) (by omega), wu64 (x := (c : Int)) (by omega) (by omega), wu64 (x := (x : Int) + y) (by omega) (by omega), wu64 (x := (x : Int) + y + c) (by omega) (by omega)]
  rw [show (x : Int) + y + c = ((x + y + c : Nat) : Int) by omega, wu32_nat, shr32, wu32_nat]
  have hq : (x + y + c) / B32 < B32 := by rw [hB]; omega
  rw [Nat.mod_eq_of_lt hq]
theorem carry_eq (p s : Nat) : p * (s % B32) + p * B32 * (s / B32) = p * s := by rw [Nat.mul_assoc, ← Nat.mul_add, Nat.mod_add_div]
/-- A word, or 0 behind the end. -/
def at0 (l : List Int) (i : Nat) : Nat := (l[i]?.getD 0).toNat
theorem val_take (l : List Int) (i : Nat) : val (l.take (i + 1)) = val (l.take i) + B32 ^ i * at0 l i := by
  unfold at0
  rcases Nat.lt_or_ge i l.length with h | h
  · have hx : l[i]? = some l[i] := List.getElem?_eq_getElem h
    rw [take_succ hx, val_snoc, List.length_take, Nat.min_eq_left (by omega), hx]; rfl
  · rw [List.take_of_length_le (by omega), List.take_of_length_le (by omega), List.getElem?_eq_none (by omega)]; simp
theorem at0_lt {l : List Int} (h : Wd l) (i : Nat) : at0 l i < B32 := by
  unfold at0
  cases hx : l[i]? with
  | none => simp
  | some x => have := h.get hx; simp [B32]; omega
theorem at0_idx {l : List Int} (h : Wd l) {i : Nat} (hi : i < l.length) : idx l (i : Int) = some ((at0 l i : Nat) : Int) := by
  have hx : l[i]? = some l[i] := List.getElem?_eq_getElem hi
  have := h.get hx
  rw [idx_nat, hx]
  unfold at0
  rw [hx]
  simp; omega
theorem at0_out {l : List Int} {i : Nat} (h : l.length ≤ i) : at0 l i = 0 := by unfold at0; rw [List.getElem?_eq_none h]; rfl
theorem wd_one (s : Nat) : Wd [((s % B32 : Nat) : Int)] := fun x hx => by
  have := Nat.mod_lt s (show 0 < B32 by decide)
  simp only [List.mem_singleton] at hx
  subst hx
  simp only [B32] at *
  omega
theorem plus_ok (a b : List Int) (ha : Wd a) (hb : Wd b) (la : a.length ≤ 1000000) (lb : b.length ≤ 1000000) : ∃ r, Evt (fun n => integer_plus n a b) r ∧ Wd r ∧ val r = val a + val b ∧ r.length ≤ max a.length b.length + 1 := by
  suffices h : Tot (fun n => integer_plus n a b) (fun r => Wd r ∧ val r = val a + val b ∧ r.length ≤ max a.length b.length + 1) from h
  dsimp only [integer_plus]
  have main : ∀ a b : List Int, Wd a → Wd b → a.length ≤ 1000000 → b.length ≤ a.length → Tot (fun n => (mkc 0 (IntKind.i64.wrap ((a.length : Int) + 1)) (0 : Int)).bind fun o => (loopN (integer_plus_L1 n a b) n (o, 0, 0)).bind fun r => (app r.1 [r.2]).bind fun z => some z) (fun r => Wd r ∧ val r = val a + val b ∧ r.length ≤ a.length + 1) := by
    intro a b ha hb la hle
    rw [w64 (by omega) (by omega)]
    have hmk : mkc 0 ((a.length : Int) + 1) (0 : Int) = some [] := by unfold mkc; rw [if_pos (by omega)]; rfl
    refine Tot.bind (Tot.val hmk (Tot.bind ?_))
    refine Tot.mono (Q' := fun r : List Int × Int => ∃ c : Nat, r.2 = (c : Int) ∧ c ≤ 1 ∧ r.1.length = a.length ∧ Wd r.1 ∧ val r.1 + B32 ^ a.length * c = val a + val b) ?_ ?_
    · refine Tot.loop (fun s : List Int × Int × Int => ∃ c i : Nat, s.2 = ((c : Int), (i : Int)) ∧ c ≤ 1 ∧ i ≤ a.length ∧ s.1.length = i ∧ Wd s.1 ∧ val s.1 + B32 ^ i * c = val (a.take i) + val (b.take i)) (fun s => a.length - s.2.2.toNat)
        ⟨0, 0, rfl, by omega, by omega, rfl, Wd.nil, by simp [val]⟩ ?_
      rintro ⟨out, _⟩ ⟨c, i, rfl, hc, hi, hl, hw, hv⟩
      dsimp only [integer_plus_L1] at *
      refine Tot.condD (fun hlt => ?_) (fun hlt => ?_)
      · rw [w64 (by omega) (by omega)]
        refine Tot.idxv (at0_idx ha (by omega)) (Tot.cut (((at0 b i : Nat) : Int)) (Tot.condD (fun h2 => Tot.idxv (at0_idx hb (by omega)) (Tot.ret rfl)) (fun h2 => Tot.ret (by rw [at0_out (by omega)]; rfl))) ?_)
        refine Tot.bind (Tot.at_ (fun k => add32 _ _ _ k (at0_lt ha i) (at0_lt hb i) hc) (Tot.app (by simp; omega) (Tot.ret ⟨⟨_, i + 1, rfl, ?_, by omega, by simp; omega, hw.app (wd_one _), ?_⟩, (by first | omega | (dsimp only; omega) | (simp; done) | (simp; omega))⟩)))
        · have := at0_lt ha i
          have := at0_lt hb i
          simp only [B32] at *
          omega
        · have := carry_eq (B32 ^ i) (at0 a i + at0 b i + c)
          rw [val_snoc, hl, val_take, val_take, Int.toNat_natCast, Nat.pow_succ]
          rw [Nat.mul_add, Nat.mul_add] at this
          omega
      · obtain rfl : i = a.length := by omega
        rw [List.take_length, List.take_of_length_le (by omega)] at hv
        exact Tot.ret ⟨c, rfl, hc, hl, hw, hv⟩
    · rintro ⟨out, _⟩ ⟨c, rfl, hc, hl, hw, hv⟩
      dsimp only at *
      refine Tot.app (by simp; omega) (Tot.ret ⟨hw.app fun x hx => by simp at hx; subst hx; omega, ?_, by simp; omega⟩)
      rw [val_snoc, hl, Int.toNat_natCast]; exact hv
  refine Tot.bind (Tot.condD (fun h => Tot.ret (Tot.mono (main b a hb ha lb (by omega)) ?_)) (fun h => Tot.ret (Tot.mono (main a b ha hb la (by omega)) ?_)))
  · rintro r ⟨h1, h2, h3⟩; exact ⟨h1, by omega, by omega⟩
  · rintro r ⟨h1, h2, h3⟩; exact ⟨h1, h2, by omega⟩
end Go.Proofs.YtcdboppghnchpaaDoor

namespace Go.Proofs.YtcdboppghnchpaaDoor
open Go Go.Proofs.YtcdboppghnchpaaDoor.Gw
set_option linter.unusedVariables false

/- ### Differences -/
theorem wu32_eq (z : Int) : IntKind.u32.wrap z = z % 4294967296 := by
  unfold IntKind.wrap
  simp only [IntKind.signed, IntKind.bits]
  simp
theorem ofInt32 (n : Nat) : BitVec.ofInt 32 (n : Int) = BitVec.ofNat 32 n := by simp
theorem u32_nat {n : Nat} (h : n < B32) : IntKind.u32.wrap (n : Int) = n := by rw [wu32_eq]; simp only [B32] at h; omega
theorem iu_and {a b : Nat} (ha : a < B32) (hb : b < B32) : ib .and .u32 (a : Int) b = ((a &&& b : Nat) : Int) := by
  have h : (BitVec.ofInt 32 (a : Int) &&& BitVec.ofInt 32 (b : Int)).toNat = a &&& b := by
    simp only [ofInt32, BitVec.toNat_and, BitVec.toNat_ofNat]
    rw [Nat.mod_eq_of_lt ha, Nat.mod_eq_of_lt hb]
  show IntKind.u32.wrap ((BitVec.ofInt 32 (a : Int) &&& BitVec.ofInt 32 (b : Int)).toNat : Int) = _
  rw [h, u32_nat (Nat.lt_of_le_of_lt Nat.and_le_left ha)]
theorem iu_or {a b : Nat} (ha : a < B32) (hb : b < B32) : ib .or .u32 (a : Int) b = ((a ||| b : Nat) : Int) := by
  have h : (BitVec.ofInt 32 (a : Int) ||| BitVec.ofInt 32 (b : Int)).toNat = a ||| b := by
    simp only [ofInt32, BitVec.toNat_or, BitVec.toNat_ofNat]
    rw [Nat.mod_eq_of_lt ha, Nat.mod_eq_of_lt hb]
  show IntKind.u32.wrap ((BitVec.ofInt 32 (a : Int) ||| BitVec.ofInt 32 (b : Int)).toNat : Int) = _
  rw [h, u32_nat (Nat.or_lt_two_pow (n := 32) ha hb)]
theorem iu_xor {a b : Nat} (ha : a < B32) (hb : b < B32) : ib .xor .u32 (a : Int) b = ((a ^^^ b : Nat) : Int) := by
  have h : (BitVec.ofInt 32 (a : Int) ^^^ BitVec.ofInt 32 (b : Int)).toNat = a ^^^ b := by
    simp only [ofInt32, BitVec.toNat_xor, BitVec.toNat_ofNat]
    rw [Nat.mod_eq_of_lt ha, Nat.mod_eq_of_lt hb]
  show IntKind.u32.wrap ((BitVec.ofInt 32 (a : Int) ^^^ BitVec.ofInt 32 (b : Int)).toNat : Int) = _
  rw [h, u32_nat (Nat.xor_lt_two_pow (n := 32) ha hb)]
theorem tb31 {x : Nat} (h : x < B32) : x.testBit 31 = decide (2147483648 ≤ x) := by
  rw [Nat.testBit_eq_decide_div_mod_eq, decide_eq_decide]
  simp only [B32] at h
  have e : (2 : Nat) ^ 31 = 2147483648 := rfl
  rw [e]; omega
theorem shr31 {v : Nat} (h : v < B32) : ((v : Int).fdiv (2 ^ min (31 : Int).toNat (IntKind.u32).bits)) = (((v.testBit 31).toNat : Nat) : Int) := by
  have : (2 : Int) ^ min (31 : Int).toNat (IntKind.u32).bits = ((2147483648 : Nat) : Int) := by decide
  rw [this, Int.fdiv_eq_ediv_of_nonneg _ (by omega), tb31 h]
  simp only [B32] at h
  by_cases hv : 2147483648 ≤ v
  · simp [hv]; omega
  · simp [hv]; omega
theorem sub32 (x y c n : Nat) (hx : x < B32) (hy : y < B32) (hc : c ≤ 1) : bits_Sub32 n (x : Int) (y : Int) (c : Int) = some ((((x + B32 + B32 - y - c) % B32 : Nat) : Int), ((if x < y + c then 1 else 0 : Nat) : Int)) := by
  have hB : B32 = 4294967296 := rfl
  have hd : IntKind.u32.wrap ((IntKind.u32.wrap ((x : Int) - y)) - c) = (((x + B32 + B32 - y - c) % B32 : Nat) : Int) := by
    rw [wu32_eq, wu32_eq, hB]; rw [hB] at hx hy; omega
  have hdl : (x + B32 + B32 - y - c) % B32 < B32 := Nat.mod_lt _ (by decide)
  have hdv : (x + B32 + B32 - y - c) % B32 = if x < y + c then x + B32 - y - c else x - y - c := by
    simp only [B32] at *
    split <;> omega
  unfold bits_Sub32
  dsimp only
  rw [hd]
  generalize (x + B32 + B32 - y - c) % B32 = d at *
  have hm : (if (IntKind.u32).signed then -1 else (IntKind.u32).max : Int) = ((4294967295 : Nat) : Int) := by decide
  have hml : 4294967295 < B32 := by decide
  have hxy : x ^^^ y < B32 := Nat.xor_lt_two_pow (n := 32) hx hy
  have h1 : 4294967295 ^^^ x < B32 := Nat.xor_lt_two_pow (n := 32) hml hx
  have h2 : 4294967295 ^^^ (x ^^^ y) < B32 := Nat.xor_lt_two_pow (n := 32) hml hxy
  have h3 : (4294967295 ^^^ x) &&& y < B32 := Nat.lt_of_le_of_lt Nat.and_le_left h1
  have h4 : (4294967295 ^^^ (x ^^^ y)) &&& d < B32 := Nat.lt_of_le_of_lt Nat.and_le_left h2
  rw [hm, iu_xor hml hx, iu_and h1 hy, iu_xor hx hy, iu_xor hml hxy, iu_and h2 hdl, iu_or h3 h4, shr31 (Nat.or_lt_two_pow (n := 32) h3 h4)]
  congr 2
  rw [Nat.testBit_or, Nat.testBit_and, Nat.testBit_and, Nat.testBit_xor, Nat.testBit_xor, Nat.testBit_xor, tb31 hml, tb31 hx, tb31 hy, tb31 hdl, hdv]
  simp only [B32] at *
  by_cases a1 : 2147483648 ≤ x <;> by_cases a2 : 2147483648 ≤ y <;> by_cases a3 : x < y + c
  all_goals (simp only [a1, a2, a3, if_true, if_false, decide_true, decide_false])
  all_goals first
    | omega
    | (by_cases a4 : 2147483648 ≤ x + 4294967296 - y - c <;> simp [a4] <;> omega)
    | (by_cases a4 : 2147483648 ≤ x - y - c <;> simp [a4] <;> omega)
theorem borrow_eq {p x y c : Nat} (hx : x < B32) (hy : y < B32) (hc : c ≤ 1) : p * ((x + B32 + B32 - y - c) % B32) + p * y + p * c = p * x + p * B32 * (if x < y + c then 1 else 0) := by
  have hB : B32 = 4294967296 := rfl
  rw [Nat.mul_assoc, ← Nat.mul_add, ← Nat.mul_add, ← Nat.mul_add]
  congr 1
  simp only [B32] at *
  split <;> omega
theorem minus_ok (a b : List Int) (ha : Wd a) (hb : Wd b) (la : a.length ≤ 1000000) (lb : b.length ≤ a.length) (hle : val b ≤ val a) : ∃ r, Evt (fun n => integer_minus n a b) r ∧ Wd r ∧ val r = val a - val b ∧ r.length = a.length := by
  suffices h : Tot (fun n => integer_minus n a b) (fun r => Wd r ∧ val r = val a - val b ∧ r.length = a.length) from h
  dsimp only [integer_minus]
  have hmk : mkc 0 (a.length : Int) (0 : Int) = some [] := by unfold mkc; rw [if_pos (by omega)]; rfl
  refine Tot.bind (Tot.val hmk (Tot.bind (Tot.mono (Q' := fun r => Wd r ∧ val r = val a - val b ∧ r.length = a.length) ?_ fun r h => Tot.ret h)))
  refine Tot.loop (fun s : List Int × Int × Int => ∃ c i : Nat, s.2 = ((c : Int), (i : Int)) ∧ c ≤ 1 ∧ i ≤ a.length ∧ s.1.length = i ∧ Wd s.1 ∧ val s.1 + val (b.take i) = val (a.take i) + B32 ^ i * c) (fun s => a.length - s.2.2.toNat)
    ⟨0, 0, rfl, by omega, by omega, rfl, Wd.nil, by simp [val]⟩ ?_
  rintro ⟨out, _⟩ ⟨c, i, rfl, hc, hi, hl, hw, hv⟩
  dsimp only [integer_minus_L1] at *
  refine Tot.condD (fun hlt => ?_) (fun hlt => ?_)
  · rw [w64 (by omega) (by omega)]
    refine Tot.idxv (at0_idx ha (by omega)) (Tot.cut (((at0 b i : Nat) : Int)) (Tot.condD (fun h2 => Tot.idxv (at0_idx hb (by omega)) (Tot.ret rfl)) (fun h2 => Tot.ret (by rw [at0_out (by omega)]; rfl))) ?_)
    refine Tot.bind (Tot.at_ (fun k => sub32 _ _ _ k (at0_lt ha i) (at0_lt hb i) hc) (Tot.app (by simp; omega) (Tot.ret ⟨⟨_, i + 1, rfl, ?_, by omega, by simp; omega, hw.app (wd_one _), ?_⟩, (by first | omega | (dsimp only; omega) | (simp; done) | (simp; omega))⟩)))
    · split <;> omega
    · have := borrow_eq (p := B32 ^ i) (at0_lt ha i) (at0_lt hb i) hc
      rw [val_snoc, hl, val_take, val_take, Int.toNat_natCast, Nat.pow_succ]
      omega
  · obtain rfl : i = a.length := by omega
    rw [List.take_length, List.take_of_length_le (by omega)] at hv
    have hlt2 := val_lt hw
    rw [hl] at hlt2
    have hc0 : c = 0 := by
      rcases Nat.eq_zero_or_pos c with h | h
      · exact h
      · have : c = 1 := by omega
        rw [this, Nat.mul_one] at hv; omega
    rw [hc0, Nat.mul_zero] at hv
    exact Tot.ret ⟨hw, by omega, hl⟩
/- ### The reference -/
end Go.Proofs.YtcdboppghnchpaaDoor

namespace Go.Proofs.YtcdboppghnchpaaDoor
open Go Go.Proofs.YtcdboppghnchpaaDoor.Gw
set_option linter.unusedVariables false

theorem natAbs_toZ (x : Int_2) : (toZ x).natAbs = val x.Mag := by unfold toZ; split <;> omega
theorem clone_ok (l : List Int) (hl : l.length ≤ 1000000) (n : Nat) : slices_Cloneuint32_uint32_ n l = some l := by
  unfold slices_Cloneuint32_uint32_
  dsimp only
  unfold app
  rw [if_pos (by simp; omega)]
  simp
/- ### Canonical forms -/
theorem dig_len {n k : Nat} (h : n < B32 ^ k) : (dig n).length ≤ k := by
  rcases Nat.eq_zero_or_pos n with h0 | h0
  · rw [h0, dig_zero]; simp
  · have h2 := (dig_bounds n).2 (by omega)
    rcases Nat.lt_or_ge k (dig n).length with h3 | h3
    · have : B32 ^ k ≤ B32 ^ ((dig n).length - 1) := Nat.pow_le_pow_right (by decide) (by omega)
      omega
    · exact h3
/-- Words, not too many. -/
structure Sm (x : Int_2) (k : Nat) : Prop where
  wd : Wd x.Mag
  len : x.Mag.length ≤ k
theorem Sm.ofZ {z : Int} {k : Nat} (h : z.natAbs < B32 ^ k) : Sm (ofZ z) k := ⟨dig_wd _, dig_len h⟩
theorem Sm.lt {x : Int_2} {k : Nat} (h : Sm x k) : (toZ x).natAbs < B32 ^ k := by
  rw [natAbs_toZ]
  exact Nat.lt_of_lt_of_le (val_lt h.wd) (Nat.pow_le_pow_right (by decide) h.len)
theorem Sm.tr {x : Int_2} {k : Nat} (h : Sm x k) : (trimL x.Mag).length ≤ k := Nat.le_trans (trimL_len _) h.len
theorem Add_ok (x y : Int_2) {k : Nat} (hx : Sm x k) (hy : Sm y k) (hk : k ≤ 100000) : Evt (fun n => integer_Add n x y) (ofZ (toZ x + toZ y)) := by
  obtain ⟨b, l⟩ := x
  obtain ⟨c, m⟩ := y
  have lx := hx.len
  have ly := hy.len
  have tx := hx.tr
  have ty := hy.tr
  have wx := hx.wd
  have wy := hy.wd
  dsimp only at lx ly tx ty wx wy
  apply Tot.of_eq
  dsimp only [integer_Add]
  refine Tot.bind (Tot.evt (trim_ok l (by omega)) (Tot.bind (Tot.evt (trim_ok m (by omega)) ?_)))
  rw [← dig_val wx, ← dig_val wy] at *
  have vx := val_dig (val l)
  have vy := val_dig (val m)
  by_cases h : b = c
  · subst h
    refine Tot.cond (fun _ => ?_) (fun h => by simp at h)
    obtain ⟨r, r1, r2, r3, r4⟩ := plus_ok _ _ (dig_wd (val l)) (dig_wd (val m)) (by omega) (by omega)
    refine Tot.bind (Tot.evt r1 (Tot.bind (Tot.evt (made_ok b r r2 (by omega)) (Tot.ret ?_))))
    show ofZ _ = ofZ _
    congr 1
    unfold toZ; dsimp only
    rw [r3, vx, vy]
    cases b <;> simp; omega
  · refine Tot.cond (fun h2 => absurd (by simpa using h2) h) (fun _ => ?_)
    refine Tot.bind (Tot.evt (compare_ok (val l) (val m) (by omega) (by omega)) ?_)
    by_cases hlt : val l < val m
    · rw [cmpN_lt hlt]
      refine Tot.condD (fun h => by omega) (fun _ => ?_)
      have hle : (dig (val l)).length ≤ (dig (val m)).length := by
        rcases Nat.lt_or_ge (dig (val m)).length (dig (val l)).length with h3 | h3
        · have := dig_short h3; omega
        · exact h3
      obtain ⟨r, r1, r2, r3, r4⟩ := minus_ok _ _ (dig_wd (val m)) (dig_wd (val l)) (by omega) hle (by omega)
      refine Tot.bind (Tot.evt r1 (Tot.bind (Tot.evt (made_ok c r r2 (by omega)) (Tot.ret ?_))))
      show ofZ _ = ofZ _
      congr 1
      unfold toZ; dsimp only
      rw [r3, vx, vy]
      cases b <;> cases c <;> simp at h ⊢ <;> omega
    · have hc : cmpN (val l) (val m) ≥ 0 := by unfold cmpN; split <;> (try split) <;> omega
      refine Tot.condD (fun _ => ?_) (fun h => absurd hc h)
      have hle : (dig (val m)).length ≤ (dig (val l)).length := by
        rcases Nat.lt_or_ge (dig (val l)).length (dig (val m)).length with h3 | h3
        · have := dig_short h3; omega
        · exact h3
      obtain ⟨r, r1, r2, r3, r4⟩ := minus_ok _ _ (dig_wd (val l)) (dig_wd (val m)) (by omega) hle (by omega)
      refine Tot.bind (Tot.evt r1 (Tot.bind (Tot.evt (made_ok b r r2 (by omega)) (Tot.ret ?_))))
      show ofZ _ = ofZ _
      congr 1
      unfold toZ; dsimp only
      rw [r3, vx, vy]
      cases b <;> cases c <;> simp at h ⊢ <;> omega
end Go.Proofs.YtcdboppghnchpaaDoor

namespace Go.Proofs.YtcdboppghnchpaaDoor
open Go Go.Proofs.YtcdboppghnchpaaDoor.Gw
set_option linter.unusedVariables false

def sgn (z : Int) : Int := if z < 0 then -1 else if 0 < z then 1 else 0
theorem toZ_neg (b : Bool) (l : List Int) : toZ ⟨!b, l⟩ = -toZ ⟨b, l⟩ := by unfold toZ; cases b <;> simp
theorem toZ_dig (b : Bool) (n : Nat) : toZ ⟨b, dig n⟩ = if b then -(n : Int) else (n : Int) := by unfold toZ; dsimp only; rw [val_dig]
section
variable {x y : Int_2} {k : Nat}
theorem Neg_ok (hx : Sm x k) (hk : k ≤ 100000) : Evt (fun n => integer_Neg n x) (ofZ (-toZ x)) := by
  obtain ⟨b, l⟩ := x
  have lx := hx.len
  have wx := hx.wd
  have ht := trimL_len l
  dsimp only at lx wx
  apply Tot.of_eq
  dsimp only [integer_Neg]
  refine Tot.bind (Tot.evt (trim_ok l (by omega)) (Tot.bind (Tot.at_ (fun n => clone_ok _ (by omega) n) ?_)))
  rw [← dig_val wx] at *
  refine Tot.bind (Tot.evt (made_ok _ _ (dig_wd _) (by omega)) (Tot.ret ?_))
  show ofZ _ = ofZ _
  rw [toZ_neg, toZ_dig]; rfl
theorem Abs_ok (hx : Sm x k) (hk : k ≤ 100000) : Evt (fun n => integer_Abs n x) (ofZ ((toZ x).natAbs : Int)) := by
  obtain ⟨b, l⟩ := x
  have lx := hx.len
  have wx := hx.wd
  have ht := trimL_len l
  dsimp only at lx wx
  apply Tot.of_eq
  dsimp only [integer_Abs]
  refine Tot.bind (Tot.evt (trim_ok l (by omega)) (Tot.bind (Tot.at_ (fun n => clone_ok _ (by omega) n) ?_)))
  rw [← dig_val wx] at *
  refine Tot.bind (Tot.evt (made_ok _ _ (dig_wd _) (by omega)) (Tot.ret ?_))
  show ofZ (toZ ⟨false, dig (val l)⟩) = ofZ (((toZ ⟨b, l⟩).natAbs : Nat) : Int)
  rw [toZ_dig, natAbs_toZ]; rfl
theorem Sub_ok (hx : Sm x k) (hy : Sm y k) (hk : k ≤ 100000) : Evt (fun n => integer_Sub n x y) (ofZ (toZ x - toZ y)) := by
  obtain ⟨b, l⟩ := x
  obtain ⟨c, m⟩ := y
  apply Tot.of_eq
  dsimp only [integer_Sub]
  refine Tot.bind (Tot.evt (Add_ok ⟨b, l⟩ ⟨!c, m⟩ hx ⟨hy.wd, hy.len⟩ hk) (Tot.ret ?_))
  show ofZ _ = ofZ _
  rw [toZ_neg]; rfl
theorem len_pos {n : Nat} : (((dig n).length : Int) == 0) = decide (n = 0) := by
  have := dig_nil (n := n)
  by_cases h : n = 0
  · rw [this.2 h]; simp [h]
  · have h2 : dig n ≠ [] := fun e => h (this.1 e)
    have := List.length_pos_iff.2 h2
    simp [h]; omega
theorem sgn_mk (b : Bool) (l : List Int) : sgn (toZ ⟨b, l⟩) = if val l = 0 then 0 else if b then -1 else 1 := by
  unfold sgn toZ
  dsimp only
  cases b
  · simp; split <;> (try split) <;> omega
  · simp; split <;> (try split) <;> omega
theorem Sign_ok (hx : Sm x k) (hk : k ≤ 100000) : Evt (fun n => integer_Sign n x) (sgn (toZ x)) := by
  obtain ⟨b, l⟩ := x
  have lx := hx.len
  have wx := hx.wd
  dsimp only at lx wx
  apply Tot.of_eq
  dsimp only [integer_Sign]
  refine Tot.bind (Tot.evt (trim_ok l (by omega)) ?_)
  rw [← dig_val wx, len_pos, sgn_mk]
  refine Tot.condD (fun h => Tot.ret (by rw [if_pos h])) (fun h => Tot.cond (fun hb => Tot.ret ?_) (fun hb => Tot.ret ?_))
  · rw [if_neg h, hb]; rfl
  · rw [if_neg h, hb]; rfl
end
end Go.Proofs.YtcdboppghnchpaaDoor

namespace Go.Proofs.YtcdboppghnchpaaDoor
open Go Go.Proofs.YtcdboppghnchpaaDoor.Gw
set_option linter.unusedVariables false

/- ### The reference's sums and comparisons -/
theorem ofZ_neg (z : Int) : (ofZ z).Neg = decide (z < 0) := rfl
section
variable {x y : Int_2} {k : Nat}
end
end Go.Proofs.YtcdboppghnchpaaDoor

namespace Go.Proofs.YtcdboppghnchpaaDoor
open Go Go.Proofs.YtcdboppghnchpaaDoor.Gw
set_option linter.unusedVariables false

/- ### Products -/
theorem upd_get {α : Type} (xs : List α) (i j : Nat) (x : α) : (upd xs (i : Int) x)[j]? = if j = i ∧ i < xs.length then some x else xs[j]? := by
  unfold upd
  rw [Int.toNat_natCast, List.getElem?_set]
  by_cases h : i = j
  · subst h
    by_cases h2 : i < xs.length
    · simp [h2]
    · simp [h2]
  · rw [if_neg h, if_neg (by omega)]
theorem upd_len {α : Type} (g : List α) (i : Int) (x : α) : (upd g i x).length = g.length := by simp [upd]
theorem upd_at0 (l : List Int) (i j w : Nat) (hi : i < l.length) : at0 (upd l (i : Int) (w : Int)) j = if j = i then w else at0 l j := by
  unfold at0
  rw [upd_get]
  by_cases h : j = i
  · rw [if_pos ⟨h, hi⟩, if_pos h]; simp
  · rw [if_neg (fun k => h k.1), if_neg h]
theorem Wd.upd {l : List Int} (h : Wd l) (i : Nat) {w : Nat} (hw : w < B32) : Wd (Gw.upd l (i : Int) (w : Int)) := by
  intro x hx
  unfold Gw.upd at hx
  rcases List.mem_or_eq_of_mem_set hx with h1 | h1
  · exact h x h1
  · subst h1; simp only [B32] at hw; omega
theorem val_upd : ∀ (l : List Int) (i w : Nat), i < l.length → val (upd l (i : Int) (w : Int)) + B32 ^ i * at0 l i = val l + B32 ^ i * w
  | [], i, w, h => by simp at h
  | x :: l, 0, w, h => by
    unfold upd at0
    simp [val]; omega
  | x :: l, i + 1, w, h => by
    have ih := val_upd l i w (by simpa using h)
    have e : upd (x :: l) (((i + 1 : Nat)) : Int) (w : Int) = x :: upd l (i : Int) (w : Int) := by
      unfold upd
      rw [show (((i + 1 : Nat)) : Int).toNat = i + 1 by omega, Int.toNat_natCast, List.set_cons_succ]
    have e2 : at0 (x :: l) (i + 1) = at0 l i := by unfold at0; rw [List.getElem?_cons_succ]
    rw [e, e2, val, val, Nat.pow_succ, Nat.mul_comm (B32 ^ i) B32, Nat.mul_assoc, Nat.mul_assoc]
    have h3 : B32 * (val (upd l (i : Int) (w : Int)) + B32 ^ i * at0 l i) = B32 * (val l + B32 ^ i * w) := by rw [ih]
    rw [Nat.mul_add, Nat.mul_add] at h3
    omega
theorem zeros_at0 (n i : Nat) : at0 (List.replicate n (0 : Int)) i = 0 := by
  unfold at0
  rw [List.getElem?_replicate]
  split <;> rfl
theorem zeros_val : ∀ n, val (List.replicate n (0 : Int)) = 0
  | 0 => rfl
  | n + 1 => by rw [List.replicate_succ, val, zeros_val n]; simp
theorem mul_bound {x y o c : Nat} (hx : x < B32) (hy : y < B32) (ho : o < B32) (hc : c < B32) : x * y < 18446744065119617026 ∧ x * y + o + c < 18446744073709551616 ∧ (x * y + o + c) / B32 < B32 := by
  simp only [B32] at *
  have h1 : x * y ≤ 4294967295 * 4294967295 := Nat.mul_le_mul (by omega) (by omega)
  omega
theorem times_ok (a b : List Int) (ha : Wd a) (hb : Wd b) (la : a.length ≤ 100000) (lb : b.length ≤ 100000) : ∃ r, Evt (fun n => integer_times n a b) r ∧ Wd r ∧ val r = val a * val b ∧ r.length = a.length + b.length := by
  suffices h : Tot (fun n => integer_times n a b) (fun r => Wd r ∧ val r = val a * val b ∧ r.length = a.length + b.length) from h
  dsimp only [integer_times]
  have hmk : mk (IntKind.i64.wrap ((a.length : Int) + (b.length : Int))) (0 : Int) = some (List.replicate (a.length + b.length) 0) := by
    rw [w64 (by omega) (by omega)]; unfold mk; rw [if_pos (by omega)]; congr 2
  refine Tot.bind (Tot.val hmk (Tot.bind (Tot.mono (Q' := fun r => Wd r ∧ val r = val a * val b ∧ r.length = a.length + b.length) ?_ fun r h => Tot.ret h)))
  refine Tot.loop (fun s : List Int × Int => ∃ i : Nat, s.2 = (i : Int) ∧ i ≤ a.length ∧ s.1.length = a.length + b.length ∧ Wd s.1 ∧ val s.1 = val (a.take i) * val b ∧ ∀ p, i + b.length ≤ p → at0 s.1 p = 0) (fun s => a.length - s.2.toNat)
    ⟨0, rfl, by omega, by simp, fun x hx => by simp at hx; omega, by rw [zeros_val]; simp [val], fun p _ => zeros_at0 _ _⟩ ?_
  rintro ⟨out, _⟩ ⟨i, rfl, hi, hl, hw, hv, hz⟩
  dsimp only [integer_times_L21] at *
  refine Tot.condD (fun hc => ?_) (fun hc => ?_)
  · have hx := at0_lt ha i
    rw [w64 (x := (i : Int) + 1) (by omega) (by omega), w64 (x := (i : Int) + (b.length : Int)) (by omega) (by omega)]
    refine Tot.bind (Tot.idxv (at0_idx ha (by omega)) (Tot.bind (Tot.mono (Q' := fun r : List Int × Int => ∃ c : Nat, r.2 = (c : Int) ∧ c < B32 ∧ r.1.length = a.length + b.length ∧ Wd r.1 ∧ val r.1 + B32 ^ (i + b.length) * c = val (a.take i) * val b + B32 ^ i * at0 a i * val b ∧ ∀ p, i + b.length ≤ p → at0 r.1 p = 0) ?_ ?_)))
    · refine Tot.loop0 (fun s : List Int × Int × Int => ∃ c j : Nat, s.2 = ((c : Int), (j : Int)) ∧ c < B32 ∧ j ≤ b.length ∧ s.1.length = a.length + b.length ∧ Wd s.1 ∧ val s.1 + B32 ^ (i + j) * c = val (a.take i) * val b + B32 ^ i * at0 a i * val (b.take j) ∧ ∀ p, i + b.length ≤ p → at0 s.1 p = 0) (fun s => b.length - s.2.2.toNat)
        ⟨0, 0, rfl, by decide, by omega, hl, hw, by rw [hv]; simp [val], hz⟩ ?_
      rintro ⟨o2, _⟩ ⟨c, j, rfl, hcl, hj, hl2, hw2, hv2, hz2⟩
      dsimp only [integer_times_L25] at *
      refine Tot.condD (fun hc2 => ?_) (fun hc2 => ?_)
      · have hy := at0_lt hb j
        have ho := at0_lt hw2 (i + j)
        obtain ⟨m1, m2, m3⟩ := mul_bound hx hy ho hcl
        have hB : B32 = 4294967296 := rfl
        rw [w64 (x := (i : Int) + (j : Int)) (by omega) (by omega), w64 (x := (j : Int) + 1) (by omega) (by omega)]
        have eij : (i : Int) + (j : Int) = ((i + j : Nat) : Int) := by omega
        rw [eij]
        refine Tot.idxv (at0_idx hb (by omega)) (Tot.idxv (at0_idx hw2 (by omega)) (Tot.idxv (at0_idx hw2 (by omega)) (Tot.ret ?_)))
        have e1 : (at0 a i : Int) * (at0 b j : Int) = ((at0 a i * at0 b j : Nat) : Int) := by simp
        rw [wu64 (x := (at0 a i : Int)) (by omega) (by omega), wu64 (x := (at0 b j : Int)) (by omega) (by omega), wu64 (x := (at0 o2 (i + j) : Int)) (by omega) (by omega), e1, wu64 (x := ((at0 a i * at0 b j : Nat) : Int)) (by omega) (by omega),
          wu64 (x := ((at0 a i * at0 b j : Nat) : Int) + _) (by omega) (by omega), wu64 (by omega) (by omega)]
        rw [show ((at0 a i * at0 b j : Nat) : Int) + (at0 o2 (i + j) : Int) + (c : Int) = ((at0 a i * at0 b j + at0 o2 (i + j) + c : Nat) : Int) by omega, wu32_nat, shr32]
        refine ⟨⟨_, j + 1, rfl, m3, by omega, by rw [upd_len]; exact hl2, hw2.upd _ (Nat.mod_lt _ (by decide)), ?_, fun p hp => ?_⟩, (by first | omega | (dsimp only; omega) | (simp; done) | (simp; omega))⟩
        · have h1 := val_upd o2 (i + j) ((at0 a i * at0 b j + at0 o2 (i + j) + c) % B32) (by omega)
          have h2 := carry_eq (B32 ^ (i + j)) (at0 a i * at0 b j + at0 o2 (i + j) + c)
          dsimp only
          rw [val_take, show i + (j + 1) = i + j + 1 by omega, Nat.pow_succ, Nat.mul_add (B32 ^ i * at0 a i)]
          rw [Nat.mul_add, Nat.mul_add] at h2
          have h3 : B32 ^ i * at0 a i * (B32 ^ j * at0 b j) = B32 ^ (i + j) * (at0 a i * at0 b j) := by
            rw [Nat.pow_add]; simp only [Nat.mul_assoc, Nat.mul_left_comm]
          rw [h3]
          omega
        · rw [upd_at0 _ _ _ _ (by omega), if_neg (by omega)]; exact hz2 p hp
      · obtain rfl : j = b.length := by omega
        rw [List.take_length] at hv2
        exact Tot.ret ⟨c, rfl, hcl, hl2, hw2, hv2, hz2⟩
    · rintro ⟨o2, _⟩ ⟨c, rfl, hcl, hl2, hw2, hv2, hz2⟩
      dsimp only at *
      have eib : (i : Int) + (b.length : Int) = ((i + b.length : Nat) : Int) := by omega
      rw [eib]
      refine Tot.idxv (at0_idx hw2 (by omega)) (Tot.ret (Tot.ret ?_))
      rw [wu32_nat, Nat.mod_eq_of_lt hcl]
      refine ⟨⟨i + 1, rfl, by omega, by rw [upd_len]; exact hl2, hw2.upd _ hcl, ?_, fun p hp => ?_⟩, (by first | omega | (dsimp only; omega) | (simp; done) | (simp; omega))⟩
      · have h1 := val_upd o2 (i + b.length) c (by omega)
        rw [hz2 _ (Nat.le_refl _), Nat.mul_zero, Nat.add_zero] at h1
        rw [h1, hv2, val_take, Nat.add_mul]
      · rw [upd_at0 _ _ _ _ (by omega), if_neg (by omega)]; exact hz2 p (by omega)
  · obtain rfl : i = a.length := by omega
    rw [List.take_length] at hv
    exact Tot.ret ⟨hw, hv, hl⟩
theorem Mul_ok {x y : Int_2} {k : Nat} (hx : Sm x k) (hy : Sm y k) (hk : k ≤ 100000) : Evt (fun n => integer_Mul n x y) (ofZ (toZ x * toZ y)) := by
  obtain ⟨b, l⟩ := x
  obtain ⟨c, m⟩ := y
  have tx := hx.tr
  have ty := hy.tr
  have lx := hx.len
  have ly := hy.len
  have wx := hx.wd
  have wy := hy.wd
  dsimp only at tx ty lx ly wx wy
  apply Tot.of_eq
  dsimp only [integer_Mul]
  refine Tot.bind (Tot.evt (trim_ok l (by omega)) (Tot.bind (Tot.evt (trim_ok m (by omega)) ?_)))
  rw [← dig_val wx, ← dig_val wy] at *
  obtain ⟨r, r1, r2, r3, r4⟩ := times_ok _ _ (dig_wd (val l)) (dig_wd (val m)) (by omega) (by omega)
  refine Tot.bind (Tot.evt r1 (Tot.bind (Tot.evt (made_ok _ r r2 (by omega)) (Tot.ret ?_))))
  show ofZ (toZ ⟨!(b == c), r⟩) = _
  congr 1
  unfold toZ; dsimp only
  rw [r3, val_dig, val_dig]
  cases b <;> cases c <;> simp [Int.neg_mul, Int.mul_neg]
end Go.Proofs.YtcdboppghnchpaaDoor

namespace Go.Proofs.YtcdboppghnchpaaDoor
open Go Go.Proofs.YtcdboppghnchpaaDoor.Gw
set_option linter.unusedVariables false

end Go.Proofs.YtcdboppghnchpaaDoor

namespace Go.Proofs.YtcdboppghnchpaaDoor
open Go Go.Proofs.YtcdboppghnchpaaDoor.Gw
set_option linter.unusedVariables false

/- ### Machine integers -/
theorem wu64_eq (z : Int) : IntKind.u64.wrap z = z % 18446744073709551616 := by
  unfold IntKind.wrap
  simp only [IntKind.signed, IntKind.bits]
  simp
theorem words2 (m : Nat) (h : m < 18446744073709551616) : Wd [((m % B32 : Nat) : Int), ((m / B32 : Nat) : Int)] ∧ val [((m % B32 : Nat) : Int), ((m / B32 : Nat) : Int)] = m := by
  constructor
  · intro x hx
    simp only [List.mem_cons, List.not_mem_nil, or_false] at hx
    rcases hx with rfl | rfl <;> (simp only [B32]; omega)
  · simp only [val, Int.toNat_natCast, Nat.mul_zero, Nat.add_zero]
    exact Nat.mod_add_div m B32
theorem abs_word {z : Int} (h : -9223372036854775808 ≤ z) (h2 : z ≤ 9223372036854775807) : (z < 0 → IntKind.u64.wrap (0 - (IntKind.u64.wrap z)) = ((z.natAbs : Nat) : Int)) ∧ (¬ z < 0 → IntKind.u64.wrap z = ((z.natAbs : Nat) : Int)) := by
  refine ⟨fun hz => ?_, fun hz => ?_⟩
  · rw [wu64_eq, wu64_eq]; omega
  · rw [wu64_eq]; omega
theorem Of_ok (z : Int) (h : -9223372036854775808 ≤ z) (h2 : z ≤ 9223372036854775807) : Evt (fun n => integer_Of n z) (ofZ z) := by
  apply Tot.of_eq
  dsimp only [integer_Of]
  obtain ⟨a1, a2⟩ := abs_word h h2
  have hm : z.natAbs < 18446744073709551616 := by omega
  obtain ⟨w1, w2⟩ := words2 z.natAbs hm
  refine Tot.cut (((z.natAbs : Nat) : Int)) (Tot.condD (fun hz => Tot.ret (a1 hz)) (fun hz => Tot.ret (a2 hz))) ?_
  have hq : z.natAbs / B32 < B32 := by simp only [B32]; omega
  rw [wu32_nat, shr32, wu32_nat, Nat.mod_eq_of_lt hq]
  refine Tot.bind (Tot.evt (made_ok _ _ w1 (by simp)) (Tot.ret ?_))
  show ofZ (toZ ⟨decide (z < 0), _⟩) = _
  congr 1
  unfold toZ; dsimp only
  rw [w2]
  by_cases hz : z < 0
  · simp only [hz, decide_true, if_true]; omega
  · simp only [hz, decide_false, Bool.false_eq_true, if_false]; omega
end Go.Proofs.YtcdboppghnchpaaDoor

namespace Go.Proofs.YtcdboppghnchpaaDoor
open Go Go.Proofs.YtcdboppghnchpaaDoor.Gw
set_option linter.unusedVariables false

theorem Sm.mono {x : Int_2} {k l : Nat} (h : Sm x k) (hk : k ≤ l) : Sm x l := ⟨h.wd, by have := h.len; omega⟩
theorem pow_pos (k : Nat) : 1 ≤ B32 ^ k := Nat.pow_pos (by decide)
theorem sm_add {p q : Int} {k : Nat} (hp : p.natAbs < B32 ^ k) (hq : q.natAbs < B32 ^ k) : (p + q).natAbs < B32 ^ (k + 1) := by
  have := pow_pos k
  rw [Nat.pow_succ]
  simp only [B32] at *
  omega
theorem sm_sub {p q : Int} {k : Nat} (hp : p.natAbs < B32 ^ k) (hq : q.natAbs < B32 ^ k) : (p - q).natAbs < B32 ^ (k + 1) := by
  have := pow_pos k
  rw [Nat.pow_succ]
  simp only [B32] at *
  omega
theorem sm_mul {p q : Int} {k l : Nat} (hp : p.natAbs < B32 ^ k) (hq : q.natAbs < B32 ^ l) : (p * q).natAbs < B32 ^ (k + l) := by
  rw [Int.natAbs_mul, Nat.pow_add]
  exact Nat.mul_lt_mul'' hp hq
theorem sm_of {z : Int} {k l : Nat} (h : z.natAbs < B32 ^ k) (hk : k ≤ l) : Sm (ofZ z) l := (Sm.ofZ h).mono hk
end Go.Proofs.YtcdboppghnchpaaDoor

namespace Go.Proofs.YtcdboppghnchpaaDoor
open Go Go.Proofs.YtcdboppghnchpaaDoor.Gw
set_option linter.unusedVariables false

end Go.Proofs.YtcdboppghnchpaaDoor

namespace Go.Proofs.YtcdboppghnchpaaDoor
open Go Go.Proofs.YtcdboppghnchpaaDoor.Gw
set_option linter.unusedVariables false

/- ### Binary digits -/
/-- How many binary digits a number has. -/
def bl (n : Nat) : Nat := if n = 0 then 0 else Nat.log2 n + 1
theorem bl_pos {n : Nat} (h : n ≠ 0) : 0 < bl n := by unfold bl; rw [if_neg h]; omega
theorem lt_bl (n : Nat) : n < 2 ^ bl n := by
  unfold bl
  by_cases h : n = 0
  · rw [if_pos h, h]; decide
  · rw [if_neg h]; exact Nat.lt_log2_self
theorem bl_le {n k : Nat} (h : n < 2 ^ k) : bl n ≤ k := by
  unfold bl
  by_cases h0 : n = 0
  · rw [if_pos h0]; omega
  · rw [if_neg h0]; exact (Nat.log2_lt h0).2 h
theorem bl_ge {n k : Nat} (h : 2 ^ k ≤ n) : k < bl n := by
  have := lt_bl n
  exact (Nat.pow_lt_pow_iff_right (a := 2) (by decide)).1 (Nat.lt_of_le_of_lt h this)
theorem bl_eq {n k : Nat} (h1 : 2 ^ k ≤ n) (h2 : n < 2 ^ (k + 1)) : bl n = k + 1 := Nat.le_antisymm (bl_le h2) (bl_ge h1)
theorem bl_low {n : Nat} (h : n ≠ 0) : 2 ^ (bl n - 1) ≤ n := by
  unfold bl; rw [if_neg h, Nat.add_sub_cancel]; exact Nat.log2_self_le h
theorem bl_shift {n j : Nat} (h : n / 2 ^ j ≠ 0) : bl n = bl (n / 2 ^ j) + j := by
  have h1 := bl_low h
  have h2 := lt_bl (n / 2 ^ j)
  have hp := bl_pos h
  have h3 : 2 ^ (bl (n / 2 ^ j) - 1 + j) ≤ n := by
    rw [Nat.pow_add]; exact (Nat.le_div_iff_mul_le (Nat.pow_pos (by decide))).1 h1
  have h4 : n < 2 ^ (bl (n / 2 ^ j) - 1 + j + 1) := by
    have : n < 2 ^ bl (n / 2 ^ j) * 2 ^ j := (Nat.div_lt_iff_lt_mul (Nat.pow_pos (by decide))).1 h2
    rw [← Nat.pow_add] at this
    rwa [show bl (n / 2 ^ j) - 1 + j + 1 = bl (n / 2 ^ j) + j by omega]
  rw [bl_eq h3 h4]; omega
def tab8 : ByteArray := ByteArray.mk #[0, 1, 2, 2, 3, 3, 3, 3, 4, 4, 4, 4, 4, 4, 4, 4, 5, 5, 5, 5, 5, 5, 5, 5, 5, 5, 5, 5, 5, 5, 5, 5, 6, 6, 6, 6, 6, 6, 6, 6, 6, 6, 6, 6, 6, 6, 6, 6, 6, 6, 6, 6, 6, 6, 6, 6, 6, 6, 6, 6, 6, 6, 6, 6, 7, 7, 7, 7, 7, 7, 7, 7, 7, 7, 7, 7, 7, 7, 7, 7, 7, 7, 7, 7, 7, 7, 7, 7, 7, 7, 7, 7, 7, 7, 7, 7, 7, 7, 7, 7, 7, 7, 7, 7, 7, 7, 7, 7, 7, 7, 7, 7, 7, 7, 7, 7, 7, 7, 7, 7, 7, 7, 7, 7, 7, 7, 7, 7, 8, 8, 8, 8, 8, 8, 8, 8, 8, 8, 8, 8, 8, 8, 8, 8, 8, 8, 8, 8, 8, 8, 8, 8, 8, 8, 8, 8, 8, 8, 8, 8, 8, 8, 8, 8, 8, 8, 8, 8, 8, 8, 8, 8, 8, 8, 8, 8, 8, 8, 8, 8, 8, 8, 8, 8, 8, 8, 8, 8, 8, 8, 8, 8, 8, 8, 8, 8, 8, 8, 8, 8, 8, 8, 8, 8, 8, 8, 8, 8, 8, 8, 8, 8, 8, 8, 8, 8, 8, 8, 8, 8, 8, 8, 8, 8, 8, 8, 8, 8, 8, 8, 8, 8, 8, 8, 8, 8, 8, 8, 8, 8, 8, 8, 8, 8, 8, 8, 8, 8, 8, 8, 8, 8, 8, 8, 8, 8]
theorem tab8_at : ∀ y : Nat, y < 256 → bidx tab8 (y : Int) = some ((bl y : Nat) : Int) := by decide +kernel
theorem wu8n {y : Nat} (h : y < 256) : IntKind.u8.wrap (y : Int) = y := wu8 (by omega) (by omega)
theorem shrn (x j : Nat) (hj : j < 32) : ((x : Int).fdiv (2 ^ min (j : Int).toNat (IntKind.u32).bits)) = ((x / 2 ^ j : Nat) : Int) := by
  have e : min (j : Int).toNat (IntKind.u32).bits = j := by simp [IntKind.bits]; omega
  rw [e, Int.fdiv_eq_ediv_of_nonneg _ (by exact Int.le_of_lt (Int.pow_pos (by decide)))]
  norm_cast
theorem Len32_ok (x : Nat) (hx : x < B32) (n : Nat) : bits_Len32 n (x : Int) = some ((bl x : Nat) : Int) := by
  have h2 : ∀ (y k : Nat), y < 65536 → k ≤ 16 → ((cond (decide ((y : Int) ≥ 256))
    (some ((((y : Int).fdiv (2 ^ min (8 : Int).toNat (IntKind.u32).bits)), (IntKind.i64.wrap ((k : Int) + 8)))))
    (some (((y : Int), (k : Int)))) : Option (Int × Int)).bind fun (x592, x593) =>
    (bidx tab8 (IntKind.u8.wrap x592)).bind fun x596 =>
    some ((IntKind.i64.wrap (x593 + (IntKind.i64.wrap x596))))) = some ((bl y + k : Nat) : Int) := by
    intro y k hy hk
    by_cases h : 256 ≤ y
    · have hs := shrn y 8 (by omega)
      have hd : y / 2 ^ 8 < 256 := by omega
      have hb := bl_shift (n := y) (j := 8) (by omega)
      have hl := bl_le (n := y / 2 ^ 8) (k := 8) (by omega)
      rw [show decide ((y : Int) ≥ 256) = true from decide_eq_true (by omega), cond_true, Option.bind_some]
      dsimp only
      rw [show ((8 : Int)) = ((8 : Nat) : Int) from rfl, hs, wu8n hd, tab8_at _ hd, Option.bind_some, w64 (x := ((bl (y / 2 ^ 8) : Nat) : Int)) (by omega) (by omega), w64 (x := (k : Int) + ((8 : Nat) : Int)) (by omega) (by omega), w64 (by omega) (by omega)]
      congr 1; omega
    · have hd : y < 256 := by omega
      have hl := bl_le (n := y) (k := 8) (by omega)
      rw [show decide ((y : Int) ≥ 256) = false from decide_eq_false (by omega), cond_false, Option.bind_some]
      dsimp only
      rw [wu8n hd, tab8_at _ hd, Option.bind_some, w64 (x := ((bl y : Nat) : Int)) (by omega) (by omega), w64 (by omega) (by omega)]
      congr 1; omega
  have hT : bits_Len32 n (x : Int) = ((cond (decide ((x : Int) ≥ 65536))
    (some (((x : Int).fdiv (2 ^ min (16 : Int).toNat (IntKind.u32).bits)), 16))
    (some ((x : Int), 0)) : Option (Int × Int)).bind fun (x588, x589) =>
    (cond (decide (x588 ≥ 256))
    (some (((x588.fdiv (2 ^ min (8 : Int).toNat (IntKind.u32).bits)), (IntKind.i64.wrap (x589 + 8)))))
    (some ((x588, x589))) : Option (Int × Int)).bind fun (x592, x593) =>
    (bidx tab8 (IntKind.u8.wrap x592)).bind fun x596 =>
    some ((IntKind.i64.wrap (x593 + (IntKind.i64.wrap x596))))) := rfl
  rw [hT]
  by_cases h : 65536 ≤ x
  · have hs := shrn x 16 (by omega)
    simp only [B32] at hx
    have hb := bl_shift (n := x) (j := 16) (by omega)
    rw [show decide ((x : Int) ≥ 65536) = true from decide_eq_true (by omega), cond_true, Option.bind_some]
    dsimp only
    rw [show ((16 : Int)) = ((16 : Nat) : Int) from rfl, hs, h2 _ 16 (by omega) (by omega), hb]
  · rw [show decide ((x : Int) ≥ 65536) = false from decide_eq_false (by omega), cond_false, Option.bind_some]
    exact h2 x 0 (by omega) (by omega)
/-- A word of a number. -/
theorem at0_val {l : List Int} (h : Wd l) (i : Nat) : at0 l i = val l / B32 ^ i % B32 := by
  have e : val l = val (l.take i) + B32 ^ i * (at0 l i + B32 * val (l.drop (i + 1))) := by
    rcases Nat.lt_or_ge i l.length with hi | hi
    · have hx : l[i]? = some (l[i]'hi) := List.getElem?_eq_getElem hi
      have := val_split hx
      unfold at0
      rw [hx]; exact this
    · rw [at0_out hi, List.take_of_length_le hi, List.drop_eq_nil_of_le (by omega)]
      simp [val]
  have h1 : val (l.take i) < B32 ^ i := Nat.lt_of_lt_of_le (val_lt (h.take i)) (Nat.pow_le_pow_right (by decide) (by rw [List.length_take]; omega))
  have h2 := at0_lt h i
  rw [e, Nat.add_mul_div_left _ _ (Nat.pow_pos (by decide)), Nat.div_eq_of_lt h1, Nat.zero_add, Nat.add_mul_mod_self_left, Nat.mod_eq_of_lt h2]
end Go.Proofs.YtcdboppghnchpaaDoor

namespace Go.Proofs.YtcdboppghnchpaaDoor
open Go Go.Proofs.YtcdboppghnchpaaDoor.Gw
set_option linter.unusedVariables false

/- ### Division by a word -/
theorem u64_nat {n : Nat} (h : n < 18446744073709551616) : IntKind.u64.wrap (n : Int) = n := wu64 (by omega) (by omega)
theorem ofInt64 (n : Nat) : BitVec.ofInt 64 (n : Int) = BitVec.ofNat 64 n := by simp
theorem iu_or64 {a b : Nat} (ha : a < 2 ^ 64) (hb : b < 2 ^ 64) : ib .or .u64 (a : Int) b = ((a ||| b : Nat) : Int) := by
  have h : (BitVec.ofInt 64 (a : Int) ||| BitVec.ofInt 64 (b : Int)).toNat = a ||| b := by
    simp only [ofInt64, BitVec.toNat_or, BitVec.toNat_ofNat]
    rw [Nat.mod_eq_of_lt ha, Nat.mod_eq_of_lt hb]
  show IntKind.u64.wrap ((BitVec.ofInt 64 (a : Int) ||| BitVec.ofInt 64 (b : Int)).toNat : Int) = _
  rw [h, u64_nat (Nat.or_lt_two_pow (n := 64) ha hb)]
theorem or_add {h l : Nat} (hl : l < B32) : h * B32 ||| l = h * B32 + l := by
  have := Nat.shiftLeft_add_eq_or_of_lt (i := 32) (b := l) hl h
  rw [Nat.shiftLeft_eq] at this
  exact this.symm
/-- Two words side by side. -/
theorem two64 {h l : Nat} (hh : h < B32) (hl : l < B32) : ib .or .u64 (IntKind.u64.wrap ((h : Int) * 2 ^ min (32 : Int).toNat (IntKind.u64).bits)) (l : Int) = ((h * B32 + l : Nat) : Int) := by
  have hB : B32 = 4294967296 := rfl
  have : (2 : Int) ^ min (32 : Int).toNat (IntKind.u64).bits = ((B32 : Nat) : Int) := by decide
  rw [this, show (h : Int) * ((B32 : Nat) : Int) = ((h * B32 : Nat) : Int) from (Int.natCast_mul h B32).symm, u64_nat (by rw [hB] at hh ⊢; omega), iu_or64 (by rw [hB] at hh ⊢; omega) (by rw [hB] at hl; omega), or_add hl]
theorem tdiv_nat (a b : Nat) : (a : Int).tdiv (b : Int) = ((a / b : Nat) : Int) := (Int.ofNat_tdiv a b).symm
theorem tmod_nat (a b : Nat) : (a : Int).tmod (b : Int) = ((a % b : Nat) : Int) := (Int.ofNat_tmod a b).symm
theorem div32 (h l d n : Nat) (hh : h < d) (hl : l < B32) (hd : d < B32) : bits_Div32 n (h : Int) (l : Int) (d : Int) = some ((((h * B32 + l) / d : Nat) : Int), (((h * B32 + l) % d : Nat) : Int)) := by
  have hB : B32 = 4294967296 := rfl
  have h2 : h < B32 := Nat.lt_trans hh hd
  have hq : (h * B32 + l) / d < B32 := by
    rw [Nat.div_lt_iff_lt_mul (by omega)]
    have : (h + 1) * B32 ≤ d * B32 := Nat.mul_le_mul_right _ hh
    rw [Nat.add_mul, Nat.one_mul] at this
    rw [Nat.mul_comm B32]; omega
  have hr : (h * B32 + l) % d < d := Nat.mod_lt _ (by omega)
  have hm : h * B32 + l < 18446744073709551616 := by rw [hB] at h2 hl ⊢; omega
  unfold bits_Div32
  dsimp only
  rw [show ((d : Int) != 0) = true by simp; omega, cond_true, Option.bind_some, show decide ((d : Int) ≤ (h : Int)) = false from decide_eq_false (by omega), cond_false, Option.bind_some]
  rw [u64_nat (n := d) (by omega), u64_nat (n := h) (by omega), u64_nat (n := l) (by omega), two64 h2 hl, tdiv_nat, tmod_nat]
  rw [need_t (by simp; omega), Option.bind_some, Option.bind_some, u64_nat (n := (h * B32 + l) / d) (by omega), u32_nat hq, u32_nat (by omega)]
theorem val_drop (l : List Int) {i : Nat} (hw : Wd l) (hi : i < l.length) : val (l.drop i) = at0 l i + B32 * val (l.drop (i + 1)) := by
  rw [List.drop_eq_getElem_cons hi, val]
  unfold at0
  rw [List.getElem?_eq_getElem hi]; rfl
theorem drop_upd {l : List Int} (i : Nat) (x : Int) (j : Nat) (h : i < j) : (upd l (i : Int) x).drop j = l.drop j := by
  unfold upd
  rw [Int.toNat_natCast, List.drop_set, if_pos h]
theorem at0_upd_same {l : List Int} {i w : Nat} (h : i < l.length) : at0 (upd l (i : Int) (w : Int)) i = w := by rw [upd_at0 _ _ _ _ h, if_pos rfl]
theorem short_ok (a : List Int) (d : Nat) (ha : Wd a) (la : a.length ≤ 1000000) (h0 : 0 < d) (hd : d < B32) :
    ∃ q, Evt (fun n => integer_short n a (d : Int)) (q, ((val a % d : Nat) : Int)) ∧ Wd q ∧ val q = val a / d ∧ q.length = a.length := by
  suffices h : Tot (fun n => integer_short n a (d : Int)) (fun r => r.2 = ((val a % d : Nat) : Int) ∧ Wd r.1 ∧ val r.1 = val a / d ∧ r.1.length = a.length) by
    obtain ⟨⟨q, r⟩, he, hr, h⟩ := h
    exact ⟨q, by rw [← hr]; exact he, h⟩
  dsimp only [integer_short]
  have hmk : mk (a.length : Int) (0 : Int) = some (List.replicate a.length 0) := by unfold mk; rw [if_pos (by omega)]; congr 2
  refine Tot.bind (Tot.val hmk (Tot.bind (Tot.mono (Q' := fun r : List Int × Int => r.2 = ((val a % d : Nat) : Int) ∧ Wd r.1 ∧ val r.1 = val a / d ∧ r.1.length = a.length) ?_ fun r h => ?_)))
  rotate_left
  · obtain ⟨r1, r2⟩ := r; exact Tot.ret h
  rw [w64 (by omega) (by omega)]
  refine Tot.loop (fun s : List Int × Int × Int => ∃ i r : Nat, s.2 = ((r : Int), (i : Int) - 1) ∧ i ≤ a.length ∧ r < d ∧ s.1.length = a.length ∧ Wd s.1 ∧ val (s.1.drop i) = val (a.drop i) / d ∧ r = val (a.drop i) % d) (fun s => (s.2.2 + 1).toNat)
    ⟨a.length, 0, rfl, Nat.le_refl _, h0, by simp, fun x hx => by have := List.eq_of_mem_replicate hx; omega, by simp [val], by simp [val]⟩ ?_
  rintro ⟨out, _⟩ ⟨i, r, rfl, hi, hr, hl, hw, hq, hm⟩
  dsimp only [integer_short_L1] at *
  refine Tot.condD (fun hc => ?_) (fun hc => ?_)
  · obtain ⟨i, rfl⟩ : ∃ j, i = j + 1 := ⟨i - 1, by omega⟩
    have e : (((i + 1 : Nat) : Int) - 1) = (i : Int) := by omega
    have hx := at0_lt ha i
    rw [e]
    refine Tot.idxv (at0_idx ha (by omega)) (Tot.bind (Tot.at_ (fun n => div32 r (at0 a i) d n hr hx hd) (Tot.idxv (at0_idx hw (by omega)) (Tot.ret ?_))))
    rw [w64 (by omega) (by omega)]
    have hqd : (r * B32 + at0 a i) / d < B32 := by
      rw [Nat.div_lt_iff_lt_mul (by omega)]
      have : (r + 1) * B32 ≤ d * B32 := Nat.mul_le_mul_right _ hr
      rw [Nat.add_mul, Nat.one_mul] at this
      rw [Nat.mul_comm B32]; omega
    have hv := val_drop a ha (i := i) (by omega)
    have key : val (a.drop i) = d * (B32 * (val (a.drop (i + 1)) / d)) + (r * B32 + at0 a i) := by
      have h3 := Nat.div_add_mod (val (a.drop (i + 1))) d
      rw [← hm] at h3
      rw [hv]
      conv => lhs; rw [← h3]
      rw [Nat.mul_add, Nat.mul_left_comm, Nat.mul_comm B32 r]; omega
    refine ⟨⟨i, (r * B32 + at0 a i) % d, rfl, by omega, Nat.mod_lt _ h0, by rw [upd_len]; exact hl, hw.upd i hqd, ?_, ?_⟩, (by first | omega | (dsimp only; omega) | (simp; done) | (simp; omega))⟩
    · rw [val_drop _ (hw.upd i hqd) (by rw [upd_len]; omega), at0_upd_same (by omega), drop_upd i _ (i + 1) (by omega), hq, key, Nat.mul_add_div h0]
      omega
    · rw [key, Nat.mul_add_mod]
  · have h1 : i = 0 := by omega
    subst h1
    rw [List.drop_zero] at *
    exact Tot.ret ⟨by rw [hm], hw, by simpa using hq, hl⟩
/- ### Bits moved up -/
theorem shifted_ok (a : List Int) (k : Nat) (ha : Wd a) (la : a.length ≤ 1000000) (hk : k < 32) :
    ∃ r, Evt (fun n => integer_shifted n a (k : Int)) r ∧ Wd r ∧ val r = val a * 2 ^ k ∧ r.length = a.length + 1 := by
  suffices h : Tot (fun n => integer_shifted n a (k : Int)) (fun r => Wd r ∧ val r = val a * 2 ^ k ∧ r.length = a.length + 1) from h
  dsimp only [integer_shifted]
  have hmk : mk (IntKind.i64.wrap ((a.length : Int) + 1)) (0 : Int) = some (List.replicate (a.length + 1) 0) := by
    rw [w64 (by omega) (by omega)]; unfold mk; rw [if_pos (by omega)]; congr 2
  refine Tot.bind (Tot.val hmk (Tot.bind (Tot.mono (Q' := fun r => Wd r ∧ val r = val a * 2 ^ k ∧ r.length = a.length + 1) ?_ fun r h => Tot.ret h)))
  have hB : B32 = 4294967296 := rfl
  have hkp : 2 ^ k * 2 ^ (32 - k) = B32 := by rw [← Nat.pow_add, show k + (32 - k) = 32 by omega]
  have hk0 : 0 < 2 ^ k := Nat.pow_pos (by decide)
  have hkB : 2 ^ k ≤ 2147483648 := by have := Nat.pow_le_pow_right (n := 2) (by decide) (show k ≤ 31 by omega); simpa using this
  refine Tot.loop (fun s : List Int × Int => ∃ i : Nat, s.2 = (i : Int) ∧ i ≤ a.length ∧ s.1.length = a.length + 1 ∧ Wd s.1 ∧ val s.1 = val (a.take i) * 2 ^ k ∧ at0 s.1 i < 2 ^ k ∧ ∀ j, i < j → at0 s.1 j = 0) (fun s => a.length - s.2.toNat)
    ⟨0, rfl, by omega, by simp, fun x hx => by have := List.eq_of_mem_replicate hx; omega, by rw [zeros_val]; simp [val], by rw [zeros_at0]; exact hk0, fun j _ => zeros_at0 _ j⟩ ?_
  rintro ⟨out, _⟩ ⟨i, rfl, hi, hl, hw, hv, h1, h2⟩
  dsimp only [integer_shifted_L1] at *
  refine Tot.condD (fun hlt => ?_) (fun hlt => ?_)
  · have hx := at0_lt ha i
    have ex : min (k : Int).toNat (IntKind.u64).bits = k := by simp [IntKind.bits]; omega
    have em : (IntKind.u64.wrap ((IntKind.u64.wrap ((at0 a i : Nat) : Int)) * 2 ^ min (k : Int).toNat (IntKind.u64).bits)) = ((at0 a i * 2 ^ k : Nat) : Int) := by
      rw [ex, u64_nat (by omega)]
      rw [show ((at0 a i : Nat) : Int) * 2 ^ k = ((at0 a i * 2 ^ k : Nat) : Int) by push_cast; rfl]
      refine u64_nat ?_
      have := Nat.mul_le_mul (Nat.le_of_lt hx) hkB
      rw [hB] at this; omega
    refine Tot.idxv (at0_idx ha (by omega)) (Tot.need (by omega) (Tot.idxv (at0_idx hw (by omega)) (Tot.idxv (at0_idx hw (by omega)) ?_)))
    rw [em, wu32_nat, shr32]
    generalize hz : at0 a i = z at *
    have ht : z * 2 ^ k = B32 * (z * 2 ^ k / B32) + z * 2 ^ k % B32 := (Nat.div_add_mod _ _).symm
    have hlow : z * 2 ^ k % B32 = (z % 2 ^ (32 - k)) * 2 ^ k := by
      rw [← hkp, Nat.mul_comm (2 ^ k) (2 ^ (32 - k)), Nat.mul_mod_mul_right]
    have hhigh : z * 2 ^ k / B32 < 2 ^ k := by
      rw [Nat.div_lt_iff_lt_mul (by decide), Nat.mul_comm (2 ^ k)]
      exact Nat.mul_lt_mul_of_pos_right hx hk0
    have hor : ib .or .u32 ((at0 out i : Nat) : Int) ((z * 2 ^ k % B32 : Nat) : Int) = ((at0 out i + z * 2 ^ k % B32 : Nat) : Int) := by
      rw [iu_or (at0_lt hw i) (Nat.mod_lt _ (by decide)), hlow]
      have := Nat.shiftLeft_add_eq_or_of_lt (i := k) (b := at0 out i) h1 (z % 2 ^ (32 - k))
      rw [Nat.shiftLeft_eq] at this
      rw [Nat.or_comm, ← this, Nat.add_comm]
    have hsum : at0 out i + z * 2 ^ k % B32 < B32 := by
      rw [hlow]
      have h3 : z % 2 ^ (32 - k) + 1 ≤ 2 ^ (32 - k) := Nat.mod_lt _ (Nat.pow_pos (by decide))
      have h4 := Nat.mul_le_mul_right (2 ^ k) h3
      rw [Nat.add_mul, Nat.one_mul, Nat.mul_comm (2 ^ (32 - k)), hkp] at h4
      omega
    rw [hor]
    have hw1 := hw.upd i hsum
    have hl1 : (upd out (i : Int) ((at0 out i + z * 2 ^ k % B32 : Nat) : Int)).length = a.length + 1 := by rw [upd_len]; exact hl
    have e1 : IntKind.i64.wrap ((i : Int) + 1) = ((i + 1 : Nat) : Int) := by rw [w64 (by omega) (by omega)]; omega
    rw [e1]
    refine Tot.idxv (at0_idx hw1 (by omega)) (Tot.ret ?_)
    have hhB : z * 2 ^ k / B32 < B32 := by rw [hB] at *; omega
    rw [u32_nat hhB]
    refine ⟨⟨i + 1, rfl, by omega, by rw [upd_len]; exact hl1, hw1.upd _ hhB, ?_, ?_, ?_⟩, (by first | omega | (dsimp only; omega) | (simp; done) | (simp; omega))⟩
    · have a1 := val_upd out i (at0 out i + z * 2 ^ k % B32) (by omega)
      have a2 := val_upd (upd out (i : Int) ((at0 out i + z * 2 ^ k % B32 : Nat) : Int)) (i + 1) (z * 2 ^ k / B32) (by omega)
      have a3 : at0 (upd out (i : Int) ((at0 out i + z * 2 ^ k % B32 : Nat) : Int)) (i + 1) = 0 := by rw [upd_at0 _ _ _ _ (by omega), if_neg (by omega)]; exact h2 _ (by omega)
      rw [a3, Nat.mul_zero, Nat.add_zero] at a2
      rw [a2]
      rw [Nat.mul_add] at a1
      rw [val_take, hz, Nat.add_mul, ← hv, Nat.mul_assoc (B32 ^ i) z]
      have h5 : B32 ^ i * (z * 2 ^ k) = B32 ^ (i + 1) * (z * 2 ^ k / B32) + B32 ^ i * (z * 2 ^ k % B32) := by
        conv => lhs; rw [ht, Nat.mul_add, ← Nat.mul_assoc, ← Nat.pow_succ]
      omega
    · rw [upd_at0 _ _ _ _ (by omega), if_pos rfl]; exact hhigh
    · intro j hj
      rw [upd_at0 _ _ _ _ (by omega), if_neg (by omega), upd_at0 _ _ _ _ (by omega), if_neg (by omega)]
      exact h2 j (by omega)
  · obtain rfl : i = a.length := by omega
    rw [List.take_length] at hv
    exact Tot.ret ⟨hw, hv, hl⟩
end Go.Proofs.YtcdboppghnchpaaDoor

namespace Go.Proofs.YtcdboppghnchpaaDoor
open Go Go.Proofs.YtcdboppghnchpaaDoor.Gw
set_option linter.unusedVariables false

/- ### Long division: numbers -/
theorem guess_first {U V P : Nat} (hv : 0 < V / P) (hP : 0 < P) : U / V ≤ U / P / (V / P) := by
  rw [Nat.le_div_iff_mul_le hv, Nat.le_div_iff_mul_le hP, Nat.mul_assoc]
  exact Nat.le_trans (Nat.mul_le_mul_left _ (Nat.div_mul_le_self V P)) (Nat.div_mul_le_self U V)
theorem guess_down {U V P2 v1 v2 g rest top u2 : Nat} (hP : 0 < P2) (hV : V / P2 = v1 * B32 + v2) (hU : U / P2 = top * B32 + u2) (hg : g * v1 + rest = top) (hV0 : 0 < V) (ht : rest * B32 + u2 < g * v2) : U / V < g := by
  rcases Nat.lt_or_ge (U / V) g with h | h
  · exact h
  · exfalso
    have h1 : g * V ≤ U := (Nat.le_div_iff_mul_le hV0).1 h
    have h2 : g * (V / P2) ≤ U / P2 := by
      rw [Nat.le_div_iff_mul_le hP, Nat.mul_assoc]
      exact Nat.le_trans (Nat.mul_le_mul_left _ (Nat.div_mul_le_self V P2)) h1
    rw [hV, hU, ← hg, Nat.mul_add, Nat.add_mul, ← Nat.mul_assoc] at h2
    omega
theorem guess_up {U V P2 v1 v2 g rest top u2 : Nat} (hP : 0 < P2) (hV : V / P2 = v1 * B32 + v2) (hU : U / P2 = top * B32 + u2) (hg : g * v1 + rest = top) (hgP : g * P2 ≤ V) (ht : g * v2 ≤ rest * B32 + u2) : g * V ≤ U + V := by
  have h2 : g * (V / P2) ≤ U / P2 := by
    rw [hV, hU, ← hg, Nat.mul_add, Nat.add_mul, ← Nat.mul_assoc]; omega
  have h3 : g * (V / P2) * P2 ≤ U := (Nat.le_div_iff_mul_le hP).1 h2
  have h4 : V ≤ V / P2 * P2 + P2 := by
    have := Nat.div_add_mod V P2
    have := Nat.mod_lt V hP
    rw [Nat.mul_comm (V / P2)]; omega
  have h5 := Nat.mul_le_mul_left g h4
  rw [Nat.mul_add, ← Nat.mul_assoc] at h5
  omega
/-- The highest words of a number that is not too great. -/
theorem top_words {U P2 : Nat} (hP : 0 < P2) (h : U / P2 < B32 * B32 * B32) : U / P2 = ((U / (P2 * B32 * B32) % B32) * B32 + U / (P2 * B32) % B32) * B32 + U / P2 % B32 := by
  rw [← Nat.div_div_eq_div_mul, ← Nat.div_div_eq_div_mul]
  generalize U / P2 = y at *
  simp only [B32] at *
  omega
theorem val_zero : ∀ {l : List Int}, Wd l → (∀ t, at0 l t = 0) → val l = 0
  | [], _, _ => rfl
  | x :: l, h, hz => by
    rw [val]
    have h0 := hz 0
    have e : at0 (x :: l) 0 = x.toNat := by unfold at0; simp
    rw [e] at h0
    rw [h0, val_zero h.cons.2 (fun t => by have := hz (t + 1); unfold at0 at this ⊢; simpa using this)]
    simp
theorem val_high {l : List Int} (h : Wd l) {s : Nat} (hz : ∀ t, s ≤ t → at0 l t = 0) : val l < B32 ^ s := by
  have e : l = l.take s ++ l.drop s := (List.take_append_drop s l).symm
  have h1 := val_lt (h.take s)
  have h2 : val (l.drop s) = 0 := val_zero (fun x hx => h x (List.mem_of_mem_drop hx)) (fun t => by
    have := hz (s + t) (by omega)
    unfold at0 at this ⊢
    rw [List.getElem?_drop]; exact this)
  have h3 : val l = val (l.take s) := by conv => lhs; rw [e]
                                         rw [val_app, h2, Nat.mul_zero, Nat.add_zero]
  rw [h3]
  exact Nat.lt_of_lt_of_le h1 (Nat.pow_le_pow_right (by decide) (by rw [List.length_take]; omega))
theorem at0_high {l : List Int} (h : Wd l) {s t : Nat} (hv : val l < B32 ^ s) (ht : s ≤ t) : at0 l t = 0 := by
  rw [at0_val h, Nat.div_eq_of_lt (Nat.lt_of_lt_of_le hv (Nat.pow_le_pow_right (by decide) ht))]; rfl
theorem idx_at {l : List Int} (h : Wd l) {z : Int} {i : Nat} (hz : z = (i : Int)) (hi : i < l.length) : idx l z = some ((at0 l i : Nat) : Int) := by subst hz; exact at0_idx h hi
set_option maxRecDepth 20000 in
/-- The guess of a digit, made less until it is right or too great by one. -/
theorem guess_ok (v u : List Int) (j k : Nat) (hv : Wd v) (hu : Wd u) (hk : v.length = k) (k2 : 2 ≤ k) (hj : j + k < u.length) (lu : u.length ≤ 1000000)
    (hv1 : 0 < at0 v (k - 1)) (hU : val u < B32 ^ (j + 1) * val v) (q : Nat) (hq : q = val u / B32 ^ j / val v) :
    Tot (fun n => loopN (integer_divide_L91 v u (j : Int)) n ((((at0 u (j + k) * B32 + at0 u (j + k - 1)) / at0 v (k - 1) : Nat) : Int), (((at0 u (j + k) * B32 + at0 u (j + k - 1)) % at0 v (k - 1) : Nat) : Int)))
      (fun g => ∃ g' : Nat, g = (g' : Int) ∧ q ≤ g' ∧ g' * val v ≤ val u / B32 ^ j + val v ∧ g' < B32) := by
  have hB : B32 = 4294967296 := rfl
  have hp : ∀ e, 0 < B32 ^ e := fun e => Nat.pow_pos (by decide)
  have hV0 : 0 < val v := by
    rcases Nat.eq_zero_or_pos (val v) with h | h
    · rw [at0_val hv, h, Nat.zero_div] at hv1; simp at hv1
    · exact h
  have hVk := val_lt hv
  rw [hk] at hVk
  -- the window
  have hUw : val u / B32 ^ j < B32 * val v := by
    rw [Nat.div_lt_iff_lt_mul (hp j), Nat.mul_right_comm, Nat.mul_comm B32, ← Nat.pow_succ]; exact hU
  have hUk : val u / B32 ^ j < B32 ^ (k + 1) := Nat.lt_of_lt_of_le hUw (by rw [Nat.pow_succ, Nat.mul_comm]; exact Nat.mul_le_mul_right _ (Nat.le_of_lt hVk))
  have hqB : q < B32 := by rw [hq, Nat.div_lt_iff_lt_mul hV0]; exact hUw
  have e1 : k - 2 + 1 = k - 1 := by omega
  have e2 : k - 2 + 1 + 1 = k := by omega
  have hPP : B32 ^ (k - 2) * B32 = B32 ^ (k - 1) := by rw [← Nat.pow_succ, Nat.succ_eq_add_one, e1]
  have hPP2 : B32 ^ (k - 1) * B32 = B32 ^ k := by rw [← Nat.pow_succ]; congr 1; omega
  have atu : ∀ t, at0 u (j + t) = val u / B32 ^ j / B32 ^ t % B32 := fun t => by rw [at0_val hu, Nat.pow_add, ← Nat.div_div_eq_div_mul]
  have hUP : val u / B32 ^ j / B32 ^ (k - 2) < B32 * B32 * B32 := by
    rw [Nat.div_lt_iff_lt_mul (hp _)]
    rw [show k + 1 = (k - 2) + 1 + 1 + 1 by omega, Nat.pow_succ, Nat.pow_succ, Nat.pow_succ] at hUk
    rw [show B32 * B32 * B32 * B32 ^ (k - 2) = B32 ^ (k - 2) * B32 * B32 * B32 by ac_rfl]
    exact hUk
  have hVP : val v / B32 ^ (k - 2) < B32 * B32 := by
    rw [Nat.div_lt_iff_lt_mul (hp _)]
    rw [show k = (k - 2) + 1 + 1 by omega, Nat.pow_succ, Nat.pow_succ] at hVk
    rw [show B32 * B32 * B32 ^ (k - 2) = B32 ^ (k - 2) * B32 * B32 by ac_rfl]
    simpa using hVk
  have tw := top_words (hp (k - 2)) hUP
  rw [hPP, hPP2, ← atu, ← atu, ← atu] at tw
  have tv : val v / B32 ^ (k - 2) = at0 v (k - 1) * B32 + at0 v (k - 2) := by
    rw [at0_val hv, at0_val hv, ← hPP, ← Nat.div_div_eq_div_mul]
    generalize val v / B32 ^ (k - 2) = y at *
    simp only [B32] at *; omega
  rw [show j + (k - 1) = j + k - 1 by omega, show j + (k - 2) = j + k - 2 by omega] at tw
  have hv1B := at0_lt hv (k - 1)
  have hv2B := at0_lt hv (k - 2)
  have hu0B := at0_lt hu (j + k)
  have hu1B := at0_lt hu (j + k - 1)
  have hu2B := at0_lt hu (j + k - 2)
  have vP : val v / B32 ^ (k - 1) = at0 v (k - 1) := by
    rw [← hPP, ← Nat.div_div_eq_div_mul, tv]; simp only [B32] at *; omega
  have uP : val u / B32 ^ j / B32 ^ (k - 1) = at0 u (j + k) * B32 + at0 u (j + k - 1) := by
    rw [← hPP, ← Nat.div_div_eq_div_mul, tw]; simp only [B32] at *; omega
  have g0 := guess_first (U := val u / B32 ^ j) (V := val v) (P := B32 ^ (k - 1)) (by rw [vP]; exact hv1) (hp _)
  rw [vP, uP, ← hq] at g0
  -- the highest two words are not too great
  have htop : at0 u (j + k) * B32 + at0 u (j + k - 1) < B32 * (at0 v (k - 1) + 1) := by
    rw [← uP, Nat.div_lt_iff_lt_mul (hp _), Nat.mul_assoc]
    refine Nat.lt_of_lt_of_le hUw (Nat.mul_le_mul_left _ ?_)
    rw [← vP]
    have := Nat.div_add_mod (val v) (B32 ^ (k - 1))
    have := Nat.mod_lt (val v) (hp (k - 1))
    rw [Nat.add_mul, Nat.mul_comm (_ / _)]; omega
  have hB2 : ∀ g, g ≤ B32 → g * B32 ^ (k - 2) ≤ val v := fun g hg => by
    refine Nat.le_trans (Nat.mul_le_mul_right _ hg) ?_
    rw [Nat.mul_comm, hPP]
    have h3 : 1 ≤ val v / B32 ^ (k - 1) := by rw [vP]; exact hv1
    have := (Nat.le_div_iff_mul_le (hp (k - 1))).1 h3
    omega
  obtain ⟨top, htv⟩ : ∃ t, at0 u (j + k) * B32 + at0 u (j + k - 1) = t := ⟨_, rfl⟩
  obtain ⟨v1, htv1⟩ : ∃ t, at0 v (k - 1) = t := ⟨_, rfl⟩
  rw [htv] at tw uP g0 htop ⊢
  rw [htv1] at hv1 tv hv1B vP g0 htop ⊢
  have htopB : top < B32 * B32 := by rw [← htv, hB]; rw [hB] at hu0B hu1B; omega
  have init : (fun s : Int × Int => ∃ g rest : Nat, s = ((g : Int), (rest : Int)) ∧ g * v1 + rest = top ∧ q ≤ g ∧ rest < B32) (((top / v1 : Nat) : Int), ((top % v1 : Nat) : Int)) :=
    ⟨top / v1, top % v1, rfl, by rw [Nat.mul_comm]; exact Nat.div_add_mod top v1, g0, Nat.lt_trans (Nat.mod_lt _ hv1) hv1B⟩
  refine Tot.loop0 (fun s : Int × Int => ∃ g rest : Nat, s = ((g : Int), (rest : Int)) ∧ g * v1 + rest = top ∧ q ≤ g ∧ rest < B32) (fun s => s.1.toNat) init ?_
  rintro _ ⟨g, rest, rfl, hg, hqg, hr⟩
  dsimp only [integer_divide_L91]
  have i2 : IntKind.i64.wrap ((v.length : Int) - 2) = ((k - 2 : Nat) : Int) := by rw [w64 (by omega) (by omega)]; omega
  have i1 : IntKind.i64.wrap ((v.length : Int) - 1) = ((k - 1 : Nat) : Int) := by rw [w64 (by omega) (by omega)]; omega
  have i3 : IntKind.i64.wrap ((IntKind.i64.wrap ((j : Int) + (v.length : Int))) - 2) = ((j + k - 2 : Nat) : Int) := by rw [w64 (x := (j : Int) + (v.length : Int)) (by omega) (by omega), w64 (by omega) (by omega)]; omega
  have hgt : g ≤ top := by rw [← hg]; exact Nat.le_trans (Nat.le_mul_of_pos_right g hv1) (Nat.le_add_right _ _)
  rw [i1, i2, i3]
  refine Tot.cut (decide (B32 ≤ g ∨ rest * B32 + at0 u (j + k - 2) < g * at0 v (k - 2))) ?_ ?_
  · refine Tot.condD (fun h => Tot.ret ?_) (fun h => ?_)
    · rw [decide_eq_true]; left; rw [hB]; omega
    · have hgB : g < B32 := by rw [hB]; omega
      have hm := (mul_bound hgB hv2B (show 0 < B32 by decide) (show 0 < B32 by decide)).1
      refine Tot.idxv (idx_at hv rfl (by omega)) (Tot.idxv (idx_at hu rfl (by omega)) (Tot.ret ?_))
      rw [u64_nat (n := at0 v (k - 2)) (by rw [hB] at hv2B; omega), show ((g : Int) * ((at0 v (k - 2) : Nat) : Int)) = ((g * at0 v (k - 2) : Nat) : Int) from (Int.natCast_mul _ _).symm, u64_nat (by omega), u64_nat (n := at0 u (j + k - 2)) (by rw [hB] at hu2B; omega), two64 hr hu2B]
      rw [decide_eq_decide]
      constructor
      · intro h4; right; exact Int.ofNat_lt.1 h4
      · rintro (h4 | h4)
        · exact absurd hgB (Nat.not_lt.2 h4)
        · exact Int.ofNat_lt.2 h4
  · refine Tot.condD (fun ht => ?_) (fun ht => Tot.ret ⟨g, rfl, hqg, ?_, ?_⟩)
    · have hqg2 : q < g := by
        rcases ht with ht | ht
        · omega
        · rw [hq]; exact guess_down (hp (k - 2)) tv tw hg hV0 ht
      refine Tot.idxv (idx_at hv rfl (by omega)) ?_
      rw [htv1, u64_nat (n := v1) (by rw [hB] at hv1B; omega), show ((rest : Int) + (v1 : Int)) = ((rest + v1 : Nat) : Int) from (Int.natCast_add _ _).symm, u64_nat (n := rest + v1) (by rw [hB] at hv1B hr; omega)]
      have eg : IntKind.u64.wrap ((g : Int) - 1) = ((g - 1 : Nat) : Int) := by rw [show (g : Int) - 1 = ((g - 1 : Nat) : Int) by omega]; exact u64_nat (by rw [hB] at htopB; omega)
      rw [eg]
      have hg2 : (g - 1) * v1 + (rest + v1) = top := by
        rw [← hg, Nat.sub_mul, Nat.one_mul]
        have := Nat.le_mul_of_pos_left v1 (show 0 < g by omega)
        omega
      refine Tot.condD (fun hb => Tot.ret ⟨g - 1, rfl, by omega, ?_, ?_⟩) (fun hb => Tot.ret ⟨⟨g - 1, rest + v1, rfl, hg2, by omega, by rw [hB]; omega⟩, ?_⟩)
      · have hlt : g - 1 < B32 := by
          have : (g - 1) * v1 < B32 * v1 := by rw [Nat.mul_add, Nat.mul_one] at htop; rw [hB] at htop ⊢; omega
          exact Nat.lt_of_mul_lt_mul_right this
        refine guess_up (hp (k - 2)) tv tw hg2 (hB2 _ (Nat.le_of_lt hlt)) ?_
        have h5 : (g - 1) * at0 v (k - 2) ≤ B32 * B32 := Nat.mul_le_mul (Nat.le_of_lt hlt) (Nat.le_of_lt hv2B)
        have h6 : B32 * B32 ≤ (rest + v1) * B32 := Nat.mul_le_mul_right _ (by rw [hB]; omega)
        omega
      · have : (g - 1) * v1 < B32 * v1 := by rw [Nat.mul_add, Nat.mul_one] at htop; rw [hB] at htop ⊢; omega
        exact Nat.lt_of_mul_lt_mul_right this
      · show ((g - 1 : Nat) : Int).toNat < ((g : Nat) : Int).toNat
        omega
    · refine guess_up (hp (k - 2)) tv tw hg (hB2 _ (by omega)) (by omega)
    · omega
end Go.Proofs.YtcdboppghnchpaaDoor

namespace Go.Proofs.YtcdboppghnchpaaDoor
open Go Go.Proofs.YtcdboppghnchpaaDoor.Gw
set_option linter.unusedVariables false

theorem i64n {z : Int} {n : Nat} (h : z = (n : Int)) (hn : n < 9223372036854775808) : IntKind.i64.wrap z = (n : Int) := by subst h; exact w64 (by omega) (by omega)
/-- The product of a digit and the divisor is taken away. -/
theorem subtract_ok (v u : List Int) (j k g : Nat) (hv : Wd v) (hu : Wd u) (hk : v.length = k) (hj : j + k < u.length) (lu : u.length ≤ 1000000) (hg : g < B32) :
    Tot (fun n => loopN (integer_divide_L93 n v (j : Int) (g : Int)) n (u, 0, 0, 0))
      (fun r => ∃ c b : Nat, r.2 = ((c : Int), (b : Int)) ∧ c < B32 ∧ b ≤ 1 ∧ r.1.length = u.length ∧ Wd r.1 ∧ val r.1 + B32 ^ j * (g * val v) = val u + B32 ^ (j + k) * (c + b) ∧ ∀ t, j + k ≤ t → at0 r.1 t = at0 u t) := by
  have hB : B32 = 4294967296 := rfl
  refine Tot.loop (fun s : List Int × Int × Int × Int => ∃ c b i : Nat, s.2 = ((c : Int), (b : Int), (i : Int)) ∧ c < B32 ∧ b ≤ 1 ∧ i ≤ k ∧ s.1.length = u.length ∧ Wd s.1 ∧ val s.1 + B32 ^ j * (g * val (v.take i)) = val u + B32 ^ (j + i) * (c + b) ∧ ∀ t, j + i ≤ t → at0 s.1 t = at0 u t) (fun s => k - s.2.2.2.toNat)
    ⟨0, 0, 0, rfl, by decide, by omega, by omega, rfl, hu, by simp [val], fun t _ => rfl⟩ ?_
  rintro ⟨w, _⟩ ⟨c, b, i, rfl, hc, hb, hi, hl, hw, hval, hat⟩
  dsimp only [integer_divide_L93] at *
  refine Tot.condD (fun hlt => ?_) (fun hlt => ?_)
  · have hx := at0_lt hv i
    have hm := mul_bound hg hx hc (show 0 < B32 by decide)
    have hp : g * at0 v i + c < 18446744073709551616 := by have := hm.2.1; omega
    have hp2 : (g * at0 v i + c) / B32 < B32 := by have := hm.2.2; simpa using this
    have eij : IntKind.i64.wrap ((i : Int) + (j : Int)) = ((j + i : Nat) : Int) := i64n (by omega) (by omega)
    have hgx : g * at0 v i < 18446744073709551616 := by omega
    rw [eij]
    refine Tot.idxv (idx_at hv rfl (by omega)) (Tot.idxv (idx_at hw rfl (by omega)) ?_)
    rw [u64_nat (n := at0 v i) (by rw [hB] at hx; omega), show ((g : Int) * ((at0 v i : Nat) : Int)) = ((g * at0 v i : Nat) : Int) from (Int.natCast_mul _ _).symm, u64_nat hgx,
      show (((g * at0 v i : Nat) : Int) + (c : Int)) = ((g * at0 v i + c : Nat) : Int) from (Int.natCast_add _ _).symm, u64_nat hp, wu32_nat, shr32]
    refine Tot.bind (Tot.at_ (fun n => sub32 _ _ _ n (at0_lt hw (j + i)) (Nat.mod_lt _ (show 0 < B32 by decide)) hb) (Tot.idxv (idx_at hw rfl (by omega)) (Tot.ret ?_)))
    have e1 : IntKind.i64.wrap ((i : Int) + 1) = ((i + 1 : Nat) : Int) := i64n (by omega) (by omega)
    rw [e1]
    have hbe := borrow_eq (p := B32 ^ (j + i)) (at0_lt hw (j + i)) (Nat.mod_lt (g * at0 v i + c) (show 0 < B32 by decide)) hb
    have hd : (at0 w (j + i) + B32 + B32 - (g * at0 v i + c) % B32 - b) % B32 < B32 := Nat.mod_lt _ (by decide)
    generalize (at0 w (j + i) + B32 + B32 - (g * at0 v i + c) % B32 - b) % B32 = d at *
    have hb2 : (if at0 w (j + i) < (g * at0 v i + c) % B32 + b then 1 else 0) ≤ 1 := by split <;> omega
    generalize (if at0 w (j + i) < (g * at0 v i + c) % B32 + b then 1 else 0) = b2 at *
    have hvu := val_upd w (j + i) d (by omega)
    refine ⟨⟨_, b2, i + 1, rfl, hp2, hb2, by omega, by rw [upd_len]; exact hl, hw.upd _ hd, ?_, fun t ht => ?_⟩, (by first | omega | (dsimp only; omega) | (simp; done) | (simp; omega))⟩
    · rw [val_take, show j + (i + 1) = j + i + 1 by omega, Nat.pow_succ]
      have hce := carry_eq (B32 ^ (j + i)) (g * at0 v i + c)
      have a1 : B32 ^ j * (g * (val (v.take i) + B32 ^ i * at0 v i)) = B32 ^ j * (g * val (v.take i)) + B32 ^ (j + i) * (g * at0 v i) := by
        rw [Nat.mul_add, Nat.mul_add, Nat.pow_add, Nat.mul_left_comm g (B32 ^ i), Nat.mul_assoc (B32 ^ j)]
      rw [a1]
      rw [Nat.mul_add] at hval hce ⊢
      dsimp only
      omega
    · rw [upd_at0 _ _ _ _ (by omega), if_neg (by omega)]; exact hat t (by omega)
  · obtain rfl : i = k := by omega
    rw [List.take_of_length_le (by omega)] at hval
    exact Tot.ret ⟨c, b, rfl, hc, hb, hl, hw, hval, hat⟩
/-- The divisor is given back. -/
theorem giveback_ok (v u : List Int) (j k : Nat) (hv : Wd v) (hu : Wd u) (hk : v.length = k) (hj : j + k < u.length) (lu : u.length ≤ 1000000) :
    Tot (fun n => loopN (integer_divide_L97 n v (j : Int)) n (u, 0, 0))
      (fun r => ∃ c : Nat, r.2 = (c : Int) ∧ c ≤ 1 ∧ r.1.length = u.length ∧ Wd r.1 ∧ val r.1 + B32 ^ (j + k) * c = val u + B32 ^ j * val v ∧ ∀ t, j + k ≤ t → at0 r.1 t = at0 u t) := by
  have hB : B32 = 4294967296 := rfl
  refine Tot.loop (fun s : List Int × Int × Int => ∃ c i : Nat, s.2 = ((c : Int), (i : Int)) ∧ c ≤ 1 ∧ i ≤ k ∧ s.1.length = u.length ∧ Wd s.1 ∧ val s.1 + B32 ^ (j + i) * c = val u + B32 ^ j * val (v.take i) ∧ ∀ t, j + i ≤ t → at0 s.1 t = at0 u t) (fun s => k - s.2.2.toNat)
    ⟨0, 0, rfl, by omega, by omega, rfl, hu, by simp [val], fun t _ => rfl⟩ ?_
  rintro ⟨w, _⟩ ⟨c, i, rfl, hc, hi, hl, hw, hval, hat⟩
  dsimp only [integer_divide_L97] at *
  refine Tot.condD (fun hlt => ?_) (fun hlt => ?_)
  · have hx := at0_lt hv i
    have eij : IntKind.i64.wrap ((i : Int) + (j : Int)) = ((j + i : Nat) : Int) := i64n (by omega) (by omega)
    rw [eij]
    refine Tot.idxv (idx_at hv rfl (by omega)) (Tot.idxv (idx_at hw rfl (by omega)) ?_)
    refine Tot.bind (Tot.at_ (fun n => add32 _ _ _ n (at0_lt hw (j + i)) hx hc) (Tot.idxv (idx_at hw rfl (by omega)) (Tot.ret ?_)))
    have e1 : IntKind.i64.wrap ((i : Int) + 1) = ((i + 1 : Nat) : Int) := i64n (by omega) (by omega)
    rw [e1]
    have hy := at0_lt hw (j + i)
    have hs : (at0 w (j + i) + at0 v i + c) / B32 ≤ 1 := by rw [hB] at *; omega
    have hd : (at0 w (j + i) + at0 v i + c) % B32 < B32 := Nat.mod_lt _ (by decide)
    have hvu := val_upd w (j + i) ((at0 w (j + i) + at0 v i + c) % B32) (by omega)
    have hce := carry_eq (B32 ^ (j + i)) (at0 w (j + i) + at0 v i + c)
    refine ⟨⟨_, i + 1, rfl, hs, by omega, by rw [upd_len]; exact hl, hw.upd _ hd, ?_, fun t ht => ?_⟩, (by first | omega | (dsimp only; omega) | (simp; done) | (simp; omega))⟩
    · rw [val_take, show j + (i + 1) = j + i + 1 by omega, Nat.pow_succ]
      have a1 : B32 ^ j * (val (v.take i) + B32 ^ i * at0 v i) = B32 ^ j * val (v.take i) + B32 ^ (j + i) * at0 v i := by
        rw [Nat.mul_add, Nat.pow_add, Nat.mul_assoc]
      rw [a1]
      rw [Nat.mul_add, Nat.mul_add] at hce
      dsimp only
      omega
    · rw [upd_at0 _ _ _ _ (by omega), if_neg (by omega)]; exact hat t (by omega)
  · obtain rfl : i = k := by omega
    rw [List.take_of_length_le (by omega)] at hval
    exact Tot.ret ⟨c, rfl, hc, hl, hw, hval, hat⟩
end Go.Proofs.YtcdboppghnchpaaDoor

namespace Go.Proofs.YtcdboppghnchpaaDoor
open Go Go.Proofs.YtcdboppghnchpaaDoor.Gw
set_option linter.unusedVariables false

/-- One digit of the quotient. -/
theorem digit_ok (v u q : List Int) (j k : Nat) (hv : Wd v) (hu : Wd u) (hqw : Wd q) (hk : v.length = k) (k2 : 2 ≤ k) (hj : j + k < u.length) (lu : u.length ≤ 1000000) (hjq : j < q.length)
    (hv1 : 0 < at0 v (k - 1)) (hU : val u < B32 ^ (j + 1) * val v) :
    Tot (fun n => integer_divide_L81 n v (u, q, (j : Int)))
      (fun o => ∃ u2 : List Int, o = .go (u2, upd q (j : Int) ((val u / B32 ^ j / val v : Nat) : Int), (j : Int) - 1) ∧ Wd u2 ∧ u2.length = u.length ∧ val u2 + B32 ^ j * (val u / B32 ^ j / val v * val v) = val u ∧ val u / B32 ^ j / val v < B32) := by
  have hB : B32 = 4294967296 := rfl
  have hp : ∀ e, 0 < B32 ^ e := fun e => Nat.pow_pos (by decide)
  have hV0 : 0 < val v := by
    rcases Nat.eq_zero_or_pos (val v) with h | h
    · rw [at0_val hv, h, Nat.zero_div] at hv1; simp at hv1
    · exact h
  have hVk := val_lt hv
  rw [hk] at hVk
  have hUw : val u / B32 ^ j < B32 * val v := by
    rw [Nat.div_lt_iff_lt_mul (hp j), Nat.mul_right_comm, Nat.mul_comm B32, ← Nat.pow_succ]; exact hU
  have huP : val u < B32 ^ (j + k + 1) := by
    refine Nat.lt_of_lt_of_le hU ?_
    rw [show j + k + 1 = (j + 1) + k by omega, Nat.pow_add B32 (j + 1)]
    exact Nat.mul_le_mul_left _ (Nat.le_of_lt hVk)
  obtain ⟨Q, hQ⟩ : ∃ Q, val u / B32 ^ j / val v = Q := ⟨_, rfl⟩
  have hQB : Q < B32 := by rw [← hQ, Nat.div_lt_iff_lt_mul hV0]; exact hUw
  have hQV : B32 ^ j * (Q * val v) ≤ val u := by
    have h1 : Q * val v ≤ val u / B32 ^ j := by rw [← hQ]; exact Nat.div_mul_le_self _ _
    have := (Nat.le_div_iff_mul_le (hp j)).1 h1
    rwa [Nat.mul_comm]
  rw [hQ]
  dsimp only [integer_divide_L81]
  have ejk : IntKind.i64.wrap ((j : Int) + (v.length : Int)) = ((j + k : Nat) : Int) := i64n (by omega) (by omega)
  have ejk1 : IntKind.i64.wrap (((j + k : Nat) : Int) - 1) = ((j + k - 1 : Nat) : Int) := i64n (by omega) (by omega)
  have ek1 : IntKind.i64.wrap ((v.length : Int) - 1) = ((k - 1 : Nat) : Int) := i64n (by omega) (by omega)
  refine Tot.condD (fun hc => ?_) (fun hc => absurd (show (j : Int) ≥ 0 by omega) hc)
  rw [ejk, ejk1, ek1]
  have hv1B := at0_lt hv (k - 1)
  have hu0B := at0_lt hu (j + k)
  have hu1B := at0_lt hu (j + k - 1)
  refine Tot.bind (Tot.mono (Q' := fun r : List Int × List Int => ∃ u2, r = (u2, upd q (j : Int) (Q : Int)) ∧ Wd u2 ∧ u2.length = u.length ∧ val u2 + B32 ^ j * (Q * val v) = val u) ?_ ?_)
  rotate_left
  · rintro _ ⟨u2, rfl, h1, h2, h3⟩
    refine Tot.ret ⟨u2, ?_, h1, h2, h3, hQB⟩
    rw [w64 (by omega) (by omega)]
  refine Tot.idxv (idx_at hu rfl (by omega)) (Tot.idxv (idx_at hu rfl (by omega)) (Tot.idxv (idx_at hv rfl (by omega)) ?_))
  rw [u64_nat (n := at0 v (k - 1)) (by rw [hB] at hv1B; omega), u64_nat (n := at0 u (j + k)) (by rw [hB] at hu0B; omega), u64_nat (n := at0 u (j + k - 1)) (by rw [hB] at hu1B; omega), two64 hu0B hu1B, tdiv_nat]
  have htB : at0 u (j + k) * B32 + at0 u (j + k - 1) < 18446744073709551616 := by rw [hB] at *; omega
  rw [u64_nat (n := (at0 u (j + k) * B32 + at0 u (j + k - 1)) / at0 v (k - 1)) (Nat.lt_of_le_of_lt (Nat.div_le_self _ _) htB)]
  refine Tot.need (by omega) (Tot.idxv (idx_at hv rfl (by omega)) (Tot.need (by rw [u64_nat (n := at0 v (k - 1)) (by rw [hB] at hv1B; omega)]; omega) ?_))
  rw [u64_nat (n := at0 v (k - 1)) (by rw [hB] at hv1B; omega), tmod_nat]
  refine Tot.bind (Tot.mono (guess_ok v u j k hv hu hk k2 hj lu hv1 hU Q hQ.symm) ?_)
  rintro _ ⟨g, rfl, hg1, hg2, hgB⟩
  have hgQ : g ≤ Q + 1 := by
    rcases Nat.eq_zero_or_pos g with h0 | h0
    · omega
    · have h1 : (g - 1) * val v ≤ val u / B32 ^ j := by rw [Nat.sub_mul, Nat.one_mul]; generalize val u / B32 ^ j = U at hg2 ⊢; omega
      have h2 := (Nat.le_div_iff_mul_le hV0).2 h1
      rw [hQ] at h2; omega
  refine Tot.bind (Tot.mono (subtract_ok v u j k g hv hu hk hj lu hgB) ?_)
  rintro ⟨w, _⟩ ⟨c, b, rfl, hcB, hb, hwl, hww, hwv, hwa⟩
  dsimp only at *
  refine Tot.idxv (idx_at hww rfl (by omega)) ?_
  rw [hwa (j + k) (Nat.le_refl _), u32_nat hcB]
  refine Tot.bind (Tot.at_ (fun n => sub32 _ _ _ n hu0B hcB hb) (Tot.idxv (idx_at hww rfl (by omega)) ?_))
  have hbe := borrow_eq (p := B32 ^ (j + k)) hu0B hcB hb
  have hd : (at0 u (j + k) + B32 + B32 - c - b) % B32 < B32 := Nat.mod_lt _ (by decide)
  obtain ⟨d, hdd⟩ : ∃ d, (at0 u (j + k) + B32 + B32 - c - b) % B32 = d := ⟨_, rfl⟩
  rw [hdd] at hbe hd ⊢
  obtain ⟨b2, hb2⟩ : ∃ b2, (if at0 u (j + k) < c + b then 1 else 0) = b2 := ⟨_, rfl⟩
  have hb21 : b2 ≤ 1 := by rw [← hb2]; split <;> omega
  rw [hb2] at hbe ⊢
  have hvu := val_upd w (j + k) d (by omega)
  rw [hwa (j + k) (Nat.le_refl _)] at hvu
  have hE1 : val (upd w ((j + k : Nat) : Int) (d : Int)) + B32 ^ j * (g * val v) = val u + B32 ^ (j + k) * B32 * b2 := by
    rw [Nat.mul_add] at hwv
    omega
  have hw1w := hww.upd (j + k) hd
  have hw1l : (upd w ((j + k : Nat) : Int) (d : Int)).length = u.length := by rw [upd_len]; exact hwl
  have hw1a : ∀ t, j + k + 1 ≤ t → at0 (upd w ((j + k : Nat) : Int) (d : Int)) t = 0 := fun t ht => by
    rw [upd_at0 _ _ _ _ (by omega), if_neg (by omega), hwa t (by omega)]
    exact at0_high hu huP ht
  have hw1d : at0 (upd w ((j + k : Nat) : Int) (d : Int)) (j + k) = d := by rw [upd_at0 _ _ _ _ (by omega), if_pos rfl]
  have hw1P := val_high hw1w hw1a
  rw [Nat.pow_succ] at hw1P
  refine Tot.bind (Tot.mono (Q' := fun r : List Int × Int => ∃ u2 : List Int, r = (u2, (Q : Int)) ∧ Wd u2 ∧ u2.length = u.length ∧ val u2 + B32 ^ j * (Q * val v) = val u) ?_ ?_)
  · refine Tot.condN (fun hne => ?_) (fun he => Tot.ret ?_)
    · have h1 : b2 = 1 := by omega
      subst h1
      have hgQ1 : g = Q + 1 := by
        rcases Nat.lt_or_ge Q g with h | h
        · omega
        · exfalso
          have : g = Q := by omega
          rw [this] at hE1; omega
      refine Tot.bind (Tot.mono (giveback_ok v _ j k hv hw1w hk (by rw [hw1l]; exact hj) (by rw [hw1l]; exact lu)) ?_)
      rintro ⟨x, _⟩ ⟨co, rfl, hco, hxl, hxw, hxv, hxa⟩
      dsimp only at *
      refine Tot.idxv (idx_at hxw rfl (by omega)) (Tot.idxv (idx_at hxw rfl (by omega)) (Tot.ret ?_))
      rw [hxa (j + k) (Nat.le_refl _), hw1d, show ((d : Int) + (co : Int)) = ((d + co : Nat) : Int) from (Int.natCast_add _ _).symm, wu32_nat]
      have hm : (d + co) % B32 < B32 := Nat.mod_lt _ (by decide)
      have hvx := val_upd x (j + k) ((d + co) % B32) (by omega)
      rw [hxa (j + k) (Nat.le_refl _), hw1d] at hvx
      have hce := carry_eq (B32 ^ (j + k)) (d + co)
      rw [Nat.mul_add (B32 ^ (j + k)) d co] at hce
      have hx3w := hxw.upd (j + k) hm
      have hx3P := val_high hx3w (s := j + k + 1) (fun t ht => by
        rw [upd_at0 _ _ _ _ (by omega), if_neg (by omega), hxa t (by omega)]
        exact hw1a t ht)
      rw [Nat.pow_succ] at hx3P
      have ho : (d + co) / B32 ≤ 1 := by rw [hB] at hd ⊢; omega
      rw [hgQ1, Nat.add_mul, Nat.one_mul, Nat.mul_add] at hE1
      have ho1 : (d + co) / B32 = 1 := by
        rcases Nat.eq_zero_or_pos ((d + co) / B32) with h | h
        · exfalso
          rw [h, Nat.mul_zero] at hce
          omega
        · omega
      rw [ho1] at hce
      refine ⟨_, ?_, hx3w, by rw [upd_len]; omega, by omega⟩
      congr 1
      rw [hgQ1, show (((Q + 1 : Nat) : Int) - 1) = (Q : Int) by omega, u64_nat (by rw [hB] at hQB; omega)]
    · have h1 : b2 = 0 := by omega
      subst h1
      rw [Nat.mul_zero, Nat.add_zero] at hE1
      have h2 : g * val v ≤ val u / B32 ^ j := by
        rw [Nat.le_div_iff_mul_le (hp j), Nat.mul_comm]; omega
      have h3 := (Nat.le_div_iff_mul_le hV0).2 h2
      rw [hQ] at h3
      obtain rfl : g = Q := by omega
      exact ⟨_, rfl, hw1w, hw1l, hE1⟩
  · rintro _ ⟨u2, rfl, h1, h2, h3⟩
    refine Tot.idxv (idx_at hqw rfl hjq) (Tot.ret ⟨u2, ?_, h1, h2, h3⟩)
    rw [u32_nat hQB]
end Go.Proofs.YtcdboppghnchpaaDoor

namespace Go.Proofs.YtcdboppghnchpaaDoor
open Go Go.Proofs.YtcdboppghnchpaaDoor.Gw
set_option linter.unusedVariables false

theorem digits_ok (v u : List Int) (k : Nat) (hv : Wd v) (hu : Wd u) (hk : v.length = k) (k2 : 2 ≤ k) (hj : k < u.length) (lu : u.length ≤ 1000000)
    (hv1 : 0 < at0 v (k - 1)) (hU : val u < B32 ^ (u.length - k) * val v) :
    Tot (fun n => loopN (integer_divide_L81 n v) n (u, List.replicate (u.length - k) 0, (u.length : Int) - k - 1))
      (fun r => Wd r.1 ∧ Wd r.2 ∧ r.1.length = u.length ∧ r.2.length = u.length - k ∧ val r.1 = val u % val v ∧ val r.2 = val u / val v) := by
  have hV0 : 0 < val v := by
    rcases Nat.eq_zero_or_pos (val v) with h | h
    · rw [at0_val hv, h, Nat.zero_div] at hv1; simp at hv1
    · exact h
  refine Tot.loop (fun s : List Int × List Int × Int => ∃ i : Nat, s.2.2 = (i : Int) - 1 ∧ i ≤ u.length - k ∧ Wd s.1 ∧ Wd s.2.1 ∧ s.1.length = u.length ∧ s.2.1.length = u.length - k ∧ val s.1 < B32 ^ i * val v ∧ val u = val s.1 + B32 ^ i * (val (s.2.1.drop i) * val v)) (fun s => (s.2.2 + 1).toNat)
    ⟨u.length - k, by dsimp only; omega, Nat.le_refl _, hu, fun x hx => by have := List.eq_of_mem_replicate hx; omega, rfl, by simp, hU, by dsimp only; rw [List.drop_eq_nil_of_le (by simp)]; simp [val]⟩ ?_
  rintro ⟨w, q, _⟩ ⟨i, rfl, hi, hww, hqw, hwl, hql, hlt, hval⟩
  dsimp only at *
  rcases Nat.eq_zero_or_pos i with h0 | h0
  · subst h0
    dsimp only [integer_divide_L81]
    refine Tot.condD (fun hc => by simp at hc) (fun hc => Tot.ret ⟨hww, hqw, hwl, hql, ?_, ?_⟩)
    · rw [Nat.pow_zero, Nat.one_mul] at hlt hval
      rw [hval, Nat.add_mul_mod_self_right, Nat.mod_eq_of_lt hlt]
    · rw [Nat.pow_zero, Nat.one_mul] at hlt hval
      rw [hval, Nat.add_mul_div_right _ _ hV0, Nat.div_eq_of_lt hlt, Nat.zero_add, List.drop_zero]
  · obtain ⟨j, rfl⟩ : ∃ j, i = j + 1 := ⟨i - 1, by omega⟩
    have e : (((j + 1 : Nat) : Int) - 1) = (j : Int) := by omega
    rw [e]
    refine Tot.mono (digit_ok v w q j k hv hww hqw hk k2 (by omega) (by omega) (by omega) hv1 hlt) ?_
    rintro _ ⟨u2, rfl, h1, h2, h3, h4⟩
    obtain ⟨Q, hQ⟩ : ∃ Q, val w / B32 ^ j / val v = Q := ⟨_, rfl⟩
    have hlt2 : val w - B32 ^ j * (Q * val v) < B32 ^ j * val v := by
      have a1 := Nat.div_add_mod (val w / B32 ^ j) (val v)
      have a2 := Nat.mod_lt (val w / B32 ^ j) hV0
      have a3 := Nat.div_add_mod (val w) (B32 ^ j)
      have a4 := Nat.mod_lt (val w) (Nat.pow_pos (a := B32) (n := j) (by decide))
      rw [hQ] at a1
      have a5 : val w / B32 ^ j + 1 ≤ Q * val v + val v := by rw [Nat.mul_comm Q]; omega
      have a6 := Nat.mul_le_mul_left (B32 ^ j) a5
      rw [Nat.mul_add, Nat.mul_add, Nat.mul_one] at a6
      have a7 : 0 < B32 ^ j * val v := Nat.mul_pos (Nat.pow_pos (by decide)) hV0
      generalize B32 ^ j * (val w / B32 ^ j) = z at a3 a6
      generalize val w % B32 ^ j = y at a3 a4
      omega
    rw [hQ] at h3 h4 ⊢
    refine ⟨⟨j, rfl, by omega, h1, hqw.upd j h4, (by first | omega | (dsimp only; omega) | (simp; done) | (simp; omega)), by rw [upd_len]; exact hql, (by first | omega | (dsimp only; omega) | (simp; done) | (simp; omega)), ?_⟩, ?_⟩
    · show val u = val u2 + B32 ^ j * (val ((upd q (j : Int) (Q : Int)).drop j) * val v)
      rw [val_drop _ (hqw.upd j h4) (by rw [upd_len]; omega), at0_upd_same (by omega), drop_upd j _ (j + 1) (by omega), hval, Nat.add_mul, Nat.mul_add, Nat.pow_succ, Nat.mul_assoc (B32 ^ j), ← Nat.mul_assoc B32]
      omega
    · dsimp only; omega
theorem shr64 (x j : Nat) (hj : j < 64) : ((x : Int).fdiv (2 ^ min (j : Int).toNat (IntKind.u64).bits)) = ((x / 2 ^ j : Nat) : Int) := by
  have e : min (j : Int).toNat (IntKind.u64).bits = j := by simp [IntKind.bits]; omega
  rw [e, Int.fdiv_eq_ediv_of_nonneg _ (by exact Int.le_of_lt (Int.pow_pos (by decide)))]
  norm_cast
/-- The remainder, moved down. -/
theorem lower_ok (u : List Int) (k s : Nat) (hu : Wd u) (hk : k < u.length) (lu : u.length ≤ 1000000) (hs : s < 32) (hU : val u < B32 ^ k) :
    Tot (fun n => loopN (integer_divide_L99 (s : Int) u (List.replicate k 0)) n (List.replicate k 0, 0)) (fun r => Wd r ∧ r.length = k ∧ val r = val u / 2 ^ s) := by
  have hB : B32 = 4294967296 := rfl
  have hsp : 2 ^ s * 2 ^ (32 - s) = B32 := by rw [← Nat.pow_add, show s + (32 - s) = 32 by omega]
  have hs0 : 0 < 2 ^ s := Nat.pow_pos (by decide)
  refine Tot.loop0 (fun t : List Int × Int => ∃ i : Nat, t.2 = (i : Int) ∧ i ≤ k ∧ t.1.length = k ∧ Wd t.1 ∧ val (t.1.take i) = val u / 2 ^ s % B32 ^ i) (fun t => k - t.2.toNat)
    ⟨0, rfl, by omega, by simp, fun x hx => by have := List.eq_of_mem_replicate hx; omega, by simp [val, Nat.mod_one]⟩ ?_
  rintro ⟨r, _⟩ ⟨i, rfl, hi, hl, hw, hv⟩
  dsimp only [integer_divide_L99] at *
  refine Tot.condD (fun hlt => ?_) (fun hlt => ?_)
  · have hik : i < k := by simp at hlt; omega
    have e1 : IntKind.i64.wrap ((i : Int) + 1) = ((i + 1 : Nat) : Int) := i64n (by omega) (by omega)
    have hx := at0_lt hu (i + 1)
    have hy := at0_lt hu i
    rw [e1]
    refine Tot.idxv (idx_at hu rfl (by omega)) (Tot.idxv (idx_at hu rfl (by omega)) ?_)
    rw [u64_nat (n := s) (by omega), u64_nat (n := at0 u (i + 1)) (by rw [hB] at hx; omega), u64_nat (n := at0 u i) (by rw [hB] at hy; omega), two64 hx hy, shr64 _ _ (by omega), wu32_nat]
    refine Tot.need (by omega) (Tot.idxv (idx_at hw rfl (by omega)) (Tot.ret ⟨⟨i + 1, rfl, by omega, by rw [upd_len]; exact hl, hw.upd i (Nat.mod_lt _ (by decide)), ?_⟩, (by first | omega | (dsimp only; omega) | (simp; done) | (simp; omega))⟩))
    have et : (upd r (i : Int) ((((at0 u (i + 1) * B32 + at0 u i) / 2 ^ s) % B32 : Nat) : Int)).take i = r.take i := by
      unfold upd; rw [Int.toNat_natCast, List.take_set_of_le (Nat.le_refl _)]
    rw [val_take, at0_upd_same (by omega), et, hv, Nat.mod_pow_succ]
    congr 2
    rw [Nat.div_div_eq_div_mul, Nat.mul_comm (2 ^ s), ← Nat.div_div_eq_div_mul, at0_val hu, at0_val hu, Nat.pow_succ, ← Nat.div_div_eq_div_mul]
    generalize val u / B32 ^ i = y
    have h3 : y = B32 * B32 * (y / B32 / B32) + (y / B32 % B32 * B32 + y % B32) := by rw [hB]; omega
    have h4 : B32 * B32 * (y / B32 / B32) = 2 ^ s * (B32 * (2 ^ (32 - s) * (y / B32 / B32))) := by
      rw [← hsp]; ac_rfl
    conv => rhs; rw [h3, h4, Nat.mul_add_div hs0, Nat.mul_add_mod]
  · obtain rfl : i = k := by simp at hlt; omega
    rw [List.take_of_length_le (by omega)] at hv
    refine Tot.ret ⟨hw, hl, ?_⟩
    rw [hv]
    exact Nat.mod_eq_of_lt (Nat.lt_of_le_of_lt (Nat.div_le_self _ _) hU)
/-- Quotient and remainder of words. -/
theorem divide_ok (m d : Nat) (hd : d ≠ 0) (lm : (dig m).length ≤ 100000) (ld : (dig d).length ≤ 100000) :
    ∃ q r, Evt (fun n => integer_divide n (dig m) (dig d)) (q, r) ∧ Wd q ∧ Wd r ∧ val q = m / d ∧ val r = m % d ∧ q.length ≤ 200000 ∧ r.length ≤ 200000 := by
  suffices h : Tot (fun n => integer_divide n (dig m) (dig d)) (fun x => Wd x.1 ∧ Wd x.2 ∧ val x.1 = m / d ∧ val x.2 = m % d ∧ x.1.length ≤ 200000 ∧ x.2.length ≤ 200000) by
    obtain ⟨⟨q, r⟩, he, h⟩ := h
    exact ⟨q, r, he, h⟩
  have hB : B32 = 4294967296 := rfl
  dsimp only [integer_divide]
  refine Tot.bind (Tot.evt (compare_ok m d (by omega) (by omega)) ?_)
  have hdl : 0 < (dig d).length := by
    rcases Nat.eq_zero_or_pos (dig d).length with h | h
    · exact absurd (dig_nil.1 (List.eq_nil_of_length_eq_zero h)) hd
    · exact h
  refine Tot.condD (fun h => ?_) (fun h => ?_)
  · have hlt : m < d := by
      unfold cmpN at h
      by_cases h1 : m < d
      · exact h1
      · rw [if_neg h1] at h; split at h <;> omega
    refine Tot.bind (Tot.at_ (fun n => clone_ok (dig m) (by omega) n) (Tot.ret ⟨Wd.nil, dig_wd m, ?_, ?_, by simp, by dsimp only; omega⟩))
    · rw [Nat.div_eq_of_lt hlt]; rfl
    · rw [val_dig, Nat.mod_eq_of_lt hlt]
  have hge : d ≤ m := by
    rcases Nat.lt_or_ge m d with h1 | h1
    · rw [cmpN_lt h1] at h; exact absurd (by decide) h
    · exact h1
  have hlen : (dig d).length ≤ (dig m).length := by
    rcases Nat.lt_or_ge (dig m).length (dig d).length with h1 | h1
    · exact absurd (dig_short h1) (by omega)
    · exact h1
  refine Tot.condE (fun h1 => ?_) (fun h1 => ?_)
  · have hd0 : at0 (dig d) 0 = d := by
      have := (dig_bounds d).1
      rw [show (dig d).length = 1 by omega, Nat.pow_one] at this
      rw [at0_val (dig_wd d), val_dig, Nat.pow_zero, Nat.div_one, Nat.mod_eq_of_lt this]
    have hdB := at0_lt (dig_wd d) 0
    rw [hd0] at hdB
    refine Tot.idxv (idx_at (dig_wd d) rfl hdl) ?_
    rw [hd0]
    obtain ⟨q, he, hq1, hq2, hq3⟩ := short_ok (dig m) d (dig_wd m) (by omega) (by omega) hdB
    refine Tot.bind (Tot.evt he (Tot.ret ⟨hq1, ?_, ?_, ?_, by dsimp only; omega, by simp⟩))
    · rw [val_dig]
      have : m % d < d := Nat.mod_lt _ (by omega)
      intro x hx
      rw [List.mem_singleton] at hx
      subst hx; rw [hB] at hdB; omega
    · rw [hq2, val_dig]
    · dsimp only; rw [val_dig]; show ((m % d : Nat) : Int).toNat + B32 * 0 = m % d; rw [Int.toNat_natCast, Nat.mul_zero, Nat.add_zero]
  · have hk2 : 2 ≤ (dig d).length := by omega
    obtain ⟨k, hk⟩ : ∃ k, (dig d).length = k := ⟨_, rfl⟩
    have ek1 : IntKind.i64.wrap (((dig d).length : Int) - 1) = ((k - 1 : Nat) : Int) := i64n (by omega) (by omega)
    rw [ek1]
    obtain ⟨top, htop⟩ : ∃ t, at0 (dig d) (k - 1) = t := ⟨_, rfl⟩
    have htB := at0_lt (dig_wd d) (k - 1)
    have hbd := dig_bounds d
    rw [hk] at hbd
    have htv : d / B32 ^ (k - 1) = top := by
      rw [← htop, at0_val (dig_wd d), val_dig, Nat.mod_eq_of_lt]
      rw [Nat.div_lt_iff_lt_mul (Nat.pow_pos (by decide)), Nat.mul_comm, ← Nat.pow_succ]
      have := hbd.1
      rwa [show (k - 1).succ = k by omega]
    have ht0 : top ≠ 0 := by
      have h3 := (Nat.le_div_iff_mul_le (Nat.pow_pos (a := B32) (n := k - 1) (by decide))).2 (by rw [Nat.one_mul]; exact hbd.2 hd)
      omega
    refine Tot.idxv (idx_at (dig_wd d) rfl (by omega)) ?_
    rw [htop] at htB ⊢
    have hbl := bl_le (n := top) (k := 32) htB
    have hbp := bl_pos ht0
    have hlz : ∀ n, bits_LeadingZeros32 n (top : Int) = some ((32 - bl top : Nat) : Int) := fun n => by
      unfold bits_LeadingZeros32
      dsimp only
      rw [Len32_ok top htB n, Option.bind_some, i64n (n := 32 - bl top) (by omega) (by omega)]
    refine Tot.bind (Tot.at_ hlz ?_)
    obtain ⟨s, hs⟩ : ∃ s, 32 - bl top = s := ⟨_, rfl⟩
    have hs32 : s < 32 := by omega
    rw [hs, u64_nat (n := s) (by omega)]
    obtain ⟨u, heu, huw, huv, hul⟩ := shifted_ok (dig m) s (dig_wd m) (by omega) hs32
    obtain ⟨w, hew, hww, hwv, hwl⟩ := shifted_ok (dig d) s (dig_wd d) (by omega) hs32
    rw [val_dig] at huv hwv
    refine Tot.bind (Tot.evt heu (Tot.bind (Tot.evt hew ?_)))
    have hV : d * 2 ^ s < B32 ^ k := by
      have h3 := lt_bl top
      have h4 : top + 1 ≤ 2 ^ bl top := h3
      have h5 : (top + 1) * 2 ^ s ≤ B32 := by
        refine Nat.le_trans (Nat.mul_le_mul_right _ h4) ?_
        rw [← Nat.pow_add, show bl top + s = 32 by omega]
        exact Nat.le_refl _
      have h6 : d < (top + 1) * B32 ^ (k - 1) := by
        rw [← htv]
        have := Nat.div_add_mod d (B32 ^ (k - 1))
        have := Nat.mod_lt d (Nat.pow_pos (a := B32) (n := k - 1) (by decide))
        rw [Nat.add_mul, Nat.mul_comm (_ / _)]; omega
      have h7 : d * 2 ^ s < (top + 1) * B32 ^ (k - 1) * 2 ^ s := Nat.mul_lt_mul_of_pos_right h6 (Nat.pow_pos (by decide))
      refine Nat.lt_of_lt_of_le h7 ?_
      rw [Nat.mul_right_comm]
      refine Nat.le_trans (Nat.mul_le_mul_right _ h5) ?_
      rw [Nat.mul_comm, ← Nat.pow_succ, show (k - 1).succ = k by omega]
      exact Nat.le_refl _
    have hcut : Gw.cut w 0 ((dig d).length : Int) = some (w.take k) := by
      unfold Gw.cut
      rw [if_pos (by omega)]
      simp [hk]
    refine Tot.bind (Tot.val hcut ?_)
    have hvl : (w.take k).length = k := by rw [List.length_take]; omega
    have hvv : val (w.take k) = d * 2 ^ s := by
      have h3 := val_take w k
      rw [List.take_of_length_le (by omega), at0_high hww (s := k) (by rw [hwv]; exact hV) (Nat.le_refl _), Nat.mul_zero, hwv] at h3
      exact h3.symm
    have hvw := hww.take k
    have hv1 : 0 < at0 (w.take k) (k - 1) := by
      rw [at0_val hvw, hvv]
      have h3 : d * 2 ^ s / B32 ^ (k - 1) < B32 := by
        rw [Nat.div_lt_iff_lt_mul (Nat.pow_pos (by decide)), Nat.mul_comm B32, ← Nat.pow_succ, show (k - 1).succ = k by omega]; exact hV
      rw [Nat.mod_eq_of_lt h3]
      have h4 : 1 ≤ d * 2 ^ s / B32 ^ (k - 1) := by
        rw [Nat.le_div_iff_mul_le (Nat.pow_pos (by decide)), Nat.one_mul]
        exact Nat.le_trans (hbd.2 hd) (Nat.le_mul_of_pos_right _ (Nat.pow_pos (by decide)))
      exact h4
    have eL : IntKind.i64.wrap ((u.length : Int) - ((w.take k).length : Int)) = ((u.length - k : Nat) : Int) := i64n (by omega) (by omega)
    have eL1 : IntKind.i64.wrap (((u.length - k : Nat) : Int) - 1) = (u.length : Int) - k - 1 := by rw [w64 (by omega) (by omega)]; omega
    rw [eL, eL1]
    have hmk : ∀ t : Nat, t ≤ 1000000 → mk (t : Int) (0 : Int) = some (List.replicate t 0) := fun t ht => by unfold mk; rw [if_pos (by omega)]; congr 2
    refine Tot.bind (Tot.val (hmk _ (by omega)) ?_)
    have hU : val u < B32 ^ (u.length - k) * val (w.take k) := by
      rw [huv, hvv, hul]
      have h3 := (dig_bounds m).1
      have h4 : B32 ^ (k - 1) ≤ d := hbd.2 hd
      rw [← Nat.mul_assoc]
      refine Nat.mul_lt_mul_of_pos_right (Nat.lt_of_lt_of_le h3 ?_) (Nat.pow_pos (by decide))
      refine Nat.le_trans ?_ (Nat.mul_le_mul_left _ h4)
      rw [← Nat.pow_add]
      exact Nat.pow_le_pow_right (by decide) (by omega)
    refine Tot.bind (Tot.mono (digits_ok (w.take k) u k hvw huw hvl (by omega) (by omega) (by omega) hv1 hU) ?_)
    rintro ⟨r0, q⟩ ⟨hr0, hq0, hrl, hql, hrv, hqv⟩
    dsimp only at *
    rw [hvl]
    refine Tot.bind (Tot.val (hmk _ (by omega)) ?_)
    have hrk : val r0 < B32 ^ k := by
      rw [hrv, hvv]
      exact Nat.lt_trans (Nat.mod_lt _ (Nat.mul_pos (by omega) (Nat.pow_pos (by decide)))) hV
    refine Tot.bind (Tot.mono (lower_ok r0 k s hr0 (by omega) (by omega) hs32 hrk) ?_)
    rintro r ⟨hrw, hrlen, hrval⟩
    have hs0 : 0 < 2 ^ s := Nat.pow_pos (by decide)
    refine Tot.ret ⟨hq0, hrw, ?_, ?_, by dsimp only; omega, by dsimp only; omega⟩
    · rw [hqv, huv, hvv, Nat.mul_div_mul_right _ _ hs0]
    · rw [hrval, hrv, huv, hvv, Nat.mul_mod_mul_right, Nat.mul_div_cancel _ hs0]
end Go.Proofs.YtcdboppghnchpaaDoor

namespace Go.Proofs.YtcdboppghnchpaaDoor
open Go Go.Proofs.YtcdboppghnchpaaDoor.Gw
set_option linter.unusedVariables false

/- ### Quotient and remainder -/
theorem div_unique {a b q r : Int} (hb : b ≠ 0) (h : r + b * q = a) (h0 : 0 ≤ r) (hr : r < b.natAbs) : a / b = q ∧ a % b = r := by
  rcases Int.lt_or_gt_of_ne hb with h1 | h1
  · exact (Int.ediv_emod_unique' h1).2 ⟨h, h0, by omega⟩
  · exact (Int.ediv_emod_unique h1).2 ⟨h, h0, by omega⟩
theorem DivMod_ok (x y : Int_2) {k : Nat} (hx : Sm x k) (hy : Sm y k) (hk : k ≤ 50000) (h0 : toZ y ≠ 0) : Evt (fun n => integer_DivMod n x y) (ofZ (toZ x / toZ y), ofZ (toZ x % toZ y), 0) := by
  have hxl := hx.lt
  have hyl := hy.lt
  rw [natAbs_toZ] at hxl hyl
  obtain ⟨b, l⟩ := x
  obtain ⟨c, m⟩ := y
  have lx := hx.len
  have ly := hy.len
  have tx := hx.tr
  have ty := hy.tr
  have wx := hx.wd
  have wy := hy.wd
  dsimp only at lx ly tx ty wx wy hxl hyl
  have hm : val m ≠ 0 := fun e => h0 (by unfold toZ; dsimp only; rw [e]; simp)
  apply Tot.of_eq
  dsimp only [integer_DivMod]
  refine Tot.bind (Tot.evt (trim_ok l (by omega)) (Tot.bind (Tot.evt (trim_ok m (by omega)) ?_)))
  rw [← dig_val wx] at tx ⊢
  rw [← dig_val wy] at ty ⊢
  refine Tot.condE (fun h => ?_) (fun _ => ?_)
  · exact absurd (dig_nil.1 (List.length_eq_zero_iff.1 (by omega))) hm
  obtain ⟨q, r, he, hq, hr, hqv, hrv, hql, hrl⟩ := divide_ok (val l) (val m) hm (by omega) (by omega)
  refine Tot.bind (Tot.evt he ?_)
  have hdm := Nat.div_add_mod (val l) (val m)
  have hlt := Nat.mod_lt (val l) (show val m > 0 by omega)
  have hQl : val l / val m ≤ val l := Nat.div_le_self _ _
  obtain ⟨Q, hQ⟩ : ∃ Q, val l / val m = Q := ⟨_, rfl⟩
  obtain ⟨R, hR⟩ : ∃ R, val l % val m = R := ⟨_, rfl⟩
  rw [hQ] at hdm hqv hQl
  rw [hR] at hdm hrv hlt
  have hz : (val l : Int) = (val m : Int) * (Q : Int) + (R : Int) := by rw [← hdm, Int.natCast_add, Int.natCast_mul]
  have eq0 : toZ ⟨!(b == c), q⟩ = if b = c then (Q : Int) else -(Q : Int) := by unfold toZ; dsimp only; rw [hqv]; cases b <;> cases c <;> rfl
  have er0 : toZ ⟨b, r⟩ = if b then -(R : Int) else (R : Int) := by unfold toZ; dsimp only; rw [hrv]
  have hpow : B32 ^ (k + 1) = B32 ^ k * B32 := Nat.pow_succ ..
  have hBl : 2 ≤ B32 := by decide
  have hk1 : B32 ^ k * 2 ≤ B32 ^ (k + 1) := by rw [hpow]; exact Nat.mul_le_mul_left _ hBl
  have hk0 : 1 ≤ B32 ^ k := Nat.pow_pos (by decide)
  have eX : toZ ⟨b, l⟩ = if b then -(val l : Int) else (val l : Int) := rfl
  have eY : toZ ⟨c, m⟩ = if c then -(val m : Int) else (val m : Int) := rfl
  obtain ⟨X, hX⟩ : ∃ X, toZ ⟨b, l⟩ = X := ⟨_, rfl⟩
  obtain ⟨Y, hY⟩ : ∃ Y, toZ ⟨c, m⟩ = Y := ⟨_, rfl⟩
  rw [hX] at eX ⊢
  rw [hY] at h0 eY ⊢
  refine Tot.bind (Tot.bind (Tot.evt (made_ok _ q hq (by omega)) (Tot.bind (Tot.evt (made_ok b r hr (by omega)) (Tot.ret ?_)))))
  rw [eq0, er0]
  obtain ⟨q0, hq0⟩ : ∃ q0, (if b = c then (Q : Int) else -(Q : Int)) = q0 := ⟨_, rfl⟩
  obtain ⟨r0, hr0⟩ : ∃ r0, (if b = true then -(R : Int) else (R : Int)) = r0 := ⟨_, rfl⟩
  rw [hq0, hr0]
  dsimp only
  have nq : q0.natAbs = Q := by rw [← hq0]; split <;> omega
  have nr : r0.natAbs = R := by rw [← hr0]; split <;> omega
  have main : r0 + Y * q0 = X := by
    rw [← hq0, ← hr0, eX, eY, hz]
    cases b <;> cases c <;> simp [Int.mul_neg, Int.neg_mul] <;> omega
  have hYn : Y.natAbs = val m := by rw [eY]; split <;> omega
  refine Tot.bind (Tot.mono (Q' := fun s => s = ((ofZ (X / Y)).Neg, (ofZ (X / Y)).Mag, (ofZ (X % Y)).Neg, (ofZ (X % Y)).Mag)) ?_ ?_)
  · rw [ofZ_neg]
    refine Tot.condD (fun hneg => ?_) (fun hneg => Tot.ret ?_)
    · have s1 : Sm (⟨decide (r0 < 0), (ofZ r0).Mag⟩ : Int_2) (k + 1) := (sm_of (z := r0) (k := k) (by omega) (by omega))
      have s2 : Sm (⟨false, dig (val m)⟩ : Int_2) (k + 1) := ⟨dig_wd _, by dsimp only; omega⟩
      have s3 : Sm (⟨(ofZ q0).Neg, (ofZ q0).Mag⟩ : Int_2) (k + 1) := (sm_of (z := q0) (k := k) (by omega) (by omega))
      have s4 : Sm (⟨!c, [1]⟩ : Int_2) (k + 1) := ⟨fun x hx => by rw [List.mem_singleton] at hx; subst hx; omega, by simp⟩
      refine Tot.bind (Tot.evt (Add_ok _ _ s1 s2 (by omega)) (Tot.bind (Tot.evt (Add_ok _ _ s3 s4 (by omega)) (Tot.ret ?_))))
      have a1 : toZ ⟨decide (r0 < 0), (ofZ r0).Mag⟩ = r0 := toZ_ofZ r0
      have a2 : toZ ⟨false, dig (val m)⟩ = (val m : Int) := by rw [toZ_dig]; rfl
      have a3 : toZ ⟨(ofZ q0).Neg, (ofZ q0).Mag⟩ = q0 := toZ_ofZ q0
      have a4 : toZ ⟨!c, [1]⟩ = if c then 1 else -1 := by unfold toZ; cases c <;> rfl
      rw [a1, a2, a3, a4]
      have hb : r0 + (val m : Int) + Y * (q0 + if c then 1 else -1) = X := by
        rw [← main, Int.mul_add, eY]
        cases c <;> simp <;> omega
      obtain ⟨e1, e2⟩ := div_unique h0 hb (by omega) (by omega)
      rw [e1, e2]
    · obtain ⟨e1, e2⟩ := div_unique h0 main (by omega) (by omega)
      rw [e1, e2]; rfl
  · rintro _ rfl
    exact Tot.ret rfl
end Go.Proofs.YtcdboppghnchpaaDoor

namespace Go.Proofs.YtcdboppghnchpaaDoor
open Go Go.Proofs.YtcdboppghnchpaaDoor.Gw
set_option linter.unusedVariables false

/- ### Machine words -/
end Go.Proofs.YtcdboppghnchpaaDoor

namespace Go.Proofs.YtcdboppghnchpaaDoor
open Go Go.Proofs.YtcdboppghnchpaaDoor.Gw
set_option linter.unusedVariables false

/- ### Square roots -/
end Go.Proofs.YtcdboppghnchpaaDoor

namespace Go.Proofs.YtcdboppghnchpaaDoor
open Go Go.Proofs.YtcdboppghnchpaaDoor.Gw
set_option linter.unusedVariables false

/- ### Greatest common divisors -/
theorem ofZ_nat (m : Nat) : ofZ (m : Int) = ⟨false, dig m⟩ := by unfold ofZ; rw [Int.natAbs_natCast]; congr 1
theorem gcd_step (m n : Nat) : Nat.gcd n (m % n) = Nat.gcd m n := by rw [Nat.gcd_comm n (m % n), ← Nat.gcd_rec, Nat.gcd_comm]
theorem Gcd_ok (x y : Int_2) {k : Nat} (hx : Sm x k) (hy : Sm y k) (hk : k ≤ 50000) : Evt (fun n => integer_Gcd n x y) (ofZ ((Nat.gcd (toZ x).natAbs (toZ y).natAbs : Nat) : Int)) := by
  have lx := hx.lt
  have ly := hy.lt
  apply Tot.of_eq
  dsimp only [integer_Gcd]
  have ex : toZ (⟨x.Neg, x.Mag⟩ : Int_2) = toZ x := rfl
  have ey : toZ (⟨y.Neg, y.Mag⟩ : Int_2) = toZ y := rfl
  refine Tot.bind (Tot.bind (Tot.evt (Abs_ok hx (by omega)) (Tot.bind (Tot.evt (Abs_ok hy (by omega)) (Tot.ret ?_)))))
  rw [ex, ey]
  generalize (toZ x).natAbs = p at *
  generalize (toZ y).natAbs = q at *
  rw [ofZ_nat, ofZ_nat]
  refine Tot.cut (false, dig (Nat.gcd p q)) ?_ (Tot.ret (by rw [ofZ_nat]))
  refine Tot.loop (fun s : Bool × List Int × Bool × List Int => ∃ a b : Nat, s = (false, dig a, false, dig b) ∧ Nat.gcd a b = Nat.gcd p q ∧ a < B32 ^ k ∧ b < B32 ^ k) (fun s => val s.2.2.2) ⟨p, q, rfl, rfl, lx, ly⟩ ?_
  rintro _ ⟨a, b, rfl, hg, ha, hb⟩
  dsimp only [integer_Gcd_L1]
  by_cases h0 : b = 0
  · subst h0
    rw [dig_zero]
    exact Tot.condD (fun h => by simp at h) (fun _ => Tot.ret (by rw [← hg, Nat.gcd_zero_right]))
  · have hpos : (dig b).length ≠ 0 := fun h => h0 (dig_nil.1 (List.eq_nil_of_length_eq_zero h))
    refine Tot.condD (fun _ => ?_) (fun h => absurd (show ((dig b).length : Int) > 0 by omega) h)
    have sa : Sm (⟨false, dig a⟩ : Int_2) k := ⟨dig_wd a, dig_len ha⟩
    have sb : Sm (⟨false, dig b⟩ : Int_2) k := ⟨dig_wd b, dig_len hb⟩
    have ea : toZ ⟨false, dig a⟩ = (a : Int) := by rw [toZ_dig]; rfl
    have eb : toZ ⟨false, dig b⟩ = (b : Int) := by rw [toZ_dig]; rfl
    refine Tot.bind (Tot.evt (DivMod_ok _ _ sa sb (by omega) (by rw [eb]; omega)) (Tot.ret ?_))
    dsimp only
    rw [ea, eb, ← Int.natCast_emod, ofZ_nat]
    have hlt : a % b < b := Nat.mod_lt _ (by omega)
    refine ⟨⟨b, a % b, rfl, by rw [gcd_step]; exact hg, hb, by omega⟩, ?_⟩
    dsimp only
    rw [val_dig, val_dig]; exact hlt
/- ### The reference's, by halves -/
end Go.Proofs.YtcdboppghnchpaaDoor

namespace Go.Proofs.YtcdboppghnchpaaDoor
open Go Go.Proofs.YtcdboppghnchpaaDoor.Gw
set_option linter.unusedVariables false

/- ### The reference's long division, bit by bit -/
end Go.Proofs.YtcdboppghnchpaaDoor

namespace Go.Proofs.YtcdboppghnchpaaDoor
open Go Go.Proofs.YtcdboppghnchpaaDoor.Gw
set_option linter.unusedVariables false

end Go.Proofs.YtcdboppghnchpaaDoor

namespace Go.Proofs.YtcdboppghnchpaaDoor
open Go Go.Proofs.YtcdboppghnchpaaDoor.Gw
set_option linter.unusedVariables false

/- ### Rational numbers -/
def toQ (x : Rational) : Rat := Rat.divInt (toZ x.Num) (toZ x.Den)
def ofQ (q : Rat) : Rational := ⟨ofZ q.num, ofZ (q.den : Int)⟩
theorem toQ_ofQ (q : Rat) : toQ (ofQ q) = q := by unfold toQ ofQ; dsimp only; rw [toZ_ofZ, toZ_ofZ, Rat.num_divInt_den]
structure SmR (x : Rational) (k : Nat) : Prop where
  num : Sm x.Num k
  den : Sm x.Den k
theorem SmR.mono {x : Rational} {k l : Nat} (h : SmR x k) (hk : k ≤ l) : SmR x l := ⟨h.num.mono hk, h.den.mono hk⟩
/-- Numerator and denominator have few words. -/
def Bd (q : Rat) (k : Nat) : Prop := q.num.natAbs < B32 ^ k ∧ q.den < B32 ^ k
theorem pow_le {k l : Nat} (h : k ≤ l) : B32 ^ k ≤ B32 ^ l := Nat.pow_le_pow_right (by decide) h
theorem Bd.mono {q : Rat} {k l : Nat} (h : Bd q k) (hk : k ≤ l) : Bd q l := ⟨Nat.lt_of_lt_of_le h.1 (pow_le hk), Nat.lt_of_lt_of_le h.2 (pow_le hk)⟩
theorem one_lt_pow {k : Nat} (hk : 0 < k) : 1 < B32 ^ k := Nat.lt_of_lt_of_le (show 1 < B32 ^ 1 by decide) (pow_le hk)
theorem bd_divInt {a b : Int} {k : Nat} (hk : 0 < k) (ha : a.natAbs < B32 ^ k) (hb : b.natAbs < B32 ^ k) : Bd (Rat.divInt a b) k := by
  constructor
  · rw [Rat.num_divInt]
    refine Nat.lt_of_le_of_lt (Int.natAbs_ediv_le_natAbs _ _) ?_
    rw [Int.natAbs_mul]
    have h1 : b.sign.natAbs ≤ 1 := by
      rcases Int.lt_trichotomy b 0 with h | h | h
      · rw [Int.sign_eq_neg_one_of_neg h]; decide
      · rw [h]; decide
      · rw [Int.sign_eq_one_of_pos h]; decide
    have h2 := Nat.mul_le_mul_right a.natAbs h1
    rw [Nat.one_mul] at h2
    omega
  · rw [Rat.den_divInt]
    split
    · exact one_lt_pow hk
    · exact Nat.lt_of_le_of_lt (Nat.div_le_self _ _) hb
theorem den_ne (q : Rat) : (q.den : Int) ≠ 0 := by have := q.den_pos; omega
theorem add_num (p q : Rat) : p + q = Rat.divInt (p.num * q.den + q.num * p.den) (p.den * q.den) := by
  have h := Rat.divInt_add_divInt p.num q.num (den_ne p) (den_ne q)
  rwa [Rat.num_divInt_den, Rat.num_divInt_den] at h
theorem mul_num (p q : Rat) : p * q = Rat.divInt (p.num * q.num) (p.den * q.den) := by
  have h := Rat.divInt_mul_divInt p.num q.num (d₁ := (p.den : Int)) (d₂ := (q.den : Int))
  rwa [Rat.num_divInt_den, Rat.num_divInt_den] at h
theorem den_abs (q : Rat) : ((q.den : Int)).natAbs = q.den := Int.natAbs_natCast _
theorem bd_add {p q : Rat} {k l : Nat} (hp : Bd p k) (hq : Bd q l) : Bd (p + q) (k + l + 1) := by
  rw [add_num]
  have a1 := sm_mul (p := p.num) (q := (q.den : Int)) hp.1 (by rw [den_abs]; exact hq.2)
  have a2 := sm_mul (p := q.num) (q := (p.den : Int)) hq.1 (by rw [den_abs]; exact hp.2)
  have a3 := sm_mul (p := (p.den : Int)) (q := (q.den : Int)) (by rw [den_abs]; exact hp.2) (by rw [den_abs]; exact hq.2)
  rw [Nat.add_comm l k] at a2
  exact bd_divInt (by omega) (sm_add a1 a2) (Nat.lt_of_lt_of_le a3 (pow_le (by omega)))
theorem bd_mul {p q : Rat} {k l : Nat} (hp : Bd p k) (hq : Bd q l) : Bd (p * q) (k + l + 1) := by
  rw [mul_num]
  have a1 := sm_mul (p := p.num) (q := q.num) hp.1 hq.1
  have a3 := sm_mul (p := (p.den : Int)) (q := (q.den : Int)) (by rw [den_abs]; exact hp.2) (by rw [den_abs]; exact hq.2)
  exact bd_divInt (by omega) (Nat.lt_of_lt_of_le a1 (pow_le (by omega))) (Nat.lt_of_lt_of_le a3 (pow_le (by omega)))
theorem bd_neg {q : Rat} {k : Nat} (h : Bd q k) : Bd (-q) k := by
  refine ⟨?_, ?_⟩
  · rw [Rat.neg_num, Int.natAbs_neg]; exact h.1
  · rw [Rat.neg_den]; exact h.2
theorem bd_sub {p q : Rat} {k l : Nat} (hp : Bd p k) (hq : Bd q l) : Bd (p - q) (k + l + 1) := by
  rw [Rat.sub_eq_add_neg]; exact bd_add hp (bd_neg hq)
theorem SmR.bd {x : Rational} {k : Nat} (h : SmR x k) : Bd (toQ x) (k + 1) := bd_divInt (by omega) (Nat.lt_of_lt_of_le h.num.lt (pow_le (by omega))) (Nat.lt_of_lt_of_le h.den.lt (pow_le (by omega)))
theorem smr_of {q : Rat} {k l : Nat} (h : Bd q k) (hk : k ≤ l) : SmR (ofQ q) l := ⟨sm_of h.1 hk, sm_of (by rw [den_abs]; exact h.2) hk⟩
end Go.Proofs.YtcdboppghnchpaaDoor

namespace Go.Proofs.YtcdboppghnchpaaDoor
open Go Go.Proofs.YtcdboppghnchpaaDoor.Gw
set_option linter.unusedVariables false

/- ### The reference's quotient, equality, few -/
theorem sgn_zero {z : Int} : sgn z = 0 ↔ z = 0 := by
  unfold sgn
  split
  · omega
  · split <;> omega
theorem baseInt_refl (x : Int_2) (hl : x.Mag.length ≤ 1000000) : Evt (fun n => base_Int n x x) true := by
  apply Tot.of_eq
  dsimp only [base_Int]
  refine Tot.cut false (Tot.cond (fun h => by simp at h) (fun _ => Tot.ret (by simp))) (Tot.cond (fun h => by cases h) (fun _ => ?_))
  refine Tot.cut (Out.go ()) ?_ (Tot.ret rfl)
  refine Tot.loop0 (fun s : Int => ∃ i : Nat, s = (i : Int) ∧ i ≤ x.Mag.length) (fun s => x.Mag.length - s.toNat) ⟨0, rfl, by omega⟩ ?_
  rintro _ ⟨i, rfl, hi⟩
  dsimp only [base_Int_L1]
  refine Tot.condD (fun hc => ?_) (fun hc => Tot.ret rfl)
  rw [w64 (by omega) (by omega)]
  have hx : x.Mag[i]? = some (x.Mag[i]'(by omega)) := List.getElem?_eq_getElem (by omega)
  refine Tot.idxv (idx_get hx) (Tot.idxv (idx_get hx) (Tot.condN (fun h => absurd rfl h) (fun _ => Tot.ret ⟨⟨i + 1, rfl, by omega⟩, (by first | omega | (dsimp only; omega) | (simp; done) | (simp; omega))⟩)))
end Go.Proofs.YtcdboppghnchpaaDoor

namespace Go.Proofs.YtcdboppghnchpaaDoor
open Go Go.Proofs.YtcdboppghnchpaaDoor.Gw
set_option linter.unusedVariables false

/- ### New, in lowest terms -/
theorem new_eq {a b a' b' : Int} (hb : b ≠ 0) (ha : a' = b.sign * a) (hb' : b' = (b.natAbs : Int)) : ofQ (Rat.divInt a b) = ⟨ofZ (a' / ((Nat.gcd a'.natAbs b'.natAbs : Nat) : Int)), ofZ (b' / ((Nat.gcd a'.natAbs b'.natAbs : Nat) : Int))⟩ := by
  have hs : b.sign.natAbs = 1 := Int.natAbs_sign_of_ne_zero hb
  have h1 : a'.natAbs = a.natAbs := by rw [ha, Int.natAbs_mul, hs, Nat.one_mul]
  have h2 : b'.natAbs = b.natAbs := by rw [hb']; omega
  have hg : b.gcd a = Nat.gcd a'.natAbs b'.natAbs := by rw [h1, h2, Nat.gcd_comm]; rfl
  unfold ofQ
  rw [Rat.num_divInt, Rat.den_divInt, if_neg hb, hg, ha, hb', ← Int.natCast_ediv]
theorem sgn_neg {z : Int} : sgn z < 0 ↔ z < 0 := by
  unfold sgn
  split
  · omega
  · split <;> omega
theorem zero_new (a b : Int) (h : a = 0 ∨ b = 0) : ofQ (Rat.divInt a b) = ⟨ofZ 0, ofZ 1⟩ := by
  rcases h with h | h
  · rw [h, Rat.zero_divInt]; rfl
  · rw [h, Rat.divInt_zero]; rfl
theorem sm_neg {x : Int_2} {k : Nat} (h : Sm x k) : Sm (ofZ (-toZ x)) k := Sm.ofZ (by rw [Int.natAbs_neg]; exact h.lt)
theorem gcd_sm {x y : Int_2} {k : Nat} (hx : Sm x k) (hy : Sm y k) (h0 : toZ y ≠ 0) : Sm (ofZ ((Nat.gcd (toZ x).natAbs (toZ y).natAbs : Nat) : Int)) k ∧ ((Nat.gcd (toZ x).natAbs (toZ y).natAbs : Nat) : Int) ≠ 0 := by
  have h1 : 0 < (toZ y).natAbs := by omega
  have h2 := Nat.gcd_le_right (toZ x).natAbs h1
  have h3 := hy.lt
  have h4 := Nat.gcd_pos_of_pos_right (toZ x).natAbs h1
  exact ⟨Sm.ofZ (by rw [Int.natAbs_natCast]; omega), by omega⟩
theorem New_ok (x y : Int_2) {k : Nat} (hx : Sm x k) (hy : Sm y k) (hk : k ≤ 10000) : Evt (fun n => rational_New n x y) (ofQ (Rat.divInt (toZ x) (toZ y))) := by
  apply Tot.of_eq
  dsimp only [rational_New]
  refine Tot.bind (Tot.evt (Sign_ok hy (by omega)) ?_)
  refine Tot.condE (fun h => ?_) (fun h => ?_)
  · rw [zero_new _ _ (.inr (sgn_zero.1 h))]
    exact Tot.bind (Tot.evt (Of_ok 0 (by decide) (by decide)) (Tot.bind (Tot.evt (Of_ok 1 (by decide) (by decide)) (Tot.ret rfl))))
  have h0 : toZ y ≠ 0 := fun e => h (sgn_zero.2 e)
  refine Tot.bind (Tot.mono (Q' := fun s => Sm (⟨s.1, s.2.1⟩ : Int_2) k ∧ Sm (⟨s.2.2.1, s.2.2.2⟩ : Int_2) k ∧ toZ ⟨s.1, s.2.1⟩ = (toZ y).sign * toZ x ∧ toZ ⟨s.2.2.1, s.2.2.2⟩ = ((toZ y).natAbs : Int)) ?_ ?_)
  · refine Tot.bind (Tot.evt (Sign_ok hy (by omega)) ?_)
    refine Tot.condD (fun hc => ?_) (fun hc => Tot.ret ?_)
    · have hneg : toZ y < 0 := sgn_neg.1 hc
      refine Tot.bind (Tot.evt (Neg_ok hx (by omega)) (Tot.bind (Tot.evt (Neg_ok hy (by omega)) (Tot.ret ?_))))
      refine ⟨sm_neg hx, sm_neg hy, ?_, ?_⟩
      · show toZ (ofZ _) = _
        rw [toZ_ofZ, Int.sign_eq_neg_one_of_neg hneg]; show -toZ x = _; omega
      · show toZ (ofZ _) = _
        rw [toZ_ofZ]; show -toZ y = _; omega
    · have hpos : 0 < toZ y := by
        have : ¬ toZ y < 0 := fun e => hc (sgn_neg.2 e)
        omega
      refine ⟨hx, hy, ?_, ?_⟩
      · show toZ x = _
        rw [Int.sign_eq_one_of_pos hpos, Int.one_mul]
      · show toZ y = _
        omega
  · rintro ⟨b, l, c, m⟩ ⟨s1, s2, e1, e2⟩
    dsimp only at s1 s2 e1 e2
    have h02 : toZ ⟨c, m⟩ ≠ 0 := by rw [e2]; omega
    obtain ⟨g1, g2⟩ := gcd_sm s1 s2 h02
    have g3 : toZ (ofZ ((Nat.gcd (toZ ⟨b, l⟩).natAbs (toZ ⟨c, m⟩).natAbs : Nat) : Int)) ≠ 0 := by rw [toZ_ofZ]; exact g2
    refine Tot.bind (Tot.evt (Gcd_ok _ _ s1 s2 (by omega)) ?_)
    refine Tot.bind (Tot.evt (DivMod_ok _ _ s1 g1 (by omega) g3) (Tot.bind (Tot.evt (DivMod_ok _ _ s2 g1 (by omega) g3) (Tot.ret ?_))))
    rw [new_eq h0 e1 e2, toZ_ofZ]
end Go.Proofs.YtcdboppghnchpaaDoor

namespace Go.Proofs.YtcdboppghnchpaaDoor
open Go Go.Proofs.YtcdboppghnchpaaDoor.Gw
set_option linter.unusedVariables false

/- ### The operations -/
variable {x y : Rational} {k : Nat}
theorem Norm_ok (hx : SmR x k) (hk : k ≤ 10000) : Evt (fun n => rational_Norm n x) (ofQ (toQ x)) := by
  apply Tot.of_eq
  dsimp only [rational_Norm]
  exact Tot.bind (Tot.evt (New_ok x.Num x.Den hx.num hx.den hk) (Tot.ret rfl))
theorem NegR_ok (hx : SmR x k) (hk : k ≤ 10000) : Evt (fun n => rational_Neg n x) (ofQ (-toQ x)) := by
  apply Tot.of_eq
  dsimp only [rational_Neg]
  refine Tot.bind (Tot.evt (Neg_ok hx.num (by omega)) (Tot.bind (Tot.evt (New_ok _ _ (sm_neg hx.num) hx.den hk) (Tot.ret ?_))))
  rw [toZ_ofZ]; unfold toQ; rw [Rat.neg_divInt]
theorem bd_pos {q : Rat} {k : Nat} (h : Bd q k) : Sm (ofZ q.num) k ∧ Sm (ofZ (q.den : Int)) k := ⟨Sm.ofZ h.1, Sm.ofZ (by rw [den_abs]; exact h.2)⟩
theorem AddR_ok (hx : SmR x k) (hy : SmR y k) (hk : k ≤ 2000) : Evt (fun n => rational_Add n x y) (ofQ (toQ x + toQ y)) := by
  apply Tot.of_eq
  dsimp only [rational_Add]
  refine Tot.bind (Tot.evt (Norm_ok hx (by omega)) (Tot.bind (Tot.evt (Norm_ok hy (by omega)) ?_)))
  have bx := hx.bd
  have by_ := hy.bd
  obtain ⟨p, hp⟩ : ∃ p, toQ x = p := ⟨_, rfl⟩
  obtain ⟨q, hq⟩ : ∃ q, toQ y = q := ⟨_, rfl⟩
  rw [hp] at bx ⊢
  rw [hq] at by_ ⊢
  obtain ⟨a1, a2⟩ := bd_pos bx
  obtain ⟨b1, b2⟩ := bd_pos by_
  have m1 := Mul_ok a1 b2 (by omega)
  have m2 := Mul_ok b1 a2 (by omega)
  have m3 := Mul_ok a2 b2 (by omega)
  rw [toZ_ofZ, toZ_ofZ] at m1 m2 m3
  have z1 : Sm (ofZ (p.num * q.den)) (2 * k + 3) := sm_of (sm_mul bx.1 (by rw [den_abs]; exact by_.2)) (by omega)
  have z2 : Sm (ofZ (q.num * p.den)) (2 * k + 3) := sm_of (sm_mul by_.1 (by rw [den_abs]; exact bx.2)) (by omega)
  have z3 : Sm (ofZ ((p.den : Int) * q.den)) (2 * k + 3) := sm_of (sm_mul (by rw [den_abs]; exact bx.2) (by rw [den_abs]; exact by_.2)) (by omega)
  have ad := Add_ok _ _ z1 z2 (by omega)
  rw [toZ_ofZ, toZ_ofZ] at ad
  have l1 := z1.lt
  have l2 := z2.lt
  rw [toZ_ofZ] at l1 l2
  have z4 : Sm (ofZ (p.num * q.den + q.num * p.den)) (2 * k + 4) := sm_of (sm_add l1 l2) (by omega)
  have nw := New_ok _ _ z4 (z3.mono (show 2 * k + 3 ≤ 2 * k + 4 by omega)) (by omega)
  rw [toZ_ofZ, toZ_ofZ, ← add_num] at nw
  exact Tot.bind (Tot.evt m1 (Tot.bind (Tot.evt m2 (Tot.bind (Tot.evt ad (Tot.bind (Tot.evt m3 (Tot.bind (Tot.evt nw (Tot.ret rfl))))))))))
theorem neg_smr (hx : SmR x k) : SmR (ofQ (-toQ x)) (k + 1) := smr_of (bd_neg hx.bd) (by omega)
theorem SubR_ok (hx : SmR x k) (hy : SmR y k) (hk : k ≤ 1999) : Evt (fun n => rational_Sub n x y) (ofQ (toQ x - toQ y)) := by
  apply Tot.of_eq
  dsimp only [rational_Sub]
  have ad := AddR_ok (hx.mono (show k ≤ k + 1 by omega)) (neg_smr hy) (by omega)
  rw [toQ_ofQ, ← Rat.sub_eq_add_neg] at ad
  exact Tot.bind (Tot.evt (NegR_ok hy (by omega)) (Tot.bind (Tot.evt ad (Tot.ret rfl))))
theorem MulR_ok (hx : SmR x k) (hy : SmR y k) (hk : k ≤ 2000) : Evt (fun n => rational_Mul n x y) (ofQ (toQ x * toQ y)) := by
  apply Tot.of_eq
  dsimp only [rational_Mul]
  have m1 := Mul_ok hx.num hy.num (by omega)
  have m2 := Mul_ok hx.den hy.den (by omega)
  have z1 : Sm (ofZ (toZ x.Num * toZ y.Num)) (2 * k) := sm_of (sm_mul hx.num.lt hy.num.lt) (by omega)
  have z2 : Sm (ofZ (toZ x.Den * toZ y.Den)) (2 * k) := sm_of (sm_mul hx.den.lt hy.den.lt) (by omega)
  have nw := New_ok _ _ z1 z2 (by omega)
  rw [toZ_ofZ, toZ_ofZ, ← Rat.divInt_mul_divInt] at nw
  exact Tot.bind (Tot.evt m1 (Tot.bind (Tot.evt m2 (Tot.bind (Tot.evt nw (Tot.ret rfl))))))
end Go.Proofs.YtcdboppghnchpaaDoor

namespace Go.Proofs.YtcdboppghnchpaaDoor
open Go Go.Proofs.YtcdboppghnchpaaDoor.Gw
set_option linter.unusedVariables false

/- ### Directions -/
theorem gcd_loop (a b : Nat) : Tot (fun n => loopN (heading_lowest_L13) n ((a : Int), (b : Int))) (· = ((Nat.gcd a b : Nat) : Int)) := by
  refine Tot.loop (fun s : Int × Int => ∃ a' b' : Nat, s = ((a' : Int), (b' : Int)) ∧ Nat.gcd a' b' = Nat.gcd a b) (fun s => s.2.toNat) ⟨a, b, rfl, rfl⟩ ?_
  rintro _ ⟨a', b', rfl, h⟩
  dsimp only [heading_lowest_L13]
  by_cases hb : b' = 0
  · subst hb
    refine Tot.ret ?_
    rw [Nat.gcd_zero_right] at h
    exact congrArg _ h
  · rw [show ((b' : Int) != 0) = true from bne_iff_ne.2 (by omega)]
    refine Tot.need (by omega) (Tot.ret ?_)
    have hm := Nat.mod_lt a' (show 0 < b' by omega)
    dsimp only
    rw [show (a' : Int).tmod (b' : Int) = ((a' % b' : Nat) : Int) from (Int.ofNat_tmod a' b').symm]
    exact ⟨⟨b', a' % b', rfl, by rw [Nat.gcd_comm b', ← Nat.gcd_rec, Nat.gcd_comm]; exact h⟩, by omega⟩
theorem abs_max {x : Int} (h1 : -4611686018427387904 ≤ x) (h2 : x ≤ 4611686018427387904) : (if IntKind.i64.wrap (0 - x) > x then IntKind.i64.wrap (0 - x) else x) = (x.natAbs : Int) := by
  rw [w64 (by omega) (by omega)]
  split <;> omega
theorem exact_div {x g : Int} (hg : 1 ≤ g) (h : g ∣ x) (h1 : -4611686018427387904 ≤ x) (h2 : x ≤ 4611686018427387904) : x = g * IntKind.i64.wrap (x.tdiv g) := by
  obtain ⟨q, rfl⟩ := h
  have e : (g * q).tdiv g = q := Int.mul_tdiv_cancel_left q (by omega)
  have l1 : -4611686018427387904 ≤ q := by
    rcases Int.lt_or_le q 0 with h | h
    · have : g * q ≤ 1 * q := Int.mul_le_mul_of_nonpos_right hg (by omega)
      omega
    · omega
  have l2 : q ≤ 4611686018427387904 := by
    rcases Int.lt_or_le q 0 with h | h
    · omega
    · have : 1 * q ≤ g * q := Int.mul_le_mul_of_nonneg_right hg h
      omega
  rw [e, w64 (by omega) (by omega)]
theorem lowest_ok {x y d : Int} (hd : 1 ≤ d) (hd2 : d ≤ 4611686018427387904) (x1 : -4611686018427387904 ≤ x) (x2 : x ≤ 4611686018427387904) (y1 : -4611686018427387904 ≤ y) (y2 : y ≤ 4611686018427387904) :
    Tot (fun n => heading_lowest n x y d) (fun v => ∃ g : Int, 1 ≤ g ∧ x = g * v.X ∧ y = g * v.Y ∧ d = g * v.D) := by
  dsimp only [heading_lowest]
  obtain ⟨e, rfl⟩ : ∃ e : Nat, d = (e : Int) := ⟨d.toNat, by omega⟩
  refine Tot.bind (Tot.mono (Tot.loop (Q := (· = ((Nat.gcd (Nat.gcd e x.natAbs) y.natAbs : Nat) : Int))) (fun s : Int × Int => s = ((e : Int), 0) ∨ s = (((Nat.gcd e x.natAbs : Nat) : Int), 1) ∨ s = (((Nat.gcd (Nat.gcd e x.natAbs) y.natAbs : Nat) : Int), 2)) (fun s => 2 - s.2.toNat) (.inl rfl) ?_) ?_)
  · rintro _ (rfl | rfl | rfl)
    · dsimp only [heading_lowest_L11]
      refine Tot.condD (fun _ => ?_) (fun h => absurd h (by omega))
      refine Tot.bind (Tot.mono (Q' := (· = ((Nat.gcd e x.natAbs : Nat) : Int))) (Tot.idxv (x := x) rfl ?_) ?_)
      · rw [abs_max x1 x2]; exact gcd_loop _ _
      · rintro _ rfl
        exact Tot.ret ⟨.inr (.inl rfl), show 2 - Int.toNat (IntKind.i64.wrap (0 + 1)) < 2 - Int.toNat 0 by decide⟩
    · dsimp only [heading_lowest_L11]
      refine Tot.condD (fun _ => ?_) (fun h => absurd h (by omega))
      refine Tot.bind (Tot.mono (Q' := (· = ((Nat.gcd (Nat.gcd e x.natAbs) y.natAbs : Nat) : Int))) (Tot.idxv (x := y) rfl ?_) ?_)
      · rw [abs_max y1 y2]; exact gcd_loop _ _
      · rintro _ rfl
        exact Tot.ret ⟨.inr (.inr rfl), show 2 - Int.toNat (IntKind.i64.wrap (1 + 1)) < 2 - Int.toNat 1 by decide⟩
    · dsimp only [heading_lowest_L11]
      exact Tot.condD (fun h => absurd h (by omega)) (fun _ => Tot.ret rfl)
  · rintro _ rfl
    generalize hG : Nat.gcd (Nat.gcd e x.natAbs) y.natAbs = G
    have g0 : G ∣ Nat.gcd e x.natAbs := hG ▸ Nat.gcd_dvd_left _ _
    have g1 : G ∣ e := Nat.dvd_trans g0 (Nat.gcd_dvd_left _ _)
    have g2 : (G : Int) ∣ x := Int.dvd_trans (Int.natCast_dvd_natCast.2 (Nat.dvd_trans g0 (Nat.gcd_dvd_right _ _))) Int.natAbs_dvd_self
    have g3 : (G : Int) ∣ y := Int.dvd_trans (Int.natCast_dvd_natCast.2 (hG ▸ Nat.gcd_dvd_right (Nat.gcd e x.natAbs) y.natAbs)) Int.natAbs_dvd_self
    have g4 : 1 ≤ G := Nat.pos_of_dvd_of_pos g1 (by omega)
    refine Tot.need (by omega) (Tot.need (by omega) (Tot.need (by omega) (Tot.ret ⟨(G : Int), by omega, ?_, ?_, ?_⟩)))
    · exact exact_div (by omega) g2 x1 x2
    · exact exact_div (by omega) g3 y1 y2
    · exact exact_div (by omega) (Int.natCast_dvd_natCast.2 g1) (by omega) hd2
end Go.Proofs.YtcdboppghnchpaaDoor

namespace Go.Proofs.YtcdboppghnchpaaDoor
open Go Go.Proofs.YtcdboppghnchpaaDoor.Gw
set_option linter.unusedVariables false
/-- m eighths of a turn, up to a factor. -/
def zt : Nat → Int × Int → Int × Int
  | 0, z => z
  | m + 1, z => ((zt m z).1 - (zt m z).2, (zt m z).1 + (zt m z).2)
/-- The number of half the angle of a mark. -/
def zm (h : Nat) : Int × Int := zt (h / 64) (64, ((h % 64 : Nat) : Int))
/-- A vector is the direction of the square of a number. -/
def DirOf (z : Int × Int) (v : Vector) : Prop := ∃ g : Int, 1 ≤ g ∧ z.1 * z.1 - z.2 * z.2 = g * v.X ∧ 2 * (z.1 * z.2) = g * v.Y ∧ z.1 * z.1 + z.2 * z.2 = g * v.D
theorem DirOf.turn {z : Int × Int} {v : Vector} (h : DirOf z v) : DirOf (z.1 - z.2, z.1 + z.2) (Vector.mk (-v.Y) v.X v.D) := by
  obtain ⟨g, h1, h2, h3, h4⟩ := h
  refine ⟨2 * g, by omega, ?_, ?_, ?_⟩
  · show (z.1 - z.2) * (z.1 - z.2) - (z.1 + z.2) * (z.1 + z.2) = 2 * g * -v.Y
    grind
  · show 2 * ((z.1 - z.2) * (z.1 + z.2)) = 2 * g * v.X
    grind
  · show (z.1 - z.2) * (z.1 - z.2) + (z.1 + z.2) * (z.1 + z.2) = 2 * g * v.D
    grind
theorem DirOf.circle {z : Int × Int} {v : Vector} (h : DirOf z v) : v.X * v.X + v.Y * v.Y = v.D * v.D := by
  obtain ⟨g, h1, h2, h3, h4⟩ := h
  have e : (g * g) * (v.X * v.X + v.Y * v.Y) = (g * g) * (v.D * v.D) := by grind
  have h0 : g * g ≠ 0 := Int.mul_ne_zero (by omega) (by omega)
  exact Int.eq_of_mul_eq_mul_left h0 e
theorem sq_nn (a : Int) : 0 ≤ a * a := by
  rw [← Int.natAbs_mul_self' a]; exact Int.mul_nonneg (by omega) (by omega)
theorem abs_le_of {a b d : Int} (hd : 0 ≤ d) (h : a * a + b * b = d * d) : -d ≤ a ∧ a ≤ d := by
  have hb := sq_nn b
  have e1 := Int.natAbs_mul_self' a
  have e2 := Int.natAbs_mul_self' d
  have hle : a.natAbs * a.natAbs ≤ d.natAbs * d.natAbs := by
    have : ((a.natAbs * a.natAbs : Nat) : Int) ≤ ((d.natAbs * d.natAbs : Nat) : Int) := by rw [Int.natCast_mul, Int.natCast_mul, e1, e2]; omega
    exact Int.ofNat_le.1 this
  have := Nat.mul_self_le_mul_self_iff.1 hle
  omega
theorem mask_eq : ∀ h : Nat, h < 256 → ib .and .i64 (h : Int) 255 = (h : Int) := by decide +kernel
theorem Dir_ok {h : Nat} (hh : h < 256) : Tot (fun n => heading_Dir n (h : Int)) (fun v => DirOf (zm h) v ∧ 1 ≤ v.D ∧ v.D ≤ 8065) := by
  dsimp only [heading_Dir]
  refine Tot.bind (Tot.at_ (fun n => rfl) ?_)
  rw [mask_eq h hh]
  have e1 : (h : Int).tmod 64 = ((h % 64 : Nat) : Int) := (Int.ofNat_tmod h 64).symm
  have e2 : (h : Int).tdiv 64 = ((h / 64 : Nat) : Int) := (Int.ofNat_tdiv h 64).symm
  rw [e1]
  obtain ⟨k, hk⟩ : ∃ k, k = h % 64 := ⟨_, rfl⟩
  obtain ⟨m, hm⟩ : ∃ m, m = h / 64 := ⟨_, rfl⟩
  have hk64 : k < 64 := by omega
  have hm4 : m ≤ 3 := by omega
  unfold zm
  rw [← hk, ← hm]
  obtain ⟨K, hK⟩ : ∃ K : Nat, K = k * k := ⟨_, rfl⟩
  have hK2 : K ≤ 63 * 63 := by rw [hK]; exact Nat.mul_le_mul (by omega) (by omega)
  have hKi : (k : Int) * (k : Int) = (K : Int) := by rw [hK]; simp
  rw [hKi, w64 (x := (K : Int)) (by omega) (by omega), w64 (x := 4096 - (K : Int)) (by omega) (by omega), w64 (x := 128 * (k : Int)) (by omega) (by omega), w64 (x := 4096 + (K : Int)) (by omega) (by omega)]
  refine Tot.bind (Tot.mono (lowest_ok (by omega) (by omega) (by omega) (by omega) (by omega) (by omega)) ?_)
  rintro v ⟨g, g1, g2, g3, g4⟩
  have hD : DirOf (64, (k : Int)) v := ⟨g, g1, by show 64 * 64 - (k : Int) * k = _; rw [hKi, ← g2]; omega, by show 2 * (64 * (k : Int)) = _; omega, by show 64 * 64 + (k : Int) * k = _; rw [hKi, ← g4]; omega⟩
  have hd1 : 1 ≤ v.D := by
    rcases Int.lt_or_le v.D 1 with h' | h'
    · have : g * v.D ≤ g * 0 := Int.mul_le_mul_of_nonneg_left (by omega) (by omega)
      omega
    · exact h'
  have hd2 : v.D ≤ 8065 := by
    have : 1 * v.D ≤ g * v.D := Int.mul_le_mul_of_nonneg_right g1 (by omega)
    omega
  refine Tot.bind (Tot.mono (Tot.loop (Q := fun o : Int × Int => DirOf (zt m (64, (k : Int))) (Vector.mk o.1 o.2 v.D)) (fun s : Int × Int × Int => ∃ j : Nat, j ≤ m ∧ s.2.2 = (j : Int) ∧ DirOf (zt j (64, (k : Int))) (Vector.mk s.1 s.2.1 v.D)) (fun s => m - s.2.2.toNat) ⟨0, by omega, rfl, show DirOf (64, (k : Int)) (Vector.mk v.X v.Y v.D) from hD⟩ ?_) ?_)
  · rintro ⟨a, b, i⟩ ⟨j, hj, rfl, hd⟩
    dsimp only at hd
    dsimp only [heading_Dir_L1]
    rw [e2, ← hm, w64 (x := (m : Int)) (by omega) (by omega)]
    have hc := hd.circle
    have hb := abs_le_of (a := b) (b := a) (d := v.D) (by omega) (by dsimp only at hc; omega)
    refine Tot.condD (fun hlt => ?_) (fun hge => ?_)
    · refine Tot.ret ?_
      dsimp only
      rw [w64 (by omega) (by omega), w64 (by omega) (by omega)]
      refine ⟨⟨j + 1, by omega, by omega, ?_⟩, by omega⟩
      rw [Int.zero_sub]
      exact hd.turn
    · refine Tot.ret ?_
      rw [show m = j by omega]; exact hd
  · rintro ⟨a, b⟩ hd
    exact Tot.ret ⟨hd, hd1, hd2⟩
theorem Valid_ok {v : Vector} (h1 : 1 ≤ v.D) (h2 : v.D ≤ 8065) (hc : v.X * v.X + v.Y * v.Y = v.D * v.D) : Evt (fun n => heading_Valid n v) true := by
  refine Tot.of_eq ?_
  have a := abs_le_of (by omega) hc
  have b := abs_le_of (a := v.Y) (b := v.X) (d := v.D) (by omega) (by omega)
  dsimp only [heading_Valid]
  refine Tot.bind (Tot.mono (Q' := (· = false)) ?_ ?_)
  · refine Tot.condD (fun h => by omega) (fun _ => Tot.condD (fun h => by omega) (fun _ => ?_))
    rw [w64 (by omega) (by omega)]
    refine Tot.condD (fun h => by omega) (fun _ => Tot.condD (fun h => by omega) (fun _ => Tot.condD (fun h => by omega) (fun _ => Tot.ret ?_)))
    exact decide_eq_false (by omega)
  rintro _ rfl
  refine Tot.ret ?_
  have q : v.D * v.D ≤ 8065 * 8065 := Int.mul_le_mul h2 h2 (by omega) (by omega)
  have p1 : 0 ≤ v.X * v.X := sq_nn _
  have p2 : 0 ≤ v.Y * v.Y := sq_nn _
  rw [w64 (x := v.X * v.X) (by omega) (by omega), w64 (x := v.Y * v.Y) (by omega) (by omega), w64 (x := v.D * v.D) (by omega) (by omega), w64 (by omega) (by omega), hc]
  exact beq_self_eq_true _
/-- What Beam returns, up to a factor. -/
def BeamOf (a b v : Vector) : Prop := ∃ g : Int, 1 ≤ g ∧ a.X * b.X - a.Y * b.Y = g * v.X ∧ a.X * b.Y + a.Y * b.X = g * v.Y ∧ a.D * b.D = g * v.D
theorem Beam_ok {h m : Nat} (hh : h < 256) (hm : m < 256) : Tot (fun n => heading_Beam n (h : Int) (m : Int)) (fun v => 1 ≤ v.D ∧ v.D ≤ 67108864 ∧ v.X * v.X + v.Y * v.Y = v.D * v.D ∧ ∃ a b, DirOf (zm h) a ∧ 1 ≤ a.D ∧ DirOf (zm m) b ∧ 1 ≤ b.D ∧ BeamOf a b v) := by
  dsimp only [heading_Beam]
  refine Tot.bind (Tot.mono (Dir_ok hh) ?_)
  rintro a ⟨ha, a1, a2⟩
  refine Tot.bind (Tot.mono (Dir_ok hm) ?_)
  rintro b ⟨hb, b1, b2⟩
  have ca := ha.circle
  have cb := hb.circle
  have xa := abs_le_of (by omega) ca
  have ya := abs_le_of (a := a.Y) (b := a.X) (d := a.D) (by omega) (by omega)
  have xb := abs_le_of (by omega) cb
  have yb := abs_le_of (a := b.Y) (b := b.X) (d := b.D) (by omega) (by omega)
  have bd : ∀ x y : Int, -8065 ≤ x → x ≤ 8065 → -8065 ≤ y → y ≤ 8065 → -65044225 ≤ x * y ∧ x * y ≤ 65044225 := by
    intro x y h1 h2 h3 h4
    have e := Int.natAbs_mul x y
    have := Nat.mul_le_mul (show x.natAbs ≤ 8065 by omega) (show y.natAbs ≤ 8065 by omega)
    omega
  have p1 := bd a.X b.X (by omega) (by omega) (by omega) (by omega)
  have p2 := bd a.Y b.Y (by omega) (by omega) (by omega) (by omega)
  have p3 := bd a.X b.Y (by omega) (by omega) (by omega) (by omega)
  have p4 := bd a.Y b.X (by omega) (by omega) (by omega) (by omega)
  have p5 := bd a.D b.D (by omega) (by omega) (by omega) (by omega)
  have p6 : 1 ≤ a.D * b.D := by have := Int.mul_le_mul a1 b1 (by omega) (by omega); omega
  refine Tot.bind (Tot.mono (Q' := fun o : Vector × Int => 1 ≤ o.1.D ∧ o.1.D ≤ 67108864 ∧ BeamOf a b o.1) ?_ ?_)
  · dsimp only [heading_Turn]
    refine Tot.bind (Tot.mono (Q' := (· = false)) ?_ ?_)
    · refine Tot.bind ⟨_, Valid_ok a1 a2 ca, ?_⟩
      simp only [Bool.not_true, cond_false]
      exact Tot.bind ⟨_, Valid_ok b1 b2 cb, Tot.ret rfl⟩
    rintro _ rfl
    simp only [cond_false]
    rw [w64 (x := a.X * b.X) (by omega) (by omega), w64 (x := a.Y * b.Y) (by omega) (by omega), w64 (x := a.X * b.Y) (by omega) (by omega), w64 (x := a.Y * b.X) (by omega) (by omega), w64 (x := a.D * b.D) (by omega) (by omega), w64 (x := a.X * b.X - a.Y * b.Y) (by omega) (by omega), w64 (x := a.X * b.Y + a.Y * b.X) (by omega) (by omega)]
    refine Tot.bind (Tot.mono (lowest_ok p6 (by omega) (by omega) (by omega) (by omega) (by omega)) ?_)
    rintro v ⟨g, g1, g2, g3, g4⟩
    have hd1 : 1 ≤ v.D := by
      rcases Int.lt_or_le v.D 1 with h' | h'
      · have : g * v.D ≤ g * 0 := Int.mul_le_mul_of_nonneg_left (by omega) (by omega)
        omega
      · exact h'
    have hd2 : v.D ≤ 65044225 := by
      have : 1 * v.D ≤ g * v.D := Int.mul_le_mul_of_nonneg_right g1 (by omega)
      omega
    refine Tot.condD (fun h => by have h' : v.D > 67108864 := h; omega) (fun _ => Tot.ret ⟨hd1, (show v.D ≤ 67108864 by omega), g, g1, g2, g3, g4⟩)
  · rintro ⟨v, c⟩ ⟨v1, v2, hB⟩
    refine Tot.ret ⟨v1, v2, ?_, a, b, ha, a1, hb, b1, hB⟩
    obtain ⟨g, g1, g2, g3, g4⟩ := hB
    have e : (g * g) * (v.X * v.X + v.Y * v.Y) = (g * g) * (v.D * v.D) := by
      have : (g * v.X) * (g * v.X) + (g * v.Y) * (g * v.Y) = (g * v.D) * (g * v.D) := by
        rw [← g2, ← g3, ← g4]
        have : (a.X * a.X + a.Y * a.Y) * (b.X * b.X + b.Y * b.Y) = (a.D * a.D) * (b.D * b.D) := by rw [ca, cb]
        grind
      grind
    exact Int.eq_of_mul_eq_mul_left (Int.mul_ne_zero (by omega) (by omega)) e
end Go.Proofs.YtcdboppghnchpaaDoor

namespace Go.Proofs.YtcdboppghnchpaaDoor
open Go Go.Proofs.YtcdboppghnchpaaDoor.Gw
set_option linter.unusedVariables false

/- ### Rotations -/
/-- The number of a rotation. -/
def rz (r : Rot) : Int × Int := if toZ r.P = 0 ∧ toZ r.Q = 0 then (1, 0) else (toZ r.Q, toZ r.P)
structure SmG (z : Gauss) (k : Nat) : Prop where
  re : Sm z.re k
  im : Sm z.im k
structure SmT (r : Rot) (k : Nat) : Prop where
  P : Sm r.P k
  Q : Sm r.Q k
def gz (z : Gauss) : Int × Int := (toZ z.re, toZ z.im)
/-- On one line through 0. -/
def Par (z w : Int × Int) : Prop := ∃ c d : Int, c ≠ 0 ∧ d ≠ 0 ∧ c * z.1 = d * w.1 ∧ c * z.2 = d * w.2
theorem Par.refl (z : Int × Int) : Par z z := ⟨1, 1, by decide, by decide, rfl, rfl⟩
theorem Par.trans {x y z : Int × Int} (h : Par x y) (k : Par y z) : Par x z := by
  obtain ⟨a, b, ha, hb, h1, h2⟩ := h
  obtain ⟨c, d, hc, hd, k1, k2⟩ := k
  refine ⟨c * a, d * b, Int.mul_ne_zero hc ha, Int.mul_ne_zero hd hb, ?_, ?_⟩ <;> grind
theorem rz_ne (r : Rot) : ¬ ((rz r).1 = 0 ∧ (rz r).2 = 0) := by
  unfold rz
  split
  · simp
  · rename_i h; exact fun k => h ⟨k.2, k.1⟩
theorem of_ok {r : Rot} {k : Nat} (h : SmT r k) (hk : k ≤ 1000) (hk1 : 1 ≤ k) : Tot (fun n => rotation_of n r) (fun z => SmG z k ∧ gz z = rz r) := by
  dsimp only [rotation_of]
  refine Tot.bind (Tot.mono (Q' := (· = decide (toZ r.P = 0 ∧ toZ r.Q = 0))) ?_ ?_)
  · refine Tot.bind ⟨_, Sign_ok h.P (by omega), ?_⟩
    refine Tot.condE (fun e => ?_) (fun e => Tot.ret ?_)
    · refine Tot.bind ⟨_, Sign_ok h.Q (by omega), Tot.ret ?_⟩
      rw [sgn_zero] at e
      rw [Bool.eq_iff_iff]
      simp only [beq_iff_eq, decide_eq_true_eq, sgn_zero]
      exact ⟨fun h => ⟨e, h⟩, fun h => h.2⟩
    · symm
      exact decide_eq_false fun k => e (sgn_zero.2 k.1)
  rintro _ rfl
  refine Tot.condD (fun hz => ?_) (fun hz => ?_)
  · refine Tot.bind ⟨_, Of_ok 1 (by decide) (by decide), Tot.ret ⟨⟨?_, ?_⟩, ?_⟩⟩
    · exact sm_of (z := 1) (k := 1) (show 1 < B32 ^ 1 by decide) hk1
    · exact ⟨fun x hx => absurd hx (by simp), Nat.zero_le _⟩
    · unfold gz rz
      rw [if_pos hz]
      show (toZ (ofZ 1), toZ (Int_2.mk false [])) = (1, 0)
      rw [toZ_ofZ]; rfl
  · refine Tot.ret ⟨⟨h.Q, h.P⟩, ?_⟩
    unfold gz rz
    rw [if_neg hz]
theorem div_abs {x g : Int} (hg : g ≠ 0) : (x / g).natAbs ≤ x.natAbs := Int.natAbs_ediv_le_natAbs _ _
theorem rot_ok {z : Gauss} {k : Nat} (h : SmG z k) (hk : k ≤ 1000) (h0 : ¬ (toZ z.re = 0 ∧ toZ z.im = 0)) : Tot (fun n => rotation_gauss_rot n z) (fun r => SmT r k ∧ Par (rz r) (gz z)) := by
  dsimp only [rotation_gauss_rot]
  refine Tot.bind ⟨_, Gcd_ok z.re z.im h.re h.im (by omega), ?_⟩
  obtain ⟨G, hG⟩ : ∃ G : Nat, G = Nat.gcd (toZ z.re).natAbs (toZ z.im).natAbs := ⟨_, rfl⟩
  have hg0 : 0 < G := by
    rw [hG]
    rcases Nat.eq_zero_or_pos (Nat.gcd (toZ z.re).natAbs (toZ z.im).natAbs) with h | h
    · exfalso
      have := Nat.eq_zero_of_gcd_eq_zero_left h
      have := Nat.eq_zero_of_gcd_eq_zero_right h
      omega
    · exact h
  have d1 : (G : Int) ∣ toZ z.re := Int.dvd_trans (Int.natCast_dvd_natCast.2 (hG ▸ Nat.gcd_dvd_left _ _)) Int.natAbs_dvd_self
  have d2 : (G : Int) ∣ toZ z.im := Int.dvd_trans (Int.natCast_dvd_natCast.2 (hG ▸ Nat.gcd_dvd_right (toZ z.re).natAbs (toZ z.im).natAbs)) Int.natAbs_dvd_self
  have hGk : G < B32 ^ k := by
    by_cases hr : toZ z.re = 0
    · have : G ≤ (toZ z.im).natAbs := Nat.le_of_dvd (by omega) (hG ▸ Nat.gcd_dvd_right _ _)
      exact Nat.lt_of_le_of_lt this h.im.lt
    · have : G ≤ (toZ z.re).natAbs := Nat.le_of_dvd (by omega) (hG ▸ Nat.gcd_dvd_left _ _)
      exact Nat.lt_of_le_of_lt this h.re.lt
  rw [← hG]
  have sG : Sm (ofZ (G : Int)) k := Sm.ofZ (by rw [Int.natAbs_natCast]; exact hGk)
  refine Tot.bind (Tot.mono (Q' := fun p : Bool × List Int => ∃ g : Int, (g = G ∨ g = -G) ∧ p = ((ofZ g).Neg, (ofZ g).Mag)) ?_ ?_)
  · refine Tot.bind ⟨_, Sign_ok h.re (by omega), ?_⟩
    refine Tot.bind (Tot.mono (Q' := fun _ => True) ?_ ?_)
    · refine Tot.condD (fun _ => Tot.ret trivial) (fun _ => Tot.condE (fun _ => ?_) (fun _ => Tot.ret trivial))
      exact Tot.bind ⟨_, Sign_ok h.im (by omega), Tot.ret trivial⟩
    intro b _
    refine Tot.cond (fun _ => ?_) (fun _ => Tot.ret ⟨_, .inl rfl, rfl⟩)
    refine Tot.bind ⟨_, Neg_ok sG (by omega), Tot.ret ⟨-(G : Int), .inr rfl, ?_⟩⟩
    rw [toZ_ofZ]
  · rintro _ ⟨g, hg, rfl⟩
    have hgz : g ≠ 0 := by omega
    have e1 : g ∣ toZ z.re := by rcases hg with rfl | rfl; exact d1; exact Int.neg_dvd.2 d1
    have e2 : g ∣ toZ z.im := by rcases hg with rfl | rfl; exact d2; exact Int.neg_dvd.2 d2
    have sg : Sm (ofZ g) k := Sm.ofZ (by omega)
    refine Tot.bind ⟨_, DivMod_ok z.re (ofZ g) h.re sg (by omega) (by rw [toZ_ofZ]; exact hgz), ?_⟩
    refine Tot.bind ⟨_, DivMod_ok z.im (ofZ g) h.im sg (by omega) (by rw [toZ_ofZ]; exact hgz), ?_⟩
    rw [toZ_ofZ]
    have b1 : (toZ z.re / g).natAbs < B32 ^ k := Nat.lt_of_le_of_lt (div_abs hgz) h.re.lt
    have b2 : (toZ z.im / g).natAbs < B32 ^ k := Nat.lt_of_le_of_lt (div_abs hgz) h.im.lt
    refine Tot.ret ⟨⟨Sm.ofZ b2, Sm.ofZ b1⟩, ?_⟩
    have q1 : g * (toZ z.re / g) = toZ z.re := Int.mul_ediv_cancel' e1
    have q2 : g * (toZ z.im / g) = toZ z.im := Int.mul_ediv_cancel' e2
    have hr : rz (Rot.mk (ofZ (toZ z.im / g)) (ofZ (toZ z.re / g))) = (toZ z.re / g, toZ z.im / g) := by
      unfold rz
      dsimp only
      rw [toZ_ofZ, toZ_ofZ, if_neg]
      rintro ⟨k1, k2⟩
      rw [k2] at q1; rw [k1] at q2
      omega
    refine ⟨g, 1, hgz, by decide, ?_, ?_⟩
    · show g * (rz (Rot.mk (ofZ (toZ z.im / g)) (ofZ (toZ z.re / g)))).1 = 1 * toZ z.re
      rw [hr]; dsimp only; omega
    · show g * (rz (Rot.mk (ofZ (toZ z.im / g)) (ofZ (toZ z.re / g)))).2 = 1 * toZ z.im
      rw [hr]; dsimp only; omega
theorem NormT_ok {r : Rot} {k : Nat} (h : SmT r k) (hk : k ≤ 1000) (hk1 : 1 ≤ k) : Tot (fun n => rotation_Norm n r) (fun s => SmT s k ∧ Par (rz s) (rz r)) := by
  dsimp only [rotation_Norm]
  refine Tot.bind (Tot.mono (of_ok h hk hk1) ?_)
  rintro z ⟨hz, hzr⟩
  have h0 : ¬ (toZ z.re = 0 ∧ toZ z.im = 0) := by have := rz_ne r; rw [← hzr] at this; exact this
  refine Tot.bind (Tot.mono (rot_ok hz hk h0) ?_)
  rintro s ⟨hs, hp⟩
  rw [hzr] at hp
  exact Tot.ret ⟨hs, hp⟩
end Go.Proofs.YtcdboppghnchpaaDoor

namespace Go.Proofs.YtcdboppghnchpaaDoor
open Go Go.Proofs.YtcdboppghnchpaaDoor.Gw
set_option linter.unusedVariables false
def mulc (a b : Int × Int) : Int × Int := (a.1 * b.1 - a.2 * b.2, a.1 * b.2 + a.2 * b.1)
def nrm (a : Int × Int) : Int := a.1 * a.1 + a.2 * a.2
theorem nrm_pos {a : Int × Int} (h : ¬ (a.1 = 0 ∧ a.2 = 0)) : 0 < nrm a := by
  have h1 := sq_nn a.1
  have h2 := sq_nn a.2
  unfold nrm
  rcases Int.lt_or_eq_of_le h1 with k | k
  · omega
  rcases Int.lt_or_eq_of_le h2 with l | l
  · omega
  · exfalso
    apply h
    constructor
    · rcases Int.mul_eq_zero.1 k.symm with e | e <;> exact e
    · rcases Int.mul_eq_zero.1 l.symm with e | e <;> exact e
theorem nrm_mul (a b : Int × Int) : nrm (mulc a b) = nrm a * nrm b := by
  unfold nrm mulc; dsimp only; grind
theorem mulc_ne {a b : Int × Int} (ha : ¬ (a.1 = 0 ∧ a.2 = 0)) (hb : ¬ (b.1 = 0 ∧ b.2 = 0)) : ¬ ((mulc a b).1 = 0 ∧ (mulc a b).2 = 0) := by
  rintro ⟨h1, h2⟩
  have h := nrm_mul a b
  have pa := nrm_pos ha
  have pb := nrm_pos hb
  have : 0 < nrm a * nrm b := Int.mul_pos pa pb
  have e : nrm (mulc a b) = 0 := by unfold nrm; rw [h1, h2]; rfl
  omega
theorem Par.mul {a b c d : Int × Int} (h : Par a c) (k : Par b d) : Par (mulc a b) (mulc c d) := by
  obtain ⟨p, q, hp, hq, h1, h2⟩ := h
  obtain ⟨r, s, hr, hs, k1, k2⟩ := k
  refine ⟨p * r, q * s, Int.mul_ne_zero hp hr, Int.mul_ne_zero hq hs, ?_, ?_⟩
  · show p * r * (a.1 * b.1 - a.2 * b.2) = q * s * (c.1 * d.1 - c.2 * d.2)
    have e1 : (p * a.1) * (r * b.1) = (q * c.1) * (s * d.1) := by rw [h1, k1]
    have e2 : (p * a.2) * (r * b.2) = (q * c.2) * (s * d.2) := by rw [h2, k2]
    grind
  · show p * r * (a.1 * b.2 + a.2 * b.1) = q * s * (c.1 * d.2 + c.2 * d.1)
    have e1 : (p * a.1) * (r * b.2) = (q * c.1) * (s * d.2) := by rw [h1, k2]
    have e2 : (p * a.2) * (r * b.1) = (q * c.2) * (s * d.1) := by rw [h2, k1]
    grind
theorem gtimes_ok {a b : Gauss} {k : Nat} (ha : SmG a k) (hb : SmG b k) (hk : k ≤ 400) : Tot (fun n => rotation_gauss_times n a b) (fun z => SmG z (2 * k + 1) ∧ z = ⟨ofZ (mulc (gz a) (gz b)).1, ofZ (mulc (gz a) (gz b)).2⟩) := by
  dsimp only [rotation_gauss_times]
  have m1 := sm_mul ha.re.lt hb.re.lt
  have m2 := sm_mul ha.im.lt hb.im.lt
  have m3 := sm_mul ha.re.lt hb.im.lt
  have m4 := sm_mul ha.im.lt hb.re.lt
  have s1 := sm_sub m1 m2
  have s2 := sm_add m3 m4
  refine Tot.bind ⟨_, Mul_ok ha.re hb.re (by omega), ?_⟩
  refine Tot.bind ⟨_, Mul_ok ha.im hb.im (by omega), ?_⟩
  refine Tot.bind ⟨_, Sub_ok (Sm.ofZ m1) (Sm.ofZ m2) (by omega), ?_⟩
  refine Tot.bind ⟨_, Mul_ok ha.re hb.im (by omega), ?_⟩
  refine Tot.bind ⟨_, Mul_ok ha.im hb.re (by omega), ?_⟩
  refine Tot.bind ⟨_, Add_ok _ _ (Sm.ofZ m3) (Sm.ofZ m4) (by omega), ?_⟩
  rw [toZ_ofZ, toZ_ofZ, toZ_ofZ, toZ_ofZ]
  exact Tot.ret ⟨⟨sm_of s1 (by omega), sm_of s2 (by omega)⟩, rfl⟩
theorem gsquare_ok {a : Gauss} {k : Nat} (ha : SmG a k) (hk : k ≤ 400) : Tot (fun n => rotation_gauss_square n a) (fun z => Sm z (2 * k + 1) ∧ z = ofZ (nrm (gz a))) := by
  dsimp only [rotation_gauss_square]
  have m1 := sm_mul ha.re.lt ha.re.lt
  have m2 := sm_mul ha.im.lt ha.im.lt
  have s2 := sm_add m1 m2
  refine Tot.bind ⟨_, Mul_ok ha.re ha.re (by omega), ?_⟩
  refine Tot.bind ⟨_, Mul_ok ha.im ha.im (by omega), ?_⟩
  refine Tot.bind ⟨_, Add_ok _ _ (Sm.ofZ m1) (Sm.ofZ m2) (by omega), ?_⟩
  rw [toZ_ofZ, toZ_ofZ]
  exact Tot.ret ⟨sm_of s2 (by omega), rfl⟩
theorem Then_ok {a b : Rot} {k : Nat} (ha : SmT a k) (hb : SmT b k) (hk : k ≤ 400) (hk1 : 1 ≤ k) : Tot (fun n => rotation_Then n a b) (fun r => SmT r (2 * k + 1) ∧ Par (rz r) (mulc (rz a) (rz b))) := by
  dsimp only [rotation_Then]
  refine Tot.bind (Tot.mono (NormT_ok ha (by omega) hk1) ?_)
  rintro s ⟨hs, hsp⟩
  refine Tot.bind (Tot.mono (of_ok hs (by omega) hk1) ?_)
  rintro x ⟨hx, ex⟩
  refine Tot.bind (Tot.mono (NormT_ok hb (by omega) hk1) ?_)
  rintro t ⟨ht, htp⟩
  refine Tot.bind (Tot.mono (of_ok ht (by omega) hk1) ?_)
  rintro y ⟨hy, ey⟩
  refine Tot.bind (Tot.mono (gtimes_ok hx hy hk) ?_)
  rintro z ⟨hz, ez⟩
  have eg : gz z = mulc (rz s) (rz t) := by rw [ez, ex, ey]; unfold gz; dsimp only; rw [toZ_ofZ, toZ_ofZ]
  have h0 : ¬ (toZ z.re = 0 ∧ toZ z.im = 0) := by have := mulc_ne (rz_ne s) (rz_ne t); rw [← eg] at this; exact this
  refine Tot.bind (Tot.mono (rot_ok hz (by omega) h0) ?_)
  rintro r ⟨hr, hp⟩
  rw [eg] at hp
  exact Tot.ret ⟨hr, hp.trans (hsp.mul htp)⟩
theorem Inverse_ok {a : Rot} {k : Nat} (ha : SmT a k) (hk : k ≤ 400) (hk1 : 1 ≤ k) : Tot (fun n => rotation_Inverse n a) (fun r => SmT r k ∧ Par (rz r) ((rz a).1, -(rz a).2)) := by
  dsimp only [rotation_Inverse]
  refine Tot.bind (Tot.mono (of_ok ha (by omega) hk1) ?_)
  rintro x ⟨hx, ex⟩
  refine Tot.bind ⟨_, Neg_ok hx.im (by omega), ?_⟩
  have e1 : toZ x.re = (rz a).1 := by rw [← ex]; rfl
  have e2 : toZ x.im = (rz a).2 := by rw [← ex]; rfl
  have h0 := rz_ne a
  have hz : SmG ⟨x.re, ofZ (-toZ x.im)⟩ k := ⟨hx.re, sm_neg hx.im⟩
  refine Tot.bind (Tot.mono (rot_ok hz (by omega) (by dsimp only; rw [toZ_ofZ, e1, e2]; omega)) ?_)
  rintro r ⟨hr, hp⟩
  refine Tot.ret ⟨hr, ?_⟩
  unfold gz at hp
  dsimp only at hp
  rw [toZ_ofZ, e1, e2] at hp
  exact hp
end Go.Proofs.YtcdboppghnchpaaDoor

namespace Go.Proofs.YtcdboppghnchpaaDoor
open Go Go.Proofs.YtcdboppghnchpaaDoor.Gw
set_option linter.unusedVariables false
def cosQ (z : Int × Int) : Rat := Rat.divInt (z.1 * z.1 - z.2 * z.2) (nrm z)
def sinQ (z : Int × Int) : Rat := Rat.divInt (z.1 * z.2 + z.2 * z.1) (nrm z)
theorem Par.eqs {x y : Int × Int} (h : Par x y) : (x.1 * x.1 - x.2 * x.2) * nrm y = (y.1 * y.1 - y.2 * y.2) * nrm x ∧ (x.1 * x.2 + x.2 * x.1) * nrm y = (y.1 * y.2 + y.2 * y.1) * nrm x := by
  obtain ⟨c, d, hc, hd, h1, h2⟩ := h
  have hdd : d * d ≠ 0 := Int.mul_ne_zero hd hd
  have a1 : (c * x.1) * (c * x.1) = (d * y.1) * (d * y.1) := by rw [h1]
  have a2 : (c * x.2) * (c * x.2) = (d * y.2) * (d * y.2) := by rw [h2]
  have a3 : (c * x.1) * (c * x.2) = (d * y.1) * (d * y.2) := by rw [h1, h2]
  have n1 : (c * c) * nrm x = (d * d) * nrm y := by unfold nrm; grind
  have n2 : (c * c) * (x.1 * x.1 - x.2 * x.2) = (d * d) * (y.1 * y.1 - y.2 * y.2) := by grind
  have n3 : (c * c) * (x.1 * x.2 + x.2 * x.1) = (d * d) * (y.1 * y.2 + y.2 * y.1) := by grind
  generalize nrm x = N at *
  generalize nrm y = N' at *
  generalize x.1 * x.1 - x.2 * x.2 = A at *
  generalize y.1 * y.1 - y.2 * y.2 = A' at *
  generalize x.1 * x.2 + x.2 * x.1 = B at *
  generalize y.1 * y.2 + y.2 * y.1 = B' at *
  constructor
  · refine Int.eq_of_mul_eq_mul_left hdd ?_
    have : (d * d) * (A * N') = A * ((d * d) * N') := by grind
    rw [this, ← n1]
    have : (d * d) * (A' * N) = ((d * d) * A') * N := by grind
    rw [this, ← n2]
    grind
  · refine Int.eq_of_mul_eq_mul_left hdd ?_
    have : (d * d) * (B * N') = B * ((d * d) * N') := by grind
    rw [this, ← n1]
    have : (d * d) * (B' * N) = ((d * d) * B') * N := by grind
    rw [this, ← n3]
    grind
theorem Par.cos {x y : Int × Int} (h : Par x y) (hx : ¬ (x.1 = 0 ∧ x.2 = 0)) (hy : ¬ (y.1 = 0 ∧ y.2 = 0)) : cosQ x = cosQ y ∧ sinQ x = sinQ y := by
  have px := nrm_pos hx
  have py := nrm_pos hy
  obtain ⟨e1, e2⟩ := h.eqs
  exact ⟨(Rat.divInt_eq_divInt_iff (by omega) (by omega)).2 e1, (Rat.divInt_eq_divInt_iff (by omega) (by omega)).2 e2⟩
theorem Cosine_ok {r : Rot} {k : Nat} (h : SmT r k) (hk : k ≤ 400) (hk1 : 1 ≤ k) : Tot (fun n => rotation_Cosine n r) (fun q => q = ofQ (cosQ (rz r)) ∧ Bd (cosQ (rz r)) (2 * k + 1)) := by
  dsimp only [rotation_Cosine]
  refine Tot.bind (Tot.mono (NormT_ok h (by omega) hk1) ?_)
  rintro s ⟨hs, hp⟩
  refine Tot.bind (Tot.mono (of_ok hs (by omega) hk1) ?_)
  rintro z ⟨hz, e⟩
  refine Tot.bind (Tot.mono (gtimes_ok hz hz hk) ?_)
  rintro w ⟨hw, rfl⟩
  refine Tot.bind (Tot.mono (gsquare_ok hz hk) ?_)
  rintro v ⟨hv, rfl⟩
  have hne := rz_ne s
  have hc := (hp.cos hne (rz_ne r)).1
  have hd : Bd (cosQ (rz s)) (2 * k + 1) := by
    have b1 := hw.re.lt
    have b2 := hv.lt
    rw [toZ_ofZ, e] at b1 b2
    exact bd_divInt (by omega) b1 b2
  refine Tot.bind ⟨_, New_ok _ _ hw.re hv (by omega), Tot.ret ⟨?_, by rw [← show cosQ (rz s) = cosQ (rz r) from hc]; exact hd⟩⟩
  rw [toZ_ofZ, toZ_ofZ, e]
  show ofQ (cosQ (rz s)) = ofQ (cosQ (rz r))
  rw [show cosQ (rz s) = cosQ (rz r) from hc]
theorem Sine_ok {r : Rot} {k : Nat} (h : SmT r k) (hk : k ≤ 400) (hk1 : 1 ≤ k) : Tot (fun n => rotation_Sine n r) (fun q => q = ofQ (sinQ (rz r)) ∧ Bd (sinQ (rz r)) (2 * k + 1)) := by
  dsimp only [rotation_Sine]
  refine Tot.bind (Tot.mono (NormT_ok h (by omega) hk1) ?_)
  rintro s ⟨hs, hp⟩
  refine Tot.bind (Tot.mono (of_ok hs (by omega) hk1) ?_)
  rintro z ⟨hz, e⟩
  refine Tot.bind (Tot.mono (gtimes_ok hz hz hk) ?_)
  rintro w ⟨hw, rfl⟩
  refine Tot.bind (Tot.mono (gsquare_ok hz hk) ?_)
  rintro v ⟨hv, rfl⟩
  have hne := rz_ne s
  have hc := (hp.cos hne (rz_ne r)).2
  have hd : Bd (sinQ (rz s)) (2 * k + 1) := by
    have b1 := hw.im.lt
    have b2 := hv.lt
    rw [toZ_ofZ, e] at b1 b2
    exact bd_divInt (by omega) b1 b2
  refine Tot.bind ⟨_, New_ok _ _ hw.im hv (by omega), Tot.ret ⟨?_, by rw [← show sinQ (rz s) = sinQ (rz r) from hc]; exact hd⟩⟩
  rw [toZ_ofZ, toZ_ofZ, e]
  show ofQ (sinQ (rz s)) = ofQ (sinQ (rz r))
  rw [show sinQ (rz s) = sinQ (rz r) from hc]
end Go.Proofs.YtcdboppghnchpaaDoor

namespace Go.Proofs.YtcdboppghnchpaaDoor
open Go Go.Proofs.YtcdboppghnchpaaDoor.Gw
set_option linter.unusedVariables false
theorem OfT_ok {p q : Int} (hp : -1000 ≤ p ∧ p ≤ 1000) (hq : -1000 ≤ q ∧ q ≤ 1000) (h0 : ¬ (p = 0 ∧ q = 0)) : Tot (fun n => rotation_Of n p q) (fun r => SmT r 1 ∧ Par (rz r) (q, p)) := by
  dsimp only [rotation_Of]
  refine Tot.bind ⟨_, Of_ok p (by omega) (by omega), ?_⟩
  refine Tot.bind ⟨_, Of_ok q (by omega) (by omega), ?_⟩
  have b1 : B32 ^ 1 = 4294967296 := by decide
  have s1 : Sm (ofZ p) 1 := Sm.ofZ (by rw [b1]; omega)
  have s2 : Sm (ofZ q) 1 := Sm.ofZ (by rw [b1]; omega)
  refine Tot.bind (Tot.mono (NormT_ok (r := Rot.mk (ofZ p) (ofZ q)) ⟨s1, s2⟩ (by omega) (by omega)) ?_)
  rintro r ⟨hr, hP⟩
  have e : rz (Rot.mk (ofZ p) (ofZ q)) = (q, p) := by
    unfold rz
    dsimp only
    rw [toZ_ofZ, toZ_ofZ, if_neg h0]
  rw [e] at hP
  exact Tot.ret ⟨hr, hP⟩
theorem Par.of_eq {x y z : Int × Int} (h : Par x y) (e : y = z) : Par x z := e ▸ h
/-- Sizes of the rounds of Mark. -/
def mk_k : Nat → Nat
  | 0 => 1
  | j + 1 => 2 * mk_k j + 1
theorem mk_ge : ∀ j, 1 ≤ mk_k j
  | 0 => Nat.le_refl _
  | j + 1 => by simp only [mk_k]; omega
theorem mk_le : ∀ j, j ≤ 3 → mk_k j ≤ 15
  | 0, _ => by decide
  | 1, _ => by decide
  | 2, _ => by decide
  | 3, _ => by decide
  | j + 4, h => by omega
theorem SmT.mono {r : Rot} {k l : Nat} (h : SmT r k) (hk : k ≤ l) : SmT r l := ⟨h.P.mono hk, h.Q.mono hk⟩
theorem zt_one {m : Nat} {z : Int × Int} : zt (m + 1) z = mulc (zt m z) (1, 1) := by
  simp only [zt, mulc, Int.mul_one]
theorem Mark_ok {h : Nat} (hh : h < 256) : Tot (fun n => rotation_Mark n (h : Int)) (fun r => SmT r 15 ∧ Par (rz r) (zm h)) := by
  dsimp only [rotation_Mark]
  rw [mask_eq h hh]
  have e1 : (h : Int).tmod 64 = ((h % 64 : Nat) : Int) := (Int.ofNat_tmod h 64).symm
  have e2 : (h : Int).tdiv 64 = ((h / 64 : Nat) : Int) := (Int.ofNat_tdiv h 64).symm
  rw [e1]
  refine Tot.bind (Tot.mono (OfT_ok (p := ((h % 64 : Nat) : Int)) (q := 64) (by omega) (by omega) (by omega)) ?_)
  rintro r0 ⟨hr0, hp0⟩
  refine Tot.bind (Tot.mono (Tot.loop (Q := fun o : Bool × (List Int) × Bool × (List Int) => SmT (Rot.mk (Int_2.mk o.1 o.2.1) (Int_2.mk o.2.2.1 o.2.2.2)) 15 ∧ Par (rz (Rot.mk (Int_2.mk o.1 o.2.1) (Int_2.mk o.2.2.1 o.2.2.2))) (zm h)) (fun s : Bool × (List Int) × Bool × (List Int) × Int => ∃ j : Nat, j ≤ h / 64 ∧ s.2.2.2.2 = (j : Int) ∧ SmT (Rot.mk (Int_2.mk s.1 s.2.1) (Int_2.mk s.2.2.1 s.2.2.2.1)) (mk_k j) ∧ Par (rz (Rot.mk (Int_2.mk s.1 s.2.1) (Int_2.mk s.2.2.1 s.2.2.2.1))) (zt j (64, ((h % 64 : Nat) : Int)))) (fun s => h / 64 - s.2.2.2.2.toNat) ⟨0, by omega, rfl, hr0, hp0⟩ ?_) ?_)
  · rintro ⟨a, b, c, d, i⟩ ⟨j, hj, rfl, hs, hp⟩
    dsimp only at hs hp
    dsimp only [rotation_Mark_L1]
    rw [mask_eq h hh, e2, w64 (x := ((h / 64 : Nat) : Int)) (by omega) (by omega)]
    have k1 := mk_ge j
    have k2 := mk_le j (by omega)
    refine Tot.condD (fun hlt => ?_) (fun hge => ?_)
    · refine Tot.bind (Tot.mono (OfT_ok (p := 1) (q := 1) (by omega) (by omega) (by omega)) ?_)
      rintro u ⟨hu, hup⟩
      refine Tot.bind (Tot.mono (Then_ok hs (hu.mono k1) (by omega) k1) ?_)
      rintro w ⟨hw, hwp⟩
      refine Tot.ret ?_
      dsimp only
      rw [w64 (by omega) (by omega)]
      refine ⟨⟨j + 1, by omega, by omega, hw, ?_⟩, by omega⟩
      rw [zt_one]
      exact hwp.trans (hp.mul hup)
    · refine Tot.ret ?_
      have ej : j = h / 64 := by omega
      subst ej
      exact ⟨hs.mono k2, hp⟩
  · rintro ⟨a, b, c, d⟩ ⟨hs, hp⟩
    exact Tot.ret ⟨hs, hp⟩
end Go.Proofs.YtcdboppghnchpaaDoor

namespace Go.Proofs.YtcdboppghnchpaaDoor
open Go Go.Proofs.YtcdboppghnchpaaDoor.Gw
set_option linter.unusedVariables false
theorem TurnR_ok {r : Rot} {k l : Nat} {p q : Rat} (h : SmT r k) (hk : k ≤ 100) (hk1 : 1 ≤ k) (hp : Bd p l) (hq : Bd q l) (hl : l ≤ 400) :
    Tot (fun n => rotation_Turn n r (ofQ p) (ofQ q)) (fun o => o = (ofQ (cosQ (rz r) * p - sinQ (rz r) * q), ofQ (sinQ (rz r) * p + cosQ (rz r) * q)) ∧ Bd (cosQ (rz r) * p - sinQ (rz r) * q) (4 * k + 2 * l + 5) ∧ Bd (sinQ (rz r) * p + cosQ (rz r) * q) (4 * k + 2 * l + 5)) := by
  dsimp only [rotation_Turn]
  refine Tot.bind (Tot.mono (Q' := fun o => o = ((ofQ (cosQ (rz r))).Num.Neg, (ofQ (cosQ (rz r))).Num.Mag, (ofQ (cosQ (rz r))).Den.Neg, (ofQ (cosQ (rz r))).Den.Mag, (ofQ (sinQ (rz r))).Num.Neg, (ofQ (sinQ (rz r))).Num.Mag, (ofQ (sinQ (rz r))).Den.Neg, (ofQ (sinQ (rz r))).Den.Mag) ∧ Bd (cosQ (rz r)) (2 * k + 1) ∧ Bd (sinQ (rz r)) (2 * k + 1)) ?_ ?_)
  · refine Tot.bind (Tot.mono (Cosine_ok h (by omega) hk1) ?_)
    rintro c ⟨rfl, hc⟩
    refine Tot.bind (Tot.mono (Sine_ok h (by omega) hk1) ?_)
    rintro s ⟨rfl, hs⟩
    exact Tot.ret ⟨rfl, hc, hs⟩
  rintro _ ⟨rfl, hc, hs⟩
  generalize cosQ (rz r) = c at *
  generalize sinQ (rz r) = s at *
  have K : ∀ {a : Rat} {j : Nat}, Bd a j → j ≤ 2 * k + 1 + l → SmR (ofQ a) (2 * k + 1 + l) := fun h h' => smr_of h h'
  have cp := bd_mul hc hp
  have sq := bd_mul hs hq
  have sp := bd_mul hs hp
  have cq := bd_mul hc hq
  have b1 := bd_sub cp sq
  have b2 := bd_add sp cq
  have m1 := MulR_ok (K hc (by omega)) (K hp (by omega)) (by omega)
  have m2 := MulR_ok (K hs (by omega)) (K hq (by omega)) (by omega)
  have m3 := MulR_ok (K hs (by omega)) (K hp (by omega)) (by omega)
  have m4 := MulR_ok (K hc (by omega)) (K hq (by omega)) (by omega)
  rw [toQ_ofQ, toQ_ofQ] at m1 m2 m3 m4
  have a1 := SubR_ok (smr_of cp (Nat.le_refl _)) (smr_of sq (Nat.le_refl _)) (by omega)
  have a2 := AddR_ok (smr_of sp (Nat.le_refl _)) (smr_of cq (Nat.le_refl _)) (by omega)
  rw [toQ_ofQ, toQ_ofQ] at a1 a2
  refine Tot.bind ⟨_, m1, Tot.bind ⟨_, m2, Tot.bind ⟨_, a1, Tot.bind ⟨_, m3, Tot.bind ⟨_, m4, Tot.bind ⟨_, a2, Tot.ret ⟨rfl, b1.mono (by omega), b2.mono (by omega)⟩⟩⟩⟩⟩⟩⟩
end Go.Proofs.YtcdboppghnchpaaDoor

namespace Go.Proofs.YtcdboppghnchpaaDoor
open Go Go.Proofs.YtcdboppghnchpaaDoor.Gw
set_option linter.unusedVariables false
theorem ActR_ok {r : Rot} {k l : Nat} {a b p q : Rat} (h : SmT r k) (hk : k ≤ 100) (hk1 : 1 ≤ k) (ha : Bd a l) (hb : Bd b l) (hp : Bd p l) (hq : Bd q l) (hl : l ≤ 400) :
    Tot (fun n => rotation_Act n (Transform.mk r (ofQ a) (ofQ b)) (ofQ p) (ofQ q)) (fun o => o = (ofQ (cosQ (rz r) * p - sinQ (rz r) * q + a), ofQ (sinQ (rz r) * p + cosQ (rz r) * q + b)) ∧ Bd (cosQ (rz r) * p - sinQ (rz r) * q + a) (4 * k + 3 * l + 6) ∧ Bd (sinQ (rz r) * p + cosQ (rz r) * q + b) (4 * k + 3 * l + 6)) := by
  dsimp only [rotation_Act]
  refine Tot.bind (Tot.mono (TurnR_ok h hk hk1 hp hq hl) ?_)
  rintro _ ⟨rfl, h1, h2⟩
  dsimp only
  have a1 := AddR_ok (k := 4 * k + 2 * l + 5) (smr_of h1 (Nat.le_refl _)) (smr_of ha (by omega)) (by omega)
  have a2 := AddR_ok (k := 4 * k + 2 * l + 5) (smr_of h2 (Nat.le_refl _)) (smr_of hb (by omega)) (by omega)
  rw [toQ_ofQ, toQ_ofQ] at a1 a2
  refine Tot.bind ⟨_, a1, Tot.bind ⟨_, a2, Tot.ret ⟨rfl, (bd_add h1 ha).mono (by omega), (bd_add h2 hb).mono (by omega)⟩⟩⟩
theorem OfR_ok {p q : Int} (hp : p.natAbs < 4294967296 * 4294967296) (hp2 : -9223372036854775808 ≤ p ∧ p ≤ 9223372036854775807) (hq : 1 ≤ q ∧ q ≤ 9223372036854775807) : Tot (fun n => rational_Of n p q) (fun o => o = ofQ (Rat.divInt p q) ∧ Bd (Rat.divInt p q) 2) := by
  dsimp only [rational_Of]
  have b2 : B32 ^ 2 = 18446744073709551616 := by decide
  have s1 : p.natAbs < B32 ^ 2 := by rw [b2]; omega
  have s2 : q.natAbs < B32 ^ 2 := by rw [b2]; omega
  refine Tot.bind ⟨_, Of_ok p hp2.1 hp2.2, Tot.bind ⟨_, Of_ok q (by omega) hq.2, ?_⟩⟩
  have nw := New_ok (ofZ p) (ofZ q) (Sm.ofZ s1) (Sm.ofZ s2) (by omega)
  rw [toZ_ofZ, toZ_ofZ] at nw
  exact Tot.bind ⟨_, nw, Tot.ret ⟨rfl, bd_divInt (by omega) s1 s2⟩⟩
/-- The cosine of a product. -/
theorem cos_mul {a b : Int × Int} (ha : ¬ (a.1 = 0 ∧ a.2 = 0)) (hb : ¬ (b.1 = 0 ∧ b.2 = 0)) : cosQ (mulc a b) = cosQ a * cosQ b - sinQ a * sinQ b ∧ sinQ (mulc a b) = sinQ a * cosQ b + cosQ a * sinQ b := by
  have pa := nrm_pos ha
  have pb := nrm_pos hb
  have pn : nrm a * nrm b ≠ 0 := Int.mul_ne_zero (by omega) (by omega)
  unfold cosQ sinQ
  rw [nrm_mul]
  constructor
  · rw [Rat.divInt_mul_divInt, Rat.divInt_mul_divInt, Rat.divInt_sub_divInt _ _ pn pn, Rat.divInt_eq_divInt_iff pn (Int.mul_ne_zero pn pn)]
    unfold mulc nrm
    dsimp only
    grind
  · rw [Rat.divInt_mul_divInt, Rat.divInt_mul_divInt, Rat.divInt_add_divInt _ _ pn pn, Rat.divInt_eq_divInt_iff pn (Int.mul_ne_zero pn pn)]
    unfold mulc nrm
    dsimp only
    grind
end Go.Proofs.YtcdboppghnchpaaDoor

namespace Go.Proofs.YtcdboppghnchpaaDoor
open Go Go.Proofs.YtcdboppghnchpaaDoor.Gw
set_option linter.unusedVariables false
theorem DirOf.cos {z : Int × Int} {v : Vector} (h : DirOf z v) (hD : 1 ≤ v.D) : cosQ z = Rat.divInt v.X v.D ∧ sinQ z = Rat.divInt v.Y v.D := by
  obtain ⟨g, g1, g2, g3, g4⟩ := h
  have hg : g * v.D ≠ 0 := Int.mul_ne_zero (by omega) (by omega)
  have e : z.1 * z.2 + z.2 * z.1 = g * v.Y := by rw [← g3]; grind
  unfold cosQ sinQ nrm
  rw [g2, g4, e]
  exact ⟨(Rat.divInt_eq_divInt_iff hg (by omega)).2 (by grind), (Rat.divInt_eq_divInt_iff hg (by omega)).2 (by grind)⟩
theorem Beam_cos {h m : Nat} {v : Vector} (hv : 1 ≤ v.D) (hb : ∃ a b, DirOf (zm h) a ∧ 1 ≤ a.D ∧ DirOf (zm m) b ∧ 1 ≤ b.D ∧ BeamOf a b v) :
    Rat.divInt v.X v.D = cosQ (zm h) * cosQ (zm m) - sinQ (zm h) * sinQ (zm m) ∧ Rat.divInt v.Y v.D = sinQ (zm h) * cosQ (zm m) + cosQ (zm h) * sinQ (zm m) := by
  obtain ⟨a, b, ha, a1, hb, b1, g, g1, g2, g3, g4⟩ := hb
  obtain ⟨ca, sa⟩ := ha.cos a1
  obtain ⟨cb, sb⟩ := hb.cos b1
  have pn : a.D * b.D ≠ 0 := Int.mul_ne_zero (by omega) (by omega)
  rw [ca, sa, cb, sb]
  constructor
  · rw [Rat.divInt_mul_divInt, Rat.divInt_mul_divInt, Rat.divInt_sub_divInt _ _ pn pn, Rat.divInt_eq_divInt_iff (by omega) (Int.mul_ne_zero pn pn)]
    have : a.X * b.X * (a.D * b.D) - a.Y * b.Y * (a.D * b.D) = (g * v.X) * (a.D * b.D) := by rw [← g2]; grind
    rw [this, g4]
    grind
  · rw [Rat.divInt_mul_divInt, Rat.divInt_mul_divInt, Rat.divInt_add_divInt _ _ pn pn, Rat.divInt_eq_divInt_iff (by omega) (Int.mul_ne_zero pn pn)]
    have : a.Y * b.X * (a.D * b.D) + a.X * b.Y * (a.D * b.D) = (g * v.Y) * (a.D * b.D) := by rw [← g3]; grind
    rw [this, g4]
    grind
theorem ComposeR_ok {r u : Rot} {k l : Nat} {a b p q : Rat} (h : SmT r k) (hu : SmT u k) (hk : k ≤ 100) (hk1 : 1 ≤ k) (ha : Bd a l) (hb : Bd b l) (hp : Bd p l) (hq : Bd q l) (hl : l ≤ 400) :
    Tot (fun n => rotation_Compose n (Transform.mk r (ofQ a) (ofQ b)) (Transform.mk u (ofQ p) (ofQ q))) (fun o => ∃ w, SmT w (2 * k + 1) ∧ Par (rz w) (mulc (rz r) (rz u)) ∧ o = Transform.mk w (ofQ (cosQ (rz r) * p - sinQ (rz r) * q + a)) (ofQ (sinQ (rz r) * p + cosQ (rz r) * q + b)) ∧ Bd (cosQ (rz r) * p - sinQ (rz r) * q + a) (4 * k + 3 * l + 6) ∧ Bd (sinQ (rz r) * p + cosQ (rz r) * q + b) (4 * k + 3 * l + 6)) := by
  dsimp only [rotation_Compose]
  refine Tot.bind (Tot.mono (ActR_ok h hk hk1 ha hb hp hq hl) ?_)
  rintro _ ⟨rfl, h1, h2⟩
  dsimp only
  refine Tot.bind (Tot.mono (Then_ok h hu (by omega) hk1) ?_)
  rintro w ⟨hw, hP⟩
  exact Tot.ret ⟨w, hw, hP, rfl, h1, h2⟩
theorem BackR_ok {r : Rot} {k l : Nat} {a b : Rat} (h : SmT r k) (hk : k ≤ 100) (hk1 : 1 ≤ k) (ha : Bd a l) (hb : Bd b l) (hl : l ≤ 400) :
    Tot (fun n => rotation_Back n (Transform.mk r (ofQ a) (ofQ b))) (fun o => ∃ w p q, SmT w k ∧ Par (rz w) ((rz r).1, -(rz r).2) ∧ o = Transform.mk w (ofQ p) (ofQ q) ∧ p = cosQ (rz w) * -a - sinQ (rz w) * -b ∧ q = sinQ (rz w) * -a + cosQ (rz w) * -b ∧ Bd p (4 * k + 2 * l + 5) ∧ Bd q (4 * k + 2 * l + 5)) := by
  dsimp only [rotation_Back]
  refine Tot.bind (Tot.mono (Inverse_ok h (by omega) hk1) ?_)
  rintro w ⟨hw, hP⟩
  have n1 := NegR_ok (k := l) (smr_of ha (Nat.le_refl _)) (by omega)
  have n2 := NegR_ok (k := l) (smr_of hb (Nat.le_refl _)) (by omega)
  rw [toQ_ofQ] at n1 n2
  refine Tot.bind (Tot.mono (Q' := fun o : Bool × (List Int) × Bool × (List Int) × Bool × (List Int) × Bool × (List Int) => ∃ p q, o = ((ofQ p).Num.Neg, (ofQ p).Num.Mag, (ofQ p).Den.Neg, (ofQ p).Den.Mag, (ofQ q).Num.Neg, (ofQ q).Num.Mag, (ofQ q).Den.Neg, (ofQ q).Den.Mag) ∧ p = cosQ (rz w) * -a - sinQ (rz w) * -b ∧ q = sinQ (rz w) * -a + cosQ (rz w) * -b ∧ Bd p (4 * k + 2 * l + 5) ∧ Bd q (4 * k + 2 * l + 5)) ?_ ?_)
  · refine Tot.bind ⟨_, n1, Tot.bind ⟨_, n2, ?_⟩⟩
    refine Tot.bind (Tot.mono (TurnR_ok hw hk hk1 (bd_neg ha) (bd_neg hb) hl) ?_)
    rintro _ ⟨rfl, h1, h2⟩
    exact Tot.ret ⟨_, _, rfl, rfl, rfl, h1, h2⟩
  · rintro _ ⟨p, q, rfl, e1, e2, h1, h2⟩
    exact Tot.ret ⟨w, p, q, hw, hP, rfl, e1, e2, h1, h2⟩
end Go.Proofs.YtcdboppghnchpaaDoor

namespace Go.Proofs.YtcdboppghnchpaaDoor
open Go Go.Proofs.YtcdboppghnchpaaDoor.Gw
set_option linter.unusedVariables false
theorem awake_ok : Evt (fun n => top_beamsAwake n) true := Evt.of 60 (fun n => by kernel_rfl)
theorem Clip_ok (x lo hi : Int) (h : lo ≤ hi) : Tot (fun n => base_Clip n x lo hi) (fun v => lo ≤ v ∧ v ≤ hi) := by
  dsimp only [base_Clip]
  refine Tot.ret ?_
  split <;> split at * <;> omega
theorem Mod256_ok (k : Int) : Tot (fun n => base_Mod n k 256) (fun v => ∃ i : Nat, v = (i : Int) ∧ i < 256) := by
  dsimp only [base_Mod]
  refine Tot.need (by decide) ?_
  have a1 := Int.lt_tmod_of_pos k (show (0 : Int) < 256 by decide)
  have a2 := Int.tmod_lt_of_pos k (show (0 : Int) < 256 by decide)
  refine Tot.bind (Tot.mono (Q' := fun v => ∃ i : Nat, v = (i : Int) ∧ i < 256) ?_ (fun v hv => Tot.ret hv))
  refine Tot.condD (fun h => Tot.ret ?_) (fun h => Tot.ret ?_)
  · rw [w64 (by omega) (by omega)]
    exact ⟨(k.tmod 256 + 256).toNat, by omega, by omega⟩
  · exact ⟨(k.tmod 256).toNat, by omega, by omega⟩
theorem baseR_ok {p q : Rat} {k : Nat} (h : p = q) (hk : k ≤ 100000) (hb : Bd p k) : Evt (fun n => base_Rational n (ofQ p) (ofQ q)) true := by
  subst h
  refine Tot.of_eq ?_
  have s := smr_of hb (Nat.le_refl _)
  dsimp only [base_Rational]
  refine Tot.bind (Tot.mono (Q' := (· = true)) ?_ (by rintro _ rfl; exact Tot.ret rfl))
  refine Tot.bind ⟨_, baseInt_refl (ofQ p).Num (by have := s.num.len; omega), ?_⟩
  exact Tot.bind ⟨_, baseInt_refl (ofQ p).Den (by have := s.den.len; omega), Tot.ret rfl⟩
theorem cs_one {z : Int × Int} (h : ¬ (z.1 = 0 ∧ z.2 = 0)) : cosQ z * cosQ z + sinQ z * sinQ z = 1 := by
  have p := nrm_pos h
  have pn : nrm z * nrm z ≠ 0 := Int.mul_ne_zero (by omega) (by omega)
  unfold cosQ sinQ
  rw [Rat.divInt_mul_divInt, Rat.divInt_mul_divInt, Rat.divInt_add_divInt _ _ pn pn, show (1 : Rat) = Rat.divInt 1 1 from rfl, Rat.divInt_eq_divInt_iff (Int.mul_ne_zero pn pn) (by decide)]
  unfold nrm
  grind
end Go.Proofs.YtcdboppghnchpaaDoor

namespace Go.Proofs.YtcdboppghnchpaaDoor
open Go Go.Proofs.YtcdboppghnchpaaDoor.Gw
set_option linter.unusedVariables false
theorem rz_nz (r : Rot) : ¬ ((rz r).1 = 0 ∧ (rz r).2 = 0) := by
  unfold rz
  split
  · intro h; exact absurd h.1 (by decide)
  · rename_i h; intro k; exact h ⟨k.2, k.1⟩
theorem Par.nz {x y : Int × Int} (h : Par x y) (hx : ¬ (x.1 = 0 ∧ x.2 = 0)) : ¬ (y.1 = 0 ∧ y.2 = 0) := by
  obtain ⟨c, d, hc, hd, h1, h2⟩ := h
  rintro ⟨k1, k2⟩
  rw [k1, Int.mul_zero] at h1
  rw [k2, Int.mul_zero] at h2
  exact hx ⟨(Int.mul_eq_zero.1 h1).resolve_left hc, (Int.mul_eq_zero.1 h2).resolve_left hc⟩
theorem cos_conj (z : Int × Int) : cosQ (z.1, -z.2) = cosQ z ∧ sinQ (z.1, -z.2) = - sinQ z := by
  unfold cosQ sinQ nrm
  dsimp only
  rw [Int.neg_mul_neg, Rat.neg_divInt]
  refine ⟨rfl, ?_⟩
  congr 1
  grind
/-- The eight equalities of the law, in plain numbers. -/
theorem beams_eq {ch sh cm sm S X Y vx vy : Rat} (h1 : ch * ch + sh * sh = 1) (ex : vx = ch * cm - sh * sm) (ey : vy = sh * cm + ch * sm) :
    ch * (cm * S - sm * 0) - sh * (sm * S + cm * 0) + X = X + S * vx ∧ sh * (cm * S - sm * 0) + ch * (sm * S + cm * 0) + Y = Y + S * vy ∧
    vx * 0 - vy * 0 + (ch * (cm * S - sm * 0) - sh * (sm * S + cm * 0) + X) = X + S * vx ∧ vy * 0 + vx * 0 + (sh * (cm * S - sm * 0) + ch * (sm * S + cm * 0) + Y) = Y + S * vy ∧
    vx * 1 - vy * 0 = vx ∧ vy * 1 + vx * 0 = vy ∧
    ch * (X + S * vx) - -sh * (Y + S * vy) + (ch * -X - -sh * -Y) = cm * S - sm * 0 ∧ -sh * (X + S * vx) + ch * (Y + S * vy) + (-sh * -X + ch * -Y) = sm * S + cm * 0 := by
  subst ex ey
  refine ⟨?_, ?_, ?_, ?_, ?_, ?_, ?_, ?_⟩ <;> grind
theorem law_WholeBeams (at_ : Pose) (ho : okPose at_) (mark : Int) (hm : inK .i64 mark) (s : Int) (hs : inK .i64 s) : Evt (fun n => top_WholeBeams n at_ mark s) true := by
  refine Tot.of_eq ?_
  dsimp only [top_WholeBeams]
  refine Tot.bind ⟨_, awake_ok, ?_⟩
  refine Tot.cond (fun h => by cases h) (fun _ => ?_)
  refine Tot.bind (Tot.mono (Clip_ok at_.X (-1048576) 1048576 (by decide)) ?_)
  intro X hX
  refine Tot.bind (Tot.mono (Clip_ok at_.Y (-1048576) 1048576 (by decide)) ?_)
  intro Y hY
  refine Tot.bind (Tot.mono (Mod256_ok at_.H) ?_)
  rintro _ ⟨h, rfl, hh⟩
  refine Tot.bind (Tot.mono (Mod256_ok mark) ?_)
  rintro _ ⟨m, rfl, hm⟩
  refine Tot.bind (Tot.mono (Clip_ok s 0 2048 (by decide)) ?_)
  intro S hS
  refine Tot.bind (Tot.mono (OfR_ok (p := 0) (q := 1) (by decide) (by decide) (by decide)) ?_)
  rintro _ ⟨rfl, hz⟩
  refine Tot.bind (Tot.mono (Beam_ok hh hm) ?_)
  rintro v ⟨v1, v2, vc, vb⟩
  obtain ⟨eC, eS⟩ := Beam_cos v1 vb
  have vx := abs_le_of (by omega) vc
  have vy := abs_le_of (a := v.Y) (b := v.X) (d := v.D) (by omega) (by omega)
  refine Tot.condD (fun h => by omega) (fun _ => ?_)
  have bnd : ∀ x : Int, -67108864 ≤ x → x ≤ 67108864 → -137438953472 ≤ S * x ∧ S * x ≤ 137438953472 := by
    intro x h1 h2
    have e := Int.natAbs_mul S x
    have := Nat.mul_le_mul (show S.natAbs ≤ 2048 by omega) (show x.natAbs ≤ 67108864 by omega)
    omega
  have sx := bnd v.X (by omega) (by omega)
  have sy := bnd v.Y (by omega) (by omega)
  rw [w64 (x := S * v.X) (by omega) (by omega), w64 (x := S * v.Y) (by omega) (by omega)]
  have z0 : Rat.divInt 0 1 = 0 := by decide +kernel
  rw [z0] at hz ⊢
  -- x
  refine Tot.bind (Tot.mono (Q' := fun o => o = ((ofQ (Rat.divInt X 1 + Rat.divInt (S * v.X) v.D)).Num.Neg, (ofQ (Rat.divInt X 1 + Rat.divInt (S * v.X) v.D)).Num.Mag, (ofQ (Rat.divInt X 1 + Rat.divInt (S * v.X) v.D)).Den.Neg, (ofQ (Rat.divInt X 1 + Rat.divInt (S * v.X) v.D)).Den.Mag) ∧ Bd (Rat.divInt X 1 + Rat.divInt (S * v.X) v.D) 5) ?_ ?_)
  · refine Tot.bind (Tot.mono (OfR_ok (p := X) (q := 1) (by omega) (by omega) (by omega)) ?_)
    rintro _ ⟨rfl, h1⟩
    refine Tot.bind (Tot.mono (OfR_ok (p := S * v.X) (q := v.D) (by omega) (by omega) (by omega)) ?_)
    rintro _ ⟨rfl, h2⟩
    have a := AddR_ok (smr_of h1 (Nat.le_refl _)) (smr_of h2 (Nat.le_refl _)) (by omega)
    rw [toQ_ofQ, toQ_ofQ] at a
    exact Tot.bind ⟨_, a, Tot.ret ⟨rfl, (bd_add h1 h2).mono (by omega)⟩⟩
  rintro _ ⟨rfl, hx5⟩
  refine Tot.bind (Tot.mono (Q' := fun o => o = ((ofQ (Rat.divInt Y 1 + Rat.divInt (S * v.Y) v.D)).Num.Neg, (ofQ (Rat.divInt Y 1 + Rat.divInt (S * v.Y) v.D)).Num.Mag, (ofQ (Rat.divInt Y 1 + Rat.divInt (S * v.Y) v.D)).Den.Neg, (ofQ (Rat.divInt Y 1 + Rat.divInt (S * v.Y) v.D)).Den.Mag) ∧ Bd (Rat.divInt Y 1 + Rat.divInt (S * v.Y) v.D) 5) ?_ ?_)
  · refine Tot.bind (Tot.mono (OfR_ok (p := Y) (q := 1) (by omega) (by omega) (by omega)) ?_)
    rintro _ ⟨rfl, h1⟩
    refine Tot.bind (Tot.mono (OfR_ok (p := S * v.Y) (q := v.D) (by omega) (by omega) (by omega)) ?_)
    rintro _ ⟨rfl, h2⟩
    have a := AddR_ok (smr_of h1 (Nat.le_refl _)) (smr_of h2 (Nat.le_refl _)) (by omega)
    rw [toQ_ofQ, toQ_ofQ] at a
    exact Tot.bind ⟨_, a, Tot.ret ⟨rfl, (bd_add h1 h2).mono (by omega)⟩⟩
  rintro _ ⟨rfl, hy5⟩
  -- the pose
  refine Tot.bind (Tot.mono (Q' := fun o => ∃ r : Rot, o = (r.P.Neg, r.P.Mag, r.Q.Neg, r.Q.Mag, (ofQ (Rat.divInt X 1)).Num.Neg, (ofQ (Rat.divInt X 1)).Num.Mag, (ofQ (Rat.divInt X 1)).Den.Neg, (ofQ (Rat.divInt X 1)).Den.Mag, (ofQ (Rat.divInt Y 1)).Num.Neg, (ofQ (Rat.divInt Y 1)).Num.Mag, (ofQ (Rat.divInt Y 1)).Den.Neg, (ofQ (Rat.divInt Y 1)).Den.Mag) ∧ SmT r 15 ∧ Par (rz r) (zm h) ∧ Bd (Rat.divInt X 1) 2 ∧ Bd (Rat.divInt Y 1) 2) ?_ ?_)
  · refine Tot.bind (Tot.mono (Mark_ok hh) ?_)
    rintro r ⟨k1, k2⟩
    refine Tot.bind (Tot.mono (OfR_ok (p := X) (q := 1) (by omega) (by omega) (by omega)) ?_)
    rintro _ ⟨rfl, b1⟩
    refine Tot.bind (Tot.mono (OfR_ok (p := Y) (q := 1) (by omega) (by omega) (by omega)) ?_)
    rintro _ ⟨rfl, b2⟩
    exact Tot.ret ⟨r, rfl, k1, k2, b1, b2⟩
  rintro _ ⟨r, rfl, hr, hp, bX, bY⟩
  dsimp only
  have nh := hp.nz (rz_nz r)
  obtain ⟨c1, s1⟩ := hp.cos (rz_nz r) nh
  -- the step
  refine Tot.bind (Tot.mono (Q' := fun o => o = ((ofQ (cosQ (zm m) * Rat.divInt S 1 - sinQ (zm m) * 0)).Num.Neg, (ofQ (cosQ (zm m) * Rat.divInt S 1 - sinQ (zm m) * 0)).Num.Mag, (ofQ (cosQ (zm m) * Rat.divInt S 1 - sinQ (zm m) * 0)).Den.Neg, (ofQ (cosQ (zm m) * Rat.divInt S 1 - sinQ (zm m) * 0)).Den.Mag, (ofQ (sinQ (zm m) * Rat.divInt S 1 + cosQ (zm m) * 0)).Num.Neg, (ofQ (sinQ (zm m) * Rat.divInt S 1 + cosQ (zm m) * 0)).Num.Mag, (ofQ (sinQ (zm m) * Rat.divInt S 1 + cosQ (zm m) * 0)).Den.Neg, (ofQ (sinQ (zm m) * Rat.divInt S 1 + cosQ (zm m) * 0)).Den.Mag) ∧ Bd (cosQ (zm m) * Rat.divInt S 1 - sinQ (zm m) * 0) 69 ∧ Bd (sinQ (zm m) * Rat.divInt S 1 + cosQ (zm m) * 0) 69 ∧ ¬ ((zm m).1 = 0 ∧ (zm m).2 = 0)) ?_ ?_)
  · refine Tot.bind (Tot.mono (Mark_ok hm) ?_)
    rintro u ⟨k1, k2⟩
    refine Tot.bind (Tot.mono (OfR_ok (p := S) (q := 1) (by omega) (by omega) (by omega)) ?_)
    rintro _ ⟨rfl, b1⟩
    refine Tot.bind (Tot.mono (TurnR_ok (r := u) (k := 15) (l := 2) (p := Rat.divInt S 1) (q := 0) k1 (by omega) (by omega) b1 hz (by omega)) ?_)
    have nm := k2.nz (rz_nz u)
    obtain ⟨c2, s2⟩ := k2.cos (rz_nz u) nm
    rw [c2, s2]
    rintro _ ⟨rfl, d1, d2⟩
    exact Tot.ret ⟨rfl, d1, d2, nm⟩
  rintro _ ⟨rfl, bp, bq, nm⟩
  dsimp only
  obtain ⟨pp, ep⟩ : ∃ x, cosQ (zm m) * Rat.divInt S 1 - sinQ (zm m) * 0 = x := ⟨_, rfl⟩
  obtain ⟨qq, eq⟩ : ∃ x, sinQ (zm m) * Rat.divInt S 1 + cosQ (zm m) * 0 = x := ⟨_, rfl⟩
  obtain ⟨xx, ex⟩ : ∃ x, Rat.divInt X 1 + Rat.divInt (S * v.X) v.D = x := ⟨_, rfl⟩
  obtain ⟨yy, ey⟩ : ∃ x, Rat.divInt Y 1 + Rat.divInt (S * v.Y) v.D = x := ⟨_, rfl⟩
  rw [ep] at bp ⊢
  rw [eq] at bq ⊢
  rw [ex] at hx5 ⊢
  rw [ey] at hy5 ⊢
  refine Tot.bind (Tot.mono (ActR_ok (r := r) (k := 15) (l := 69) (a := Rat.divInt X 1) (b := Rat.divInt Y 1) (p := pp) (q := qq) hr (by omega) (by omega) (bX.mono (by omega)) (bY.mono (by omega)) bp bq (by omega)) ?_)
  rw [c1, s1]
  rintro _ ⟨rfl, ba, bb⟩
  dsimp only
  refine Tot.bind (Tot.mono (Q' := fun o => ∃ u : Rot, o = ((ofQ pp).Num.Mag, (ofQ pp).Den.Mag, (ofQ qq).Num.Mag, (ofQ qq).Den.Mag, u.P.Neg, u.P.Mag, u.Q.Neg, u.Q.Mag, (ofQ pp).Num.Neg, (ofQ pp).Num.Mag, (ofQ pp).Den.Neg, (ofQ pp).Den.Mag, (ofQ qq).Num.Neg, (ofQ qq).Num.Mag, (ofQ qq).Den.Neg, (ofQ qq).Den.Mag) ∧ SmT u 15 ∧ Par (rz u) (zm m)) ?_ ?_)
  · refine Tot.bind (Tot.mono (Mark_ok hm) ?_)
    rintro u ⟨k1, k2⟩
    exact Tot.ret ⟨u, rfl, k1, k2⟩
  rintro _ ⟨u, rfl, hu, hpu⟩
  dsimp only
  obtain ⟨c2, s2⟩ := hpu.cos (rz_nz u) nm
  refine Tot.bind (Tot.mono (ComposeR_ok (r := r) (u := u) (k := 15) (l := 69) (a := Rat.divInt X 1) (b := Rat.divInt Y 1) (p := pp) (q := qq) hr hu (by omega) (by omega) (bX.mono (by omega)) (bY.mono (by omega)) bp bq (by omega)) ?_)
  rw [c1, s1]
  rintro _ ⟨w, hw, hPw, rfl, bc, bd⟩
  dsimp only
  have hn := hPw.cos (rz_nz w) (hPw.nz (rz_nz w))
  obtain ⟨m1, m2⟩ := cos_mul (rz_nz r) (rz_nz u)
  rw [c1, s1, c2, s2] at m1 m2
  rw [m1, m2] at hn
  obtain ⟨c3, s3⟩ := hn
  refine Tot.bind (Tot.mono (ActR_ok (r := w) (k := 31) (l := 273) (a := cosQ (zm h) * pp - sinQ (zm h) * qq + Rat.divInt X 1) (b := sinQ (zm h) * pp + cosQ (zm h) * qq + Rat.divInt Y 1) (p := 0) (q := 0) hw (by omega) (by omega) (bc.mono (by omega)) (bd.mono (by omega)) (hz.mono (by omega)) (hz.mono (by omega)) (by omega)) ?_)
  rw [c3, s3, ← eC, ← eS]
  rintro _ ⟨rfl, be, bf⟩
  dsimp only
  -- the direction of both
  have one1 : Rat.divInt 1 1 = 1 := by decide +kernel
  refine Tot.bind (Tot.mono (Q' := fun o => o = ((ofQ (Rat.divInt v.X v.D * 1 - Rat.divInt v.Y v.D * 0)).Num.Neg, (ofQ (Rat.divInt v.X v.D * 1 - Rat.divInt v.Y v.D * 0)).Num.Mag, (ofQ (Rat.divInt v.X v.D * 1 - Rat.divInt v.Y v.D * 0)).Den.Neg, (ofQ (Rat.divInt v.X v.D * 1 - Rat.divInt v.Y v.D * 0)).Den.Mag, (ofQ (Rat.divInt v.Y v.D * 1 + Rat.divInt v.X v.D * 0)).Num.Neg, (ofQ (Rat.divInt v.Y v.D * 1 + Rat.divInt v.X v.D * 0)).Num.Mag, (ofQ (Rat.divInt v.Y v.D * 1 + Rat.divInt v.X v.D * 0)).Den.Neg, (ofQ (Rat.divInt v.Y v.D * 1 + Rat.divInt v.X v.D * 0)).Den.Mag) ∧ Bd (Rat.divInt v.X v.D * 1 - Rat.divInt v.Y v.D * 0) 133 ∧ Bd (Rat.divInt v.Y v.D * 1 + Rat.divInt v.X v.D * 0) 133) ?_ ?_)
  · refine Tot.bind (Tot.mono (OfR_ok (p := 1) (q := 1) (by omega) (by omega) (by omega)) ?_)
    rintro _ ⟨rfl, b1⟩
    rw [one1] at b1 ⊢
    refine Tot.bind (Tot.mono (TurnR_ok (r := w) (k := 31) (l := 2) (p := 1) (q := 0) hw (by omega) (by omega) b1 hz (by omega)) ?_)
    rw [c3, s3, ← eC, ← eS]
    rintro _ ⟨rfl, d1, d2⟩
    exact Tot.ret ⟨rfl, d1, d2⟩
  rintro _ ⟨rfl, bg, bh⟩
  dsimp only
  -- the way back
  refine Tot.bind (Tot.mono (Q' := fun o => o = ((ofQ (cosQ (zm h) * xx - -sinQ (zm h) * yy + (cosQ (zm h) * -Rat.divInt X 1 - -sinQ (zm h) * -Rat.divInt Y 1))).Num.Neg, (ofQ (cosQ (zm h) * xx - -sinQ (zm h) * yy + (cosQ (zm h) * -Rat.divInt X 1 - -sinQ (zm h) * -Rat.divInt Y 1))).Num.Mag, (ofQ (cosQ (zm h) * xx - -sinQ (zm h) * yy + (cosQ (zm h) * -Rat.divInt X 1 - -sinQ (zm h) * -Rat.divInt Y 1))).Den.Neg, (ofQ (cosQ (zm h) * xx - -sinQ (zm h) * yy + (cosQ (zm h) * -Rat.divInt X 1 - -sinQ (zm h) * -Rat.divInt Y 1))).Den.Mag, (ofQ (-sinQ (zm h) * xx + cosQ (zm h) * yy + (-sinQ (zm h) * -Rat.divInt X 1 + cosQ (zm h) * -Rat.divInt Y 1))).Num.Neg, (ofQ (-sinQ (zm h) * xx + cosQ (zm h) * yy + (-sinQ (zm h) * -Rat.divInt X 1 + cosQ (zm h) * -Rat.divInt Y 1))).Num.Mag, (ofQ (-sinQ (zm h) * xx + cosQ (zm h) * yy + (-sinQ (zm h) * -Rat.divInt X 1 + cosQ (zm h) * -Rat.divInt Y 1))).Den.Neg, (ofQ (-sinQ (zm h) * xx + cosQ (zm h) * yy + (-sinQ (zm h) * -Rat.divInt X 1 + cosQ (zm h) * -Rat.divInt Y 1))).Den.Mag) ∧ Bd (cosQ (zm h) * xx - -sinQ (zm h) * yy + (cosQ (zm h) * -Rat.divInt X 1 - -sinQ (zm h) * -Rat.divInt Y 1)) 273 ∧ Bd (-sinQ (zm h) * xx + cosQ (zm h) * yy + (-sinQ (zm h) * -Rat.divInt X 1 + cosQ (zm h) * -Rat.divInt Y 1)) 273) ?_ ?_)
  · refine Tot.bind (Tot.mono (BackR_ok (r := r) (k := 15) (l := 2) (a := Rat.divInt X 1) (b := Rat.divInt Y 1) hr (by omega) (by omega) bX bY (by omega)) ?_)
    rintro _ ⟨w2, p2, q2, hw2, hP2, rfl, e1, e2, b1, b2⟩
    obtain ⟨c4, s4⟩ := hP2.cos (rz_nz w2) (hP2.nz (rz_nz w2))
    obtain ⟨c5, s5⟩ := cos_conj (rz r)
    rw [c5, c1] at c4
    rw [s5, s1] at s4
    rw [c4, s4] at e1 e2
    subst e1 e2
    refine Tot.bind (Tot.mono (ActR_ok (r := w2) (k := 15) (l := 69) (a := cosQ (zm h) * -Rat.divInt X 1 - -sinQ (zm h) * -Rat.divInt Y 1) (b := -sinQ (zm h) * -Rat.divInt X 1 + cosQ (zm h) * -Rat.divInt Y 1) (p := xx) (q := yy) hw2 (by omega) (by omega) b1 b2 (hx5.mono (by omega)) (hy5.mono (by omega)) (by omega)) ?_)
    rw [c4, s4]
    rintro _ ⟨rfl, d1, d2⟩
    exact Tot.ret ⟨rfl, d1.mono (by omega), d2.mono (by omega)⟩
  rintro _ ⟨rfl, bi, bj⟩
  dsimp only
  have sx : xx = Rat.divInt X 1 + Rat.divInt S 1 * Rat.divInt v.X v.D := by rw [← ex, Rat.divInt_mul_divInt, Int.one_mul]
  have sy : yy = Rat.divInt Y 1 + Rat.divInt S 1 * Rat.divInt v.Y v.D := by rw [← ey, Rat.divInt_mul_divInt, Int.one_mul]
  have E := beams_eq (S := Rat.divInt S 1) (X := Rat.divInt X 1) (Y := Rat.divInt Y 1) (cs_one nh) eC eS
  rw [ep, eq, ← sx, ← sy] at E
  obtain ⟨E1, E2, E3, E4, E5, E6, E7, E8⟩ := E
  refine Tot.bind (Tot.mono (Q' := (· = true)) ?_ (by rintro _ rfl; exact Tot.ret rfl))
  refine Tot.bind ⟨_, baseR_ok (p := _) (q := xx) E1 (by omega) ba, ?_⟩
  refine Tot.bind ⟨_, baseR_ok (p := _) (q := yy) E2 (by omega) bb, ?_⟩
  refine Tot.bind ⟨_, baseR_ok (p := _) (q := xx) E3 (by omega) be, ?_⟩
  refine Tot.bind ⟨_, baseR_ok (p := _) (q := yy) E4 (by omega) bf, ?_⟩
  refine Tot.bind (Tot.mono (OfR_ok (p := v.X) (q := v.D) (by omega) (by omega) (by omega)) ?_)
  rintro _ ⟨rfl, _⟩
  refine Tot.bind ⟨_, baseR_ok (p := _) (q := Rat.divInt v.X v.D) E5 (by omega) bg, ?_⟩
  refine Tot.bind (Tot.mono (OfR_ok (p := v.Y) (q := v.D) (by omega) (by omega) (by omega)) ?_)
  rintro _ ⟨rfl, _⟩
  refine Tot.bind ⟨_, baseR_ok (p := _) (q := Rat.divInt v.Y v.D) E6 (by omega) bh, ?_⟩
  refine Tot.bind ⟨_, baseR_ok (p := _) (q := pp) E7 (by omega) bi, ?_⟩
  exact Tot.bind ⟨_, baseR_ok (p := _) (q := qq) E8 (by omega) bj, Tot.ret rfl⟩
end Go.Proofs.YtcdboppghnchpaaDoor
