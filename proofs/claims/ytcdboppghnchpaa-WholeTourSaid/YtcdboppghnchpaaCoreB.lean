/-
  Verification conditions for the model of Go: general lemmas, no text of a program in them.
-/
import Derived.Test.YtcdboppghnchpaaCoreA
import Derived.Lib.AppendZerosOnto
import Derived.Lib.AppendStr
import Derived.Sort.Grow
import Derived.Lib.ConvBytes
import Derived.Lib.Builder
import Derived.Lib.UnsafeStr
import Derived.MapKept
import Derived.Sort.Defs
import Derived.Lib.BitFns
import Derived.Laws.CopyRow
namespace Go.Proofs.Ytcdboppghnchpaa.Gw
open Go Go.RowKit
/- ### A region that draws, of which one way alone is walked: its operations behind a name -/
section
variable {P : Program} {N : Nat} {ops : List Oper} {S : World → Prop} {m : FM} {w : World} {K : FM → World → Prop} {i j d : Nat} {o oj : Oper} {r : List (Nat × Bool)} {t : Bool}
section
variable {σ : Type} {E : FM → σ → Oper → (Value → σ → Prop) → Prop} {nx : FM → σ → (FM → σ → Prop) → Prop} {s : σ} {k : FM → σ → Prop} {want : Bool} {vs : Array Value}
end
variable {want : Bool} {vs : Array Value}
end
end Go.Proofs.Ytcdboppghnchpaa.Gw

namespace Go.Proofs.Ytcdboppghnchpaa.Gw
open Go Go.RowKit
/- ### An array of structs that is a value, read through its variable -/
section
variable {P : Program} {fm : FM} {o : Oper}
end
end Go.Proofs.Ytcdboppghnchpaa.Gw

namespace Go.Proofs.Ytcdboppghnchpaa.Gw
open Go Go.RowKit
/- ### append(s, make([]T, k)...) -/
section
variable {P : Program}
end
section
variable {P : Program} {c : Cx} {I : Nat → Prop} {m : List Ent} {w : World} {fm : FM} {o : Oper}
end
/- ### A row that a call takes and hands back, cut or not at all -/
section
variable {c : Cx} {I : Nat → Prop} {m : List Ent} {w : World}
end
section
variable {P : Program} {I : Nat → Prop} {w : World} {fm : FM} {o : Oper}
/-- An own slice cut at its end. -/
theorem ev_cutO {α : Type} {d : Desc α} {K : Value → World → Prop} {wz : World} {t T : TypeId} {x : Operand} {lo hi : Option Operand} {v : Value} {e : Ent} {kl kh : IntKind} {h : Int} {bytes : Nat} {z : Value} {agg : Bool} {xs ys : List α}
    (ho : o.op = .slice t x lo hi none) (hx : evm fm x = some v) (hlo : evo fm lo (.int kl 0) = some (.int kl 0)) (hhi : evo fm hi (.int kh xs.length) = some (.int kh h)) (ht : P.underlying t = some (.slice T)) (he : TI P T d.size bytes z agg)
    (hr : OwnS d T w I v e xs) (hc : cut xs 0 h = some ys) (k : ∀ u, OwnS d T w I u e ys → K u wz) : Ev P fm wz o K := by
  obtain ⟨h0, h1, h2, rfl⟩ := cut_some hc
  have hlen : ((xs.take h.toNat).drop (0 : Int).toNat).length = h.toNat := by simp; omega
  rcases hr with ⟨rfl, rfl, rfl⟩ | ⟨g, cs, n, rfl, rfl, h3, h4, h5, h7⟩
  · have hh0 : h = 0 := by simp at h2; omega
    subst hh0
    exact ev0 (rn_sliceV ho hx (Nat.le_refl _) hlo hhi ht he (by omega) (by omega) (by omega)) (k _ (.inl ⟨by simp, rfl, by simp⟩))
  · refine ev0 (rn_sliceV ho hx h3 hlo hhi ht he h0 h1 h2) (k _ (.inr ⟨g, cs, n, ?_, rfl, by rw [hlen]; omega, h4, h5, fun i u hu => ?_⟩))
    · rw [hlen]
      by_cases e0 : n = (0 : Int).toNat
      · rw [if_pos e0]; simp
      · rw [if_neg e0]; simp [add_lit]
    · have hu' : (xs.take h.toNat)[i]? = some u := by simpa using hu
      rw [List.getElem?_take] at hu'
      split at hu'
      · exact h7 i u hu'
      · cases hu'
end
end Go.Proofs.Ytcdboppghnchpaa.Gw

namespace Go.Proofs.Ytcdboppghnchpaa.Gw
open Go Go.RowKit
/- ### Several own rows lent to a call -/
/-- The blocks of entries. -/
def blks : List Ent → List Nat
  | [] => []
  | e :: l => blk e ++ blks l
theorem mem_blks {g : Nat} : ∀ {m : List Ent}, g ∈ blks m ↔ ∃ (i : Nat) (cs : List Value) (t : TypeId), m[i]? = some (some (g, cs, t))
  | [] => by simp [blks]
  | e :: l => by
    simp only [blks, List.mem_append, mem_blks (m := l)]
    constructor
    · rintro (h | ⟨i, cs, t, h⟩)
      · cases e with
        | none => cases h
        | some e => obtain ⟨a, b, c⟩ := e; simp only [blk, List.mem_singleton] at h; subst h; exact ⟨0, b, c, rfl⟩
      · exact ⟨i + 1, cs, t, by simpa using h⟩
    · rintro ⟨i, cs, t, h⟩
      cases i with
      | zero => simp only [List.getElem?_cons_zero, Option.some.injEq] at h; subst h; exact .inl (by simp [blk])
      | succ i => exact .inr ⟨i, cs, t, by simpa using h⟩
section
variable {c : Cx} {I : Nat → Prop} {m : List Ent} {w : World}
theorem Hp.lendL (h : Hp c I m w) (l : List Nat) (hl : l.Nodup) : Hp ⟨w, I, blks (pickE m l)⟩ I (pickE m l) w := by
  have hp := h.perm l hl
  exact ⟨Ch.refl _ _, h.imm, fun g hg => .inl hg, Stp.refl _ _, fun i g cs t hi => ⟨(hp.own i g cs t hi).1, (hp.own i g cs t hi).2.1, .inr (mem_blks.2 ⟨i, cs, t, hi⟩)⟩, hp.inj⟩
theorem Hp.backL (h : Hp c I m w) (l r : List Nat) (hlr : (l ++ r).Nodup) {I' : Nat → Prop} {nw : List Ent} {w' : World} (k : Hp ⟨w, I, blks (pickE m l)⟩ I' nw w') : Hp c I' (nw ++ pickE m r) w' := by
  have hch : Ch (blks (pickE m l)) w w' := k.ch
  have hlt : ∀ g, g ∈ blks (pickE m l) → ∃ (j : Nat) (cs : List Value) (t : TypeId), j ∈ l ∧ m[j]? = some (some (g, cs, t)) := by
    intro g hg
    obtain ⟨i, cs, t, hi⟩ := mem_blks.1 hg
    obtain ⟨j, hj, hm⟩ := pickE_get m l i _ hi
    exact ⟨j, cs, t, List.mem_of_getElem? hj, hm⟩
  have hr := h.perm r (List.nodup_append.1 hlr).2.1
  have hrr : ∀ (i g : Nat) (cs : List Value) (t : TypeId), (pickE m r)[i]? = some (some (g, cs, t)) → g ∉ blks (pickE m l) := by
    intro i g cs t hi hg
    obtain ⟨j, cs', t', hj, hm⟩ := hlt g hg
    obtain ⟨k, hk, hm'⟩ := pickE_get m r i _ hi
    have := h.inj j k g _ _ _ _ hm hm'
    subst this
    exact (List.nodup_append.1 hlr).2.2 j hj j (List.mem_of_getElem? hk) rfl
  have hnw : ∀ (i g : Nat) (cs : List Value) (t : TypeId), nw[i]? = some (some (g, cs, t)) → w.heap.size ≤ g ∨ g ∈ blks (pickE m l) := fun i g cs t hi => (k.own i g cs t hi).2.2
  have old : ∀ (i g : Nat) (cs : List Value) (t : TypeId), (nw ++ pickE m r)[i]? = some (some (g, cs, t)) → nw[i]? = some (some (g, cs, t)) ∨ (nw.length ≤ i ∧ (pickE m r)[i - nw.length]? = some (some (g, cs, t))) := by
    intro i g cs t hi
    rcases Nat.lt_or_ge i nw.length with hlt | hge
    · rw [List.getElem?_append_left hlt] at hi; exact .inl hi
    · rw [List.getElem?_append_right hge] at hi; exact .inr ⟨hge, hi⟩
  refine ⟨⟨Nat.le_trans h.ch.drawn hch.drawn, hch.os.trans h.ch.os, hch.tape.trans h.ch.tape, hch.output.trans h.ch.output, Nat.le_trans h.ch.size hch.size, fun g hg hn => ?_⟩, k.imm, fun g hg => ?_, h.st.trans k.st, ?_, ?_⟩
  · rw [hch.old g (Nat.lt_of_lt_of_le hg h.ch.size) (fun hb => by
      obtain ⟨j, cs, t, _, hm⟩ := hlt g hb
      rcases (h.own j g cs t hm).2.2 with h0 | h0
      · omega
      · exact hn h0)]
    exact h.ch.old g hg hn
  · rcases k.lim g hg with h0 | h0 | h0
    · exact h.lim g h0
    · exact .inr (.inl (Nat.le_trans h.ch.size h0))
    · obtain ⟨j, cs, t, _, hm⟩ := hlt g h0
      exact .inr (h.own j g cs t hm).2.2
  · intro i g cs t hi
    rcases old i g cs t hi with h1 | ⟨_, h1⟩
    · refine ⟨(k.own i g cs t h1).1, (k.own i g cs t h1).2.1, ?_⟩
      rcases hnw i g cs t h1 with h2 | h2
      · exact .inl (Nat.le_trans h.ch.size h2)
      · obtain ⟨j, cs', t', _, hm⟩ := hlt g h2
        exact (h.own j g cs' t' hm).2.2
    · have ho := hr.own _ g cs t h1
      refine ⟨(hch.old g (hr.lt h1) (hrr _ g cs t h1)).trans ho.1, fun hI => ?_, ho.2.2⟩
      rcases k.lim g hI with h2 | h2 | h2
      · exact ho.2.1 h2
      · have h2 : w.heap.size ≤ g := h2
        have := hr.lt h1; omega
      · exact hrr _ g cs t h1 h2
  · intro i j g cs cs' t t' hi hj
    rcases old i g cs t hi with h1 | ⟨h0, h1⟩ <;> rcases old j g cs' t' hj with h3 | ⟨h2, h3⟩
    · exact k.inj i j g cs cs' t t' h1 h3
    · rcases hnw i g cs t h1 with h4 | h4
      · have := hr.lt h3; omega
      · exact absurd h4 (hrr _ g _ _ h3)
    · rcases hnw j g cs' t' h3 with h4 | h4
      · have := hr.lt h1; omega
      · exact absurd h4 (hrr _ g _ _ h1)
    · have := hr.inj _ _ g cs cs' t t' h1 h3; omega
end
/- ### Places among cells, segment by segment -/
section
variable {P : Program} {c : Cx} {I : Nat → Prop} {m : List Ent} {w : World} {fm : FM} {o : Oper}
/- ### Pointers held against nil -/
end
section
variable {P : Program} {c : Cx} {I : Nat → Prop} {m : List Ent} {w : World} {fm : FM} {o : Oper}
end
/- ### Data in blocks from N on alone; an own row that a call reads for a while -/
def RepF {α : Type} (d : Desc α) (N : Nat) (w : World) (I : Nat → Prop) (v : Value) (xs : List α) : Prop := RepS d w (fun g => I g ∧ N ≤ g) v xs
theorem RepF.step {α : Type} {d : Desc α} {N : Nat} {w w' : World} {I I' : Nat → Prop} {v : Value} {xs : List α} (h : RepF d N w I v xs) (k : Stp I w I' w') : RepF d N w' I' v xs :=
  RepS.step h fun g hg => ⟨⟨(k g hg.1).1, hg.2⟩, (k g hg.1).2⟩
theorem RepF.imm {α : Type} {d : Desc α} {N : Nat} {w : World} {I : Nat → Prop} {v : Value} {xs : List α} (h : RepF d N w I v xs) : RepS d w I v xs := RepS.step h fun _ hg => ⟨hg.1, rfl⟩
theorem RepF.mono {α : Type} {d : Desc α} {M N : Nat} {w : World} {I : Nat → Prop} {v : Value} {xs : List α} (h : RepF d N w I v xs) (k : M ≤ N) : RepF d M w I v xs := RepS.step h fun _ hg => ⟨⟨hg.1, Nat.le_trans k hg.2⟩, rfl⟩
theorem RepF.nil {α : Type} {d : Desc α} {N : Nat} {w : World} {I : Nat → Prop} : RepF d N w I (.slice none 0 0) [] := RepS.nil _ _ _
section
variable {c : Cx} {I : Nat → Prop} {m : List Ent} {w : World}
end
end Go.Proofs.Ytcdboppghnchpaa.Gw

namespace Go.Proofs.Ytcdboppghnchpaa.Gw
open Go Go.RowKit
/- ### Data of a type that is in itself -/
/-- The same up to a number of levels. -/
structure RdB (N : Nat) (P : Program) (t : TypeId) {α : Type} (d : Desc α) (inv : α → Prop) : Prop where
  out : ∀ {H : Type} (enc : TypeId × Value → H) (w : World) (base : Nat) (sp : Nat → Bool) (held : Bool) (fuel : Nat) (cs : List Value) (x : DataW H × List MemPlace), fuel ≤ N →
    DataW.trod enc P w base sp held fuel t cs = some x → ∃ y, d.rep w (Bl w) cs y ∧ inv y
theorem Rd.b {N : Nat} {P : Program} {t : TypeId} {α : Type} {d : Desc α} {inv : α → Prop} (h : Rd P t d inv) : RdB N P t d inv := ⟨fun enc w base sp held fuel cs x _ hx => h.out enc w base sp held fuel cs x hx⟩
theorem RdB.mono {N : Nat} {P : Program} {t : TypeId} {α : Type} {d d' : Desc α} {inv inv' : α → Prop} (h : RdB N P t d inv) (hd : ∀ w I cs y, d.rep w I cs y → d'.rep w I cs y) (k : ∀ y, inv y → inv' y) : RdB N P t d' inv' :=
  ⟨fun enc w base sp held fuel cs x hN hx => let ⟨y, hr, hi⟩ := h.out enc w base sp held fuel cs x hN hx; ⟨y, hd _ _ _ _ hr, k y hi⟩⟩
theorem RdB.slice {P : Program} {t e : TypeId} {α : Type} {d : Desc α} {inv : α → Prop} {N : Nat} (ht : P.underlying t = some (.slice e)) (he : P.cellsOf e = d.size) (h0 : 0 < d.size) (h : RdB N P e d inv) :
    RdB (N + 1) P t (dSl d) (fun xs => xs.length ≤ maxLen ∧ ∀ x ∈ xs, inv x) := by
  constructor
  intro H enc w base sp held fuel cs x hf hx
  rcases DataW.trod_slice ht hx with ⟨rfl, _⟩ | ⟨a, len, cap, elems, rest, n, hn, rfl, _, hb, hl, hc, hlen, hel, _⟩
  · exact ⟨[], ⟨_, rfl, RepS.nil _ _ _⟩, by simp, by simp⟩
  have key : ∀ i, i < len → ∃ y, (∃ cs', d.rep w (Bl w) cs' y ∧ At w (Bl w) (a.add (i * d.size)) cs') ∧ inv y := by
    intro i hi
    have h1 := hel i hi
    have hi' : i < elems.length := by omega
    rw [List.getElem?_eq_getElem hi'] at h1
    obtain ⟨cs', hcs, htr⟩ := Option.bind_eq_some_iff.1 h1
    obtain ⟨y, hr, hi⟩ := h.out enc w base sp held n cs' _ (by omega) htr
    obtain ⟨_, hlc, hcell⟩ := World.cells?_some hcs
    rw [he] at hcell hlc
    refine ⟨y, ⟨cs', hr, ?_, fun j v hv => ?_⟩, hi⟩
    · have := hcell 0 h0
      rw [List.getElem?_eq_getElem (by omega)] at this
      have := cell_block this
      rwa [add_block] at this
    · have hj : j < cs'.length := (List.getElem?_eq_some_iff.1 hv).1
      rw [hcell j (by omega)]; exact hv
  obtain ⟨ys, hyl, hy⟩ := choose_list key
  refine ⟨ys, ⟨_, rfl, some a, cap, by rw [hyl], by omega, fun hpos => ⟨a, rfl, ?_, fun i x hx => (hy i x hx).1⟩⟩, by simp only [maxLen] at hc ⊢; omega, fun x hx => ?_⟩
  · obtain ⟨cs', hr, ha⟩ := (hy 0 ys[0] (List.getElem?_eq_getElem hpos)).1
    have := ha.1
    rwa [add_block] at this
  · obtain ⟨i, hi, rfl⟩ := List.getElem_of_mem hx
    exact (hy i _ (List.getElem?_eq_getElem hi)).2

/-- Fields, one behind the other, up to a number of levels. -/
structure RdFB (N : Nat) (P : Program) (fl : List Field) (off : Nat) {α : Type} (d : Desc α) (inv : α → Prop) : Prop where
  out : ∀ {H : Type} (enc : TypeId × Value → H) (w : World) (base : Nat) (sp : Nat → Bool) (held : Bool) (fuel : Nat) (cs : List Value), fuel ≤ N → cs.length = off + d.size →
    (∀ f ∈ fl, ∃ x, DataW.trod enc P w base sp held fuel f.type ((cs.drop f.offset).take (P.cellsOf f.type)) = some x) → ∃ y, d.rep w (Bl w) (cs.drop off) y ∧ inv y
theorem RdFB.one {N : Nat} {P : Program} {f : Field} {off : Nat} {α : Type} {d : Desc α} {inv : α → Prop} (ho : f.offset = off) (hc : P.cellsOf f.type = d.size) (h : RdB N P f.type d inv) : RdFB N P [f] off d inv := by
  constructor
  intro H enc w base sp held fuel cs hN hl hf
  obtain ⟨x, hx⟩ := hf f (by simp)
  rw [ho, hc, List.take_of_length_le (by simp; omega)] at hx
  exact h.out enc w base sp held fuel _ x hN hx
theorem RdFB.cons {N : Nat} {P : Program} {f : Field} {fl : List Field} {off : Nat} {α β : Type} {d : Desc α} {d' : Desc β} {inv : α → Prop} {inv' : β → Prop} (ho : f.offset = off) (hc : P.cellsOf f.type = d.size) (h : RdB N P f.type d inv)
    (k : RdFB N P fl (off + d.size) d' inv') : RdFB N P (f :: fl) off (dP d d') (fun x => inv x.1 ∧ inv' x.2) := by
  constructor
  intro H enc w base sp held fuel cs hN hl hf
  have hl' : cs.length = off + (d.size + d'.size) := hl
  obtain ⟨x, hx⟩ := hf f (by simp)
  rw [ho, hc] at hx
  obtain ⟨y, hy, hi⟩ := h.out enc w base sp held fuel _ x hN hx
  obtain ⟨z, hz, hj⟩ := k.out enc w base sp held fuel cs hN (by omega) (fun g hg => hf g (by simp [hg]))
  exact ⟨(y, z), ⟨_, _, by rw [← List.drop_drop, List.take_append_drop], hy, hz⟩, hi, hj⟩
theorem RdB.struct {N : Nat} {P : Program} {t : TypeId} {fs : Array Field} {α : Type} {d : Desc α} {inv : α → Prop} (ht : P.underlying t = some (.struct fs)) (hc : P.cellsOf t = d.size) (h : RdFB N P fs.toList 0 d inv) : RdB (N + 1) P t d inv := by
  constructor
  intro H enc w base sp held fuel cs x hN hx
  obtain ⟨xs, n, hn, _, hl, hlen, hf⟩ := DataW.trod_struct ht hx
  have := h.out enc w base sp held n cs (by omega) (by omega) (fun f hfm => by
    obtain ⟨i, hi, rfl⟩ := List.getElem_of_mem hfm
    have hi' : i < fs.size := by simpa using hi
    have := hf i fs[i] (Array.getElem?_eq_getElem hi')
    rw [List.getElem?_eq_getElem (by omega)] at this
    exact ⟨_, this⟩)
  simpa using this
theorem RdB.view {N : Nat} {P : Program} {t : TypeId} {α β : Type} {d : Desc α} {inv : α → Prop} {f : β → α} (g : α → β) (hg : ∀ a, f (g a) = a) (h : RdB N P t d inv) : RdB N P t (dV f d) (fun y => inv (f y)) := by
  constructor
  intro H enc w base sp held fuel cs x hN hx
  obtain ⟨y, hy, hi⟩ := h.out enc w base sp held fuel cs x hN hx
  exact ⟨g y, by show d.rep _ _ _ (f (g y)); rw [hg]; exact hy, by show inv (f (g y)); rw [hg]; exact hi⟩

end Go.Proofs.Ytcdboppghnchpaa.Gw

namespace Go.Proofs.Ytcdboppghnchpaa.Gw
open Go Go.RowKit
section
variable {c : Cx} {I : Nat → Prop} {m : List Ent} {w : World}
end
/- ### Rows whose elements hold own slices -/
section
variable {c : Cx} {I : Nat → Prop} {w : World}
end
end Go.Proofs.Ytcdboppghnchpaa.Gw

namespace Go.Proofs.Ytcdboppghnchpaa.Gw
open Go Go.RowKit
/- ### An array that is built of all its elements -/
section
variable {P : Program} {fm : FM} {o : Oper} {w : World}
theorem rn_buildA {t e n : TypeId} {ps : List (Nat × Operand)} {vs : List (Nat × Value)} {size bytes s2 b2 : Nat} {z z2 : Value} {agg a2 : Bool} {cs : List Value} (ho : o.op = .build t ps.toArray) (hx : evps fm ps = some vs) (ht : TI P t size bytes z agg)
    (hu : P.underlying t = some (.array n e)) (he : TI P e s2 b2 z2 a2) (hc : Instr.fill (fun i => some (i * s2, s2)) z.cells vs = some cs.toArray) : Rn P fm w o (.agg cs.toArray) := by
  intro a N hf
  have e1 : (ps.toArray.map fun x => (x.1, a.eval x.2)).toList = vs := by rw [Array.toList_map]; exact evps_map hf hx
  simp only [execOp, ho, Sem.run_bind, Instr.build, run_zeroValue ht, run_underlying hu, run_sizeOf he, Result.andThen_ok, e1, hc, Sem.run_pure]
end
end Go.Proofs.Ytcdboppghnchpaa.Gw

namespace Go.Proofs.Ytcdboppghnchpaa.Gw
open Go Go.RowKit
set_option linter.unusedVariables false
section
variable {c : Cx} {I : Nat → Prop} {m : List Ent} {w : World}
theorem Hp.kc (h : Hp c I m w) (i : Nat) {e0 : Nat × List Value × TypeId} (hi : m[i]? = some (some e0)) {K : List (Nat × List Value × TypeId)} {js0 : List Nat} {J : List (List Nat)} {L : Array Bool}
    (t : ∀ (p : Nat) (e : Nat × List Value × TypeId) (js : List Nat), K[p]? = some e → J[p]? = some js → (js.all fun j => !L.getD j true) = true → w.heap[e.1]? = some (.cells e.2.1.toArray e.2.2 (0, 0))) :
    ∀ (p : Nat) (e : Nat × List Value × TypeId) (js : List Nat), (e0 :: K)[p]? = some e → (js0 :: J)[p]? = some js → (js.all fun j => !L.getD j true) = true → w.heap[e.1]? = some (.cells e.2.1.toArray e.2.2 (0, 0)) :=
  kp_cons (fun _ => (h.own i e0.1 e0.2.1 e0.2.2 hi).1) t
end
end Go.Proofs.Ytcdboppghnchpaa.Gw


namespace Go.Proofs.Ytcdboppghnchpaa.Gw
open Go Go.RowKit
section
variable {P : Program} {c : Cx} {I : Nat → Prop} {m : List Ent} {w : World} {fm : FM} {o : Oper}

/- ### append of a string's bytes -/
/- ### a pointer that is nil or leads to its own box -/
def SelfP (g : Nat) (v : Value) : Prop := v = .pointer none ∨ v = .pointer (some ⟨g, 0, none⟩)
theorem SelfP.one {g : Nat} {v : Value} (h : SelfP g v) : v.oneCell' = true := by rcases h with rfl | rfl <;> rfl
/- ### what a builder holds, as a string -/
/- ### worlds that the library leaves -/
end
end Go.Proofs.Ytcdboppghnchpaa.Gw

namespace Go.Proofs.Ytcdboppghnchpaa.Gw
open Go Go.RowKit
/- ### A slice that is lent to be read -/
end Go.Proofs.Ytcdboppghnchpaa.Gw

namespace Go.Proofs.Ytcdboppghnchpaa.Gw
open Go Go.RowKit
set_option linter.unusedVariables false

/- ### A map's block may turn -/
def isMp (o : Option Obj) : Prop := ∃ es c, o = some (.map es c)
/-- From here to there a map's block has turned, and nothing else. -/
def Wk (I : Nat → Prop) (w w' : World) : Prop := ∀ g, I g → w'.heap[g]? = w.heap[g]? ∨ (isMp w.heap[g]? ∧ isMp w'.heap[g]?)
theorem Wk.cell {I : Nat → Prop} {w w' : World} (h : Wk I w w') {a : Addr} (ha : I a.block) : w'.cell? a = w.cell? a := by
  rcases h _ ha with h | ⟨⟨es, c, h1⟩, es', c', h2⟩
  · exact World.cell?_of_block h
  · unfold World.cell?; rw [h1, h2]
theorem At.wk {w w' : World} {I : Nat → Prop} {p : Addr} {cs : List Value} (h : At w I p cs) (k : Wk I w w') : At w' I p cs :=
  ⟨h.1, fun j v hv => by rw [k.cell (by rw [add_block]; exact h.1)]; exact h.2 j v hv⟩
/-- Data that outlive the turning of a map. -/
class WkD {α : Type} (d : Desc α) : Prop where
  wk : ∀ {w w' : World} {I : Nat → Prop} {cs : List Value} {x : α}, d.rep w I cs x → Wk I w w' → d.rep w' I cs x
instance {k : IntKind} : WkD (dI k) := ⟨fun h _ => h⟩
instance : WkD dB := ⟨fun h _ => h⟩
instance : WkD dS := ⟨fun h _ => h⟩
instance : WkD dU := ⟨fun h _ => h⟩
instance {α β : Type} {a : Desc α} {b : Desc β} [WkD a] [WkD b] : WkD (dP a b) := ⟨fun ⟨c, d, e, h, k⟩ s => ⟨c, d, e, WkD.wk h s, WkD.wk k s⟩⟩
instance {α β : Type} {f : β → α} {a : Desc α} [WkD a] : WkD (dV f a) := ⟨fun h s => WkD.wk (d := a) h s⟩
theorem Row.wk {α : Type} {d : Desc α} [WkD d] {w w' : World} {I : Nat → Prop} {p : Addr} {xs : List α} (h : Row d w I p xs) (k : Wk I w w') : Row d w' I p xs :=
  ⟨h.1, fun i x hx => let ⟨cs, hr, ha⟩ := h.2 i x hx; ⟨cs, WkD.wk hr k, ha.wk k⟩⟩
theorem RepS.wk {α : Type} {d : Desc α} [WkD d] {w w' : World} {I : Nat → Prop} {v : Value} {xs : List α} (h : RepS d w I v xs) (k : Wk I w w') : RepS d w' I v xs := by
  obtain ⟨a, c, hv, hc, h⟩ := h
  exact ⟨a, c, hv, hc, fun h0 => let ⟨p, e, r⟩ := h h0; ⟨p, e, r.wk k⟩⟩
instance {α : Type} {d : Desc α} [WkD d] : WkD (dSl d) := ⟨fun ⟨v, e, h⟩ k => ⟨v, e, RepS.wk h k⟩⟩
instance {α : Type} {n : Nat} {d : Desc α} [WkD d] : WkD (dA n d) := ⟨fun ⟨h1, h2, h3⟩ k => ⟨h1, h2, fun i x hx => WkD.wk (h3 i x hx) k⟩⟩
theorem Desc.rep.wk {α : Type} {d : Desc α} [WkD d] {w w' : World} {I : Nat → Prop} {cs : List Value} {x : α} (h : d.rep w I cs x) (k : Wk I w w') : d.rep w' I cs x := WkD.wk h k
theorem OwnS.wk {α : Type} {d : Desc α} [WkD d] {T : TypeId} {w w' : World} {I : Nat → Prop} {v : Value} {e : Ent} {xs : List α} (h : OwnS d T w I v e xs) (k : Wk I w w') : OwnS d T w' I v e xs := by
  rcases h with h | ⟨g, cs, n, h1, h2, h3, h4, h5, h7⟩
  · exact .inl h
  · exact .inr ⟨g, cs, n, h1, h2, h3, h4, h5, fun i x hx => WkD.wk (h7 i x hx) k⟩

theorem map_modify_set {α β : Type} (f : α → α) (g : α → β) (b : β) (h : ∀ x, g (f x) = b) : ∀ (l : List α) (j : Nat), (l.modify j f).map g = (l.map g).set j b
  | [], j => by cases j <;> rfl
  | x :: l, 0 => by simp [h]
  | x :: l, j + 1 => by simp [map_modify_set f g b h l j]
theorem map_erase {α β : Type} (g : α → β) : ∀ (l : List α) (j : Nat), (l.eraseIdx j).map g = (l.map g).eraseIdx j
  | [], j => rfl
  | x :: l, 0 => rfl
  | x :: l, j + 1 => by simp [map_erase g l j]
/- ### Maps as lists of pairs -/
def mget {K V : Type} (eq : K → K → Bool) (k : K) : List (K × V) → Option V
  | [] => none
  | (a, v) :: r => bif eq k a then some v else mget eq k r
def mput {K V : Type} (eq : K → K → Bool) (k : K) (x : V) : List (K × V) → List (K × V)
  | [] => [(k, x)]
  | (a, v) :: r => bif eq k a then (k, x) :: r else (a, v) :: mput eq k x r
def mdel {K V : Type} (eq : K → K → Bool) (k : K) : List (K × V) → List (K × V)
  | [] => []
  | (a, v) :: r => bif eq k a then r else (a, v) :: mdel eq k r
section
variable {K V : Type} {kc : K → Value} {vc : V → Value} {eq : K → K → Bool} {P : Program} {c : Cx} {I I' : Nat → Prop} {m : List Ent} {w w' : World} {fm : FM} {o : Oper}
/-- What a map of the function's own holds: in the order of its entries. -/
structure MapAt (kc : K → Value) (vc : V → Value) (c : Cx) (w : World) (I : Nat → Prop) (g : Nat) (xs : List (K × V)) : Prop where
  rd : I g
  nw : c.w0.heap.size ≤ g
  at_ : ∃ es clock, w.heap[g]? = some (.map es clock) ∧ es.toList.map (fun e => (e.key, e.val)) = xs.map fun x => (kc x.1, vc x.2)
theorem MapAt.step {g : Nat} {xs : List (K × V)} (h : MapAt kc vc c w I g xs) (k : Stp I w I' w') : MapAt kc vc c w' I' g xs :=
  ⟨(k g h.rd).1, h.nw, by rw [(k g h.rd).2]; exact h.at_⟩
/-- A type of keys. -/
structure KeyT (P : Program) (kt : TypeId) (kc : K → Value) (eq : K → K → Bool) : Prop where
  chk : ∀ (b : Bool) (k : K) (w : World), (Instr.checkKey b 10000 kt (kc k)).run P w = .ok () w
  cmp : ∀ (k k' : K) (w : World), (Op.equal kt (kc k) (kc k')).run P w = .ok (eq k k') w
  same : ∀ k k', eq k k' = true → k = k'
  bits : ∀ k, Instr.sameBits 10000 (kc k) (kc k) = true
  desc : ∃ d, P.underlying kt = some d ∧ ∀ k k', Instr.sameNow d (kc k) (kc k') = none
/-- Where a key stands. -/
def mfind (eq : K → K → Bool) (k : K) : List (K × V) → Nat → Option (Nat × V)
  | [], _ => none
  | (a, v) :: r, i => bif eq k a then some (i, v) else mfind eq k r (i + 1)
theorem mfind_get (k : K) : ∀ (xs : List (K × V)) (i : Nat), (mfind eq k xs i).map (·.2) = mget eq k xs
  | [], _ => rfl
  | (a, v) :: r, i => by
    simp only [mfind, mget]
    cases eq k a
    · exact mfind_get k r (i + 1)
    · rfl
theorem mfind_none (k : K) : ∀ (xs : List (K × V)) (i : Nat), mfind eq k xs i = none → (∀ x, mput eq k x xs = xs ++ [(k, x)]) ∧ mdel eq k xs = xs
  | [], _, _ => ⟨fun _ => rfl, rfl⟩
  | (a, v) :: r, i, h => by
    simp only [mfind] at h
    cases hk : eq k a
    · rw [hk] at h
      obtain ⟨h1, h2⟩ := mfind_none k r (i + 1) h
      simp only [mput, mdel, hk, cond_false, List.cons_append]
      exact ⟨fun x => by rw [h1], by rw [h2]⟩
    · rw [hk] at h; cases h
theorem mfind_some (k : K) : ∀ (xs : List (K × V)) (i j : Nat) (v : V), mfind eq k xs i = some (j, v) → ∃ n a, j = i + n ∧ xs[n]? = some (a, v) ∧ eq k a = true ∧ (∀ x, mput eq k x xs = xs.set n (k, x)) ∧ mdel eq k xs = xs.eraseIdx n
  | [], _, _, _, h => by cases h
  | (a, v) :: r, i, j, u, h => by
    simp only [mfind] at h
    cases hk : eq k a
    · rw [hk] at h
      obtain ⟨n, b, h1, h2, h3, h4, h5⟩ := mfind_some k r (i + 1) j u h
      refine ⟨n + 1, b, by omega, by simpa using h2, h3, fun x => ?_, ?_⟩
      · simp only [mput, hk, cond_false, List.set_cons_succ, h4]
      · simp only [mdel, hk, cond_false, List.eraseIdx_cons_succ, h5]
    · rw [hk] at h
      simp only [cond_true, Option.some.injEq, Prod.mk.injEq] at h
      obtain ⟨rfl, rfl⟩ := h
      exact ⟨0, a, rfl, rfl, hk, fun x => by simp [mput, hk], by simp [mdel, hk]⟩
theorem run_findAsking {kt : TypeId} (T : KeyT P kt kc eq) (k : K) : ∀ (es : List MapEntry) (xs : List (K × V)) (i : Nat), es.map (fun e => (e.key, e.val)) = xs.map (fun x => (kc x.1, vc x.2)) →
    (Instr.findAsking kt (kc k) es i).run P w = .ok ((mfind eq k xs i).map fun x => (x.1, vc x.2)) w
  | [], xs, i, h => by
    cases xs with
    | nil => rfl
    | cons x xs => simp at h
  | e :: es, xs, i, h => by
    cases xs with
    | nil => simp at h
    | cons x xs =>
      obtain ⟨a, v⟩ := x
      simp only [List.map_cons, List.cons.injEq, Prod.mk.injEq] at h
      obtain ⟨⟨h1, h2⟩, h3⟩ := h
      simp only [Instr.findAsking, Sem.run_bind, h1, T.cmp, Result.andThen_ok, mfind]
      cases eq k a
      · simpa using run_findAsking T k es xs (i + 1) h3
      · simp [h2]
theorem run_findKey' {kt : TypeId} (T : KeyT P kt kc eq) (k : K) (es : List MapEntry) (xs : List (K × V)) (h : es.map (fun e => (e.key, e.val)) = xs.map (fun x => (kc x.1, vc x.2))) :
    (Instr.findKey kt (kc k) es).run P w = .ok ((mfind eq k xs 0).map fun x => (x.1, vc x.2)) w := by
  obtain ⟨d, hd, hs⟩ := T.desc
  cases es with
  | nil =>
    cases xs with
    | nil => simp [Instr.findKey, run_underlying hd, Instr.findNow, mfind]
    | cons x xs => simp at h
  | cons e es =>
    cases xs with
    | nil => simp at h
    | cons x xs =>
      have h1 : e.key = kc x.1 := by simp only [List.map_cons, List.cons.injEq, Prod.mk.injEq] at h; exact h.1.1
      have hn : Instr.findNow d (kc k) (e :: es) 0 = none := by simp only [Instr.findNow, h1, hs]
      simp only [Instr.findKey, Sem.run_bind, run_underlying hd, Result.andThen_ok, hn]
      exact run_findAsking T k _ _ _ h
/-- make(map[K]V) -/
theorem ev_makeMap {Q : Value → World → Prop} {t : TypeId} (hp : Hp c I m w) (ho : o.op = .makeMap t none)
    (k : ∀ g I' w', Hp c I' m w' → Stp I w I' w' → MapAt kc vc c w' I' g [] → Q (.map (some g)) w') : Ev P fm w o Q := by
  intro a N hf K' R hk
  have hr : (execOp a.eval o).run P w = .ok (.value (.map (some w.heap.size))) (w.alloc (.map #[] 0)) := by
    simp [execOp, ho, Instr.makeMap]
  unfold Oper.wp
  rw [hr]
  have hch := Ch.alloc [] w (.map #[] 0)
  refine hk _ _ (k _ _ _ (hp.extU hch) (hp.stpU hch) ⟨.inr ⟨Nat.le_refl _, by simp⟩, hp.ch.size, #[], 0, ?_, rfl⟩)
  exact (MapKept.heap_alloc w _).1
theorem rn_lookup {g : Nat} {t kt e : TypeId} {x y : Operand} {xs : List (K × V)} {k : K} {v0 : V} {size bytes : Nat} {agg : Bool} {z : Value} (ho : o.op = .lookup t x y false) (hx : evm fm x = some (.map (some g))) (hy : evm fm y = some (kc k))
    (ht : P.underlying t = some (.map kt e)) (T : KeyT P kt kc eq) (he : TI P e size bytes z agg) (hz : z = vc v0) (h : MapAt kc vc c w I g xs) : Rn P fm w o (vc ((mget eq k xs).getD v0)) := by
  obtain ⟨es, clock, hb, hes⟩ := h.at_
  intro a N hf
  have hf1 := run_findKey' (w := w) T k es.toList xs hes
  rw [← mfind_get (i := 0)]
  simp only [execOp, ho, hf.ev hx, hf.ev hy, Instr.lookup, Sem.run_bind, run_underlying ht, Result.andThen_ok, MapKept.run_getObj_map hb, Sem.run_pure, T.chk, hf1]
  cases hm : mfind eq k xs 0 with
  | none => simp [run_zeroValue he, hz]
  | some r => simp
/-- What a map's own block has become. -/
theorem Hp.mapTo (hp : Hp c I m w) {g : Nat} {es es' : Array MapEntry} {clock clock' : Nat} (hI : I g) (hn : c.w0.heap.size ≤ g) (hb : w.heap[g]? = some (.map es clock)) :
    Hp c I m { w with heap := w.heap.setIfInBounds g (.map es' clock') } ∧ Wk I w { w with heap := w.heap.setIfInBounds g (.map es' clock') } ∧ (w.heap.setIfInBounds g (.map es' clock'))[g]? = some (.map es' clock') := by
  obtain ⟨h1, h2⟩ := MapKept.heap_set (o' := .map es' clock') hb
  refine ⟨⟨⟨hp.ch.drawn, hp.ch.os, hp.ch.tape, hp.ch.output, ?_, fun k hk hB => ?_⟩, fun k hk => ?_, hp.lim, fun k hk => ?_, fun i k cs t hi => ?_, hp.inj⟩, fun k hk => ?_, h1⟩
  · simpa using hp.ch.size
  · rw [← hp.ch.old k hk hB]; exact h2 k (by omega)
  · simpa using hp.imm k hk
  · obtain ⟨a, b⟩ := hp.st k hk
    refine ⟨a, ?_⟩
    have : k ≠ g := by
      rintro rfl
      rw [hb] at b
      rw [Array.getElem?_eq_none hn] at b
      cases b
    rw [← b]; exact h2 k this
  · obtain ⟨a, b, d⟩ := hp.own i k cs t hi
    have : k ≠ g := by rintro rfl; exact b hI
    exact ⟨by rw [← a]; exact h2 k this, b, d⟩
  · by_cases e : k = g
    · subst e; exact .inr ⟨⟨_, _, hb⟩, _, _, h1⟩
    · exact .inl (h2 k e)
theorem run_mapUpdate {g : Nat} {t kt e : TypeId} {xs : List (K × V)} {k : K} {v : V} (hp : Hp c I m w) (ht : P.underlying t = some (.map kt e)) (T : KeyT P kt kc eq) (h : MapAt kc vc c w I g xs) :
    ∃ w', (Instr.mapUpdate t (.map (some g)) (kc k) (vc v)).run P w = .ok () w' ∧ Hp c I m w' ∧ Wk I w w' ∧ MapAt kc vc c w' I g (mput eq k v xs) := by
  obtain ⟨es, clock, hb, hes⟩ := h.at_
  have hf1 := run_findKey' (w := w) T k es.toList xs hes
  cases hm : mfind eq k xs 0 with
  | none =>
    rw [hm] at hf1
    obtain ⟨h1, h2, h3⟩ := hp.mapTo (es' := es.push { key := kc k, val := vc v, born := clock }) (clock' := clock + 1) h.rd h.nw hb
    refine ⟨_, ?_, h1, h2, h.rd, h.nw, _, _, h3, ?_⟩
    · simp only [Instr.mapUpdate, Sem.run_bind, run_underlying ht, Result.andThen_ok, MapKept.run_getObj_map hb, T.chk, hf1, Option.map_none]
      exact MapKept.run_setObj_map _ hb
    · rw [(mfind_none k xs 0 hm).1]; simp [hes]
  | some r =>
    obtain ⟨j, u⟩ := r
    rw [hm] at hf1
    obtain ⟨n, b, hj, hn, hkb, hput, _⟩ := mfind_some k xs 0 j u hm
    have hjn : j = n := by omega
    subst hjn
    obtain rfl := T.same _ _ hkb
    obtain ⟨e0, he0, hkv⟩ : ∃ e0, es[j]? = some e0 ∧ (e0.key, e0.val) = (kc k, vc u) := by
      have h5 : (es.toList.map (fun e => (e.key, e.val)))[j]? = some (kc k, vc u) := by rw [hes, List.getElem?_map, hn]; rfl
      rw [List.getElem?_map] at h5
      cases h6 : es.toList[j]? with
      | none => rw [h6] at h5; cases h5
      | some e0 => rw [h6] at h5; exact ⟨e0, by simpa using h6, Option.some.inj h5⟩
    obtain ⟨h1, h2, h3⟩ := hp.mapTo (es' := es.modify j fun e => { e with key := kc k, val := vc v }) (clock' := clock) h.rd h.nw hb
    refine ⟨_, ?_, h1, h2, h.rd, h.nw, _, _, h3, ?_⟩
    · have hst : (Instr.keyThatStays (((es[j]?).map (·.key)).getD (kc k)) (kc k)).run P w = .ok (kc k) w := by
        have : ((es[j]?).map (·.key)).getD (kc k) = kc k := by rw [he0]; simp only [Prod.mk.injEq] at hkv; simp [hkv.1]
        rw [this]
        simp [Instr.keyThatStays, T.bits]
      simp only [Instr.mapUpdate, Sem.run_bind, run_underlying ht, Result.andThen_ok, MapKept.run_getObj_map hb, T.chk, hf1, Option.map_some, hst]
      exact MapKept.run_setObj_map _ hb
    · rw [hput, List.map_set, ← hes, Array.toList_modify]
      exact map_modify_set (fun e : MapEntry => { e with key := kc k, val := vc v }) (fun e : MapEntry => (e.key, e.val)) (kc k, vc v) (fun _ => rfl) _ _
theorem ev_mapUpdate {Q : Value → World → Prop} {g : Nat} {t kt e : TypeId} {x y z : Operand} {xs : List (K × V)} {k : K} {v : V} (hp : Hp c I m w) (ho : o.op = .mapUpdate t x y z) (hx : evm fm x = some (.map (some g))) (hy : evm fm y = some (kc k)) (hz : evm fm z = some (vc v))
    (ht : P.underlying t = some (.map kt e)) (T : KeyT P kt kc eq) (h : MapAt kc vc c w I g xs) (q : ∀ w', Hp c I m w' → Wk I w w' → MapAt kc vc c w' I g (mput eq k v xs) → Q undef w') : Ev P fm w o Q := by
  intro a N hf K' R hk
  obtain ⟨w', hr, h1, h2, h3⟩ := run_mapUpdate (v := v) (k := k) hp ht T h
  have : (execOp a.eval o).run P w = .ok .skip w' := by
    simp only [execOp, ho, hf.ev hx, hf.ev hy, hf.ev hz, Sem.run_bind, hr, Result.andThen_ok, Sem.run_pure]
  unfold Oper.wp
  rw [this]
  exact hk _ _ (q _ h1 h2 h3)
theorem ev_mapInsert {Q : Value → World → Prop} {g : Nat} {t kt e : TypeId} {x y z : Operand} {xs : List (K × V)} {k : K} {v : V} (hp : Hp c I m w) (ho : o.op = .insert t x y z) (hx : evm fm x = some (.map (some g))) (hy : evm fm y = some (kc k)) (hz : evm fm z = some (vc v))
    (ht : P.underlying t = some (.map kt e)) (T : KeyT P kt kc eq) (h : MapAt kc vc c w I g xs) (q : ∀ w', Hp c I m w' → Wk I w w' → MapAt kc vc c w' I g (mput eq k v xs) → Q undef w') : Ev P fm w o Q := by
  intro a N hf K' R hk
  obtain ⟨w', hr, h1, h2, h3⟩ := run_mapUpdate (v := v) (k := k) hp ht T h
  have : (execOp a.eval o).run P w = .ok .skip w' := by
    simp only [execOp, ho, hf.ev hx, hf.ev hy, hf.ev hz, Sem.run_bind, hr, Result.andThen_ok, Sem.run_pure]
  unfold Oper.wp
  rw [this]
  exact hk _ _ (q _ h1 h2 h3)
theorem ev_mapDelete {Q : Value → World → Prop} {g : Nat} {t t2 kt e : TypeId} {x y : Operand} {xs : List (K × V)} {k : K} (hp : Hp c I m w) (ho : o.op = .call { callee := .builtin .delete, args := #[x, y], argTypes := #[t, t2] }) (hx : evm fm x = some (.map (some g))) (hy : evm fm y = some (kc k))
    (ht : P.underlying t = some (.map kt e)) (T : KeyT P kt kc eq) (h : MapAt kc vc c w I g xs) (q : ∀ w', Hp c I m w' → Wk I w w' → MapAt kc vc c w' I g (mdel eq k xs) → Q (.tuple #[]) w') : Ev P fm w o Q := by
  intro a N hf K' R hk
  obtain ⟨es, clock, hb, hes⟩ := h.at_
  have hf1 := run_findKey' (w := w) T k es.toList xs hes
  have key : ∃ w', (Builtin.delete_ #[t, t2] o.type #[.map (some g), kc k]).run P w = .ok (.tuple #[]) w' ∧ Hp c I m w' ∧ Wk I w w' ∧ MapAt kc vc c w' I g (mdel eq k xs) := by
    cases hm : mfind eq k xs 0 with
    | none =>
      rw [hm] at hf1
      obtain ⟨h1, h2, h3⟩ := hp.mapTo (es' := es) (clock' := clock) h.rd h.nw hb
      refine ⟨_, ?_, h1, h2, h.rd, h.nw, _, _, h3, by rw [(mfind_none k xs 0 hm).2]; exact hes⟩
      simp [Builtin.delete_, run_underlying ht, MapKept.run_getObj_map hb, T.chk, hf1, MapKept.run_setObj_map _ hb]
    | some r =>
      obtain ⟨j, u⟩ := r
      rw [hm] at hf1
      obtain ⟨n, b, hj, hn, hkb, _, hdel⟩ := mfind_some k xs 0 j u hm
      have hjn : j = n := by omega
      subst hjn
      obtain ⟨h1, h2, h3⟩ := hp.mapTo (es' := es.eraseIdxIfInBounds j) (clock' := clock) h.rd h.nw hb
      refine ⟨_, ?_, h1, h2, h.rd, h.nw, _, _, h3, ?_⟩
      · simp [Builtin.delete_, run_underlying ht, MapKept.run_getObj_map hb, T.chk, hf1, MapKept.run_setObj_map _ hb]
      · rw [hdel, Array.toList_eraseIdxIfInBounds, map_erase, hes, ← map_erase]
  obtain ⟨w', hr, h1, h2, h3⟩ := key
  have : (execOp a.eval o).run P w = .ok (.value (.tuple #[])) w' := by
    simp [execOp, ho, resolve, invoke, builtin, hf.ev hx, hf.ev hy, hr]
  unfold Oper.wp
  rw [this]
  exact hk _ _ (q _ h1 h2 h3)
end
/- ### Keys that are structs of ints -/
theorem run_check_fields {P : Program} {b : Bool} {n : Nat} {cs : Array Value} (w : World) : ∀ fs : List Field, (∀ f ∈ fs, ∃ v, (part f.type cs f.offset).run P w = .ok v w ∧ (Instr.checkKey b n f.type v).run P w = .ok () w) →
    (forIn fs PUnit.unit fun (f : Field) (_ : PUnit) => (do
      if f.name ≠ "_" then Instr.checkKey b n f.type (← part f.type cs f.offset)
      pure (ForInStep.yield PUnit.unit) : Sem (ForInStep PUnit))).run P w = .ok PUnit.unit w
  | [], _ => rfl
  | f :: fs, h => by
    obtain ⟨v, h1, h2⟩ := h f (by simp)
    rw [List.forIn_cons, Sem.run_bind]
    by_cases hn : f.name = "_"
    · simp only [hn, ne_eq, not_true_eq_false, if_false, Sem.run_pure, Result.andThen_ok]
      exact run_check_fields w fs fun f hf => h f (by simp [hf])
    · simp only [ne_eq, hn, not_false_eq_true, if_true, Sem.run_bind, Sem.run_pure, h1, h2, Result.andThen_ok]
      exact run_check_fields w fs fun f hf => h f (by simp [hf])
theorem KeyT.of2 {P : Program} {K : Type} {kt ti : TypeId} {kc : K → Value} {eq : K → K → Bool} {bytes : Nat} {z : Value} {x y : K → Int} (hkc : ∀ k, kc k = .agg #[.int .i64 (x k), .int .i64 (y k)])
    (hst : P.underlying kt = some (.struct (P.fieldsOf kt))) (hfl : (P.fieldsOf kt).toList.map (fun f => (f.offset, f.type)) = [(0, ti), (1, ti)]) (hi : TI P ti 1 bytes z false) (hu : P.underlying ti = some (.int .i64))
    (he : ∀ a b : K, EQ P kt [.int .i64 (x a), .int .i64 (y a)] [.int .i64 (x b), .int .i64 (y b)] (eq a b)) (hs : ∀ a b, eq a b = true → a = b) : KeyT P kt kc eq where
  chk := fun b k w => by
    rw [hkc]
    rw [show (10000 : Nat) = 9999 + 1 from rfl, Instr.checkKey]
    simp only [Sem.run_bind, run_underlying hst, Result.andThen_ok]
    rw [← Array.forIn_toList]
    refine (congrArg (fun r => Result.andThen r fun _ w => (pure () : Sem Unit).run P w) (run_check_fields w _ fun f hf => ?_)).trans rfl
    have hm : (f.offset, f.type) ∈ (P.fieldsOf kt).toList.map (fun f => (f.offset, f.type)) := List.mem_map_of_mem hf
    rw [hfl] at hm
    have key : ∀ (off : Nat) (n : Int), f.offset = off → f.type = ti → (#[.int .i64 (x k), .int .i64 (y k)] : Array Value)[off]? = some (.int .i64 n) → ∃ v, (part f.type #[.int .i64 (x k), .int .i64 (y k)] f.offset).run P w = .ok v w ∧ (Instr.checkKey b 9999 f.type v).run P w = .ok () w := by
      intro off n h1 h2 h3
      rw [h1, h2]
      refine ⟨.int .i64 n, ?_, MapKept.run_checkKey hu (show MapKept.IsKey (.int .i64) (.int .i64 n) from rfl) b 9998⟩
      unfold part
      rw [Sem.run_bind, run_isAgg hi]
      simp only [Result.andThen_ok, Bool.false_eq_true, if_false, h3, Sem.run_pure]
    simp only [List.mem_cons, Prod.mk.injEq, List.not_mem_nil, or_false] at hm
    rcases hm with ⟨h1, h2⟩ | ⟨h1, h2⟩
    · exact key 0 _ h1 h2 rfl
    · exact key 1 _ h1 h2 rfl
  cmp := fun k k' w => by
    have h := he k k'
    rw [hkc, hkc]
    show (Op.equalIn (9999 + 1) kt _ _).run P w = _
    rw [run_equalIn_struct w 9999 kt _ _ h.st h.ok]
    exact h.run w
  same := hs
  bits := fun k => by
    rw [hkc, show (10000 : Nat) = 9999 + 1 from rfl]
    simp [Instr.sameBits]
  desc := ⟨_, hst, fun k k' => by rw [hkc, hkc]; rfl⟩

/- ### Arrays of structs -/
section
variable {P : Program} {fm : FM} {o : Oper} {w : World} {I : Nat → Prop}
/-- An element of an array that is a value. -/
theorem rn_indexVA {α : Type} {d : Desc α} {t e N : Nat} {x i : Operand} {k : IntKind} {n : Int} {bytes : Nat} {z : Value} {cs L : List Value} {xs : List α} {y : α}
    (ho : o.op = .index t x i) (hx : evm fm x = some (.agg cs.toArray)) (hi : evm fm i = some (.int k n)) (ht : P.underlying t = some (.array N e)) (he : TI P e d.size bytes z true) (h : (dA N d).rep w I cs xs) (hy : idx xs n = some y)
    (hu : ∀ {l}, d.rep w I l y → l = L) : Rn0 P fm o (.agg L.toArray) := by
  obtain ⟨h0, hl, hg⟩ := idx_some hy
  have hN : xs.length = N := h.1
  have hL := hu (h.2.2 _ _ hg)
  intro w' a N' hf
  have hl' : n < (N : Int) := by omega
  subst hL
  simp [execOp, ho, hf.ev hx, hf.ev hi, Instr.index, asIntOf, run_underlying ht, h0, hl', run_sizeOf he, part, run_isAgg he]
theorem Hp.atE {c : Cx} {m : List Ent} (hp : Hp c I m w) {i g : Nat} {cs l : List Value} {t : TypeId} {e : Ent} (hi : m[i]? = some e) (he : e = some (g, cs, t)) {a n : Nat} (h : (cs.drop a).take n = l) : At w (fun k => k = g) ⟨g, a, none⟩ l := by
  subst he
  refine ⟨rfl, fun j v hv => ?_⟩
  rw [add_lit]
  exact hp.cellD hi h hv
end
/- ### Comparison of structs in structs -/
def EqLn (P : Program) (D : Nat) (d : List (Bool × Nat × TypeId)) (xs ys : List Value) (r : Bool) : Prop := ∀ fs : List Field, fs.map fldK = d → ∀ w : World, (Op.eqFields D xs.toArray ys.toArray fs).run P w = .ok r w
theorem EqLn.nil {P : Program} {D : Nat} {xs ys : List Value} : EqLn P D [] xs ys true := by
  intro fs h w
  obtain rfl : fs = [] := by simpa using h
  simp [Op.eqFields]
theorem EqLn.cons {P : Program} {D : Nat} {d : List (Bool × Nat × TypeId)} {xs ys : List Value} {off : Nat} {t : TypeId} {a b : Value} {r0 r : Bool} (hx : ∀ w, (part t xs.toArray off).run P w = .ok a w) (hy : ∀ w, (part t ys.toArray off).run P w = .ok b w)
    (h0 : ∀ w : World, (Op.equalIn D t a b).run P w = .ok r0 w) (h : EqLn P D d xs ys r) : EqLn P D ((true, off, t) :: d) xs ys (r0 && r) := by
  intro fs he w
  cases fs with
  | nil => simp at he
  | cons f fs =>
    simp only [List.map_cons, List.cons.injEq, fldK, Prod.mk.injEq] at he
    obtain ⟨⟨hn, hoff, ht⟩, hr⟩ := he
    subst hoff; subst ht
    have hn' : f.name ≠ "_" := by simpa using hn
    simp only [Op.eqFields, ne_eq, hn', not_false_eq_true, if_true, Sem.run_bind, hx, hy, Result.andThen_ok, h0 w]
    cases r0
    · simp
    · simpa using h fs hr w
theorem part_one {P : Program} {t : TypeId} {bytes : Nat} {z v : Value} {xs : List Value} {off : Nat} (hi : TI P t 1 bytes z false) (hv : xs[off]? = some v) (w : World) : (part t xs.toArray off).run P w = .ok v w := by
  unfold part
  rw [Sem.run_bind, run_isAgg hi]
  simp [hv]
theorem part_sub {P : Program} {t : TypeId} {n bytes : Nat} {z : Value} {xs l : List Value} {off : Nat} (hi : TI P t n bytes z true) (hv : (xs.drop off).take n = l) (w : World) : (part t xs.toArray off).run P w = .ok (.agg l.toArray) w := by
  subst hv
  unfold part
  rw [Sem.run_bind, run_isAgg hi]
  simp [run_sizeOf hi]
theorem EqLn.int {P : Program} {D : Nat} {d : List (Bool × Nat × TypeId)} {xs ys : List Value} {off : Nat} {t : TypeId} {bytes : Nat} {z : Value} {k k' : IntKind} {a b : Int} {r : Bool} (hi : TI P t 1 bytes z false) (hu : P.underlying t = some (.int k')) (hx : xs[off]? = some (.int k a)) (hy : ys[off]? = some (.int k b)) (h : EqLn P (D + 1) d xs ys r) : EqLn P (D + 1) ((true, off, t) :: d) xs ys ((a == b) && r) :=
  EqLn.cons (part_one hi hx) (part_one hi hy) (fun w => run_equalIn_int w D t k k' a b hu) h
theorem EqL.sub {P : Program} {d d' : List (Bool × Nat × TypeId)} {xs ys xa ya : List Value} {off n : Nat} {t : TypeId} {bytes : Nat} {z : Value} {r0 r : Bool} (hi : TI P t n bytes z true) (hx : (xs.drop off).take n = xa) (hy : (ys.drop off).take n = ya)
    (hst : P.underlying t = some (.struct (P.fieldsOf t))) (hok : P.stoodInHeld t = false) (hd : (P.fieldsOf t).toList.map fldK = d') (h0 : EqLn P 9998 d' xa ya r0) (h : EqL P d xs ys r) : EqL P ((true, off, t) :: d) xs ys (r0 && r) :=
  EqLn.cons (D := 9999) (part_sub hi hx) (part_sub hi hy) (fun w => by rw [run_equalIn_struct w 9998 t _ _ hst hok]; exact h0 _ hd w) h
end Go.Proofs.Ytcdboppghnchpaa.Gw

namespace Go.Proofs.Ytcdboppghnchpaa.Gw
open Go Go.RowKit
/- ### Sorting by a function, as the library does it -/
def sortL {α : Type} [Inhabited α] (cf : α → α → Int) (xs : List α) : List α := (Sort.pdq (fun x y => decide (cf x y < 0)) xs.toArray 0 xs.length (Lib.bitLen xs.length) true true).toList
/-- cmp.Compare, cmp.Or of two. -/
def cmpI (x y : Int) : Int := if x < y then -1 else if y < x then 1 else 0
def orI (a b : Int) : Int := if a ≠ 0 then a else b
section
variable {P : Program} {c : Cx} {I : Nat → Prop} {m : List Ent} {w : World} {fm : FM} {o : Oper}
theorem rn_lenRaw {x : Operand} {t e : TypeId} {A : Option Addr} {n k : Nat} (ho : o.op = .call { callee := .builtin .len, args := #[x], argTypes := #[t] }) (hx : evm fm x = some (.slice A n k)) (ht : P.underlying t = some (.slice e)) : Rn0 P fm o (.int .i64 n) := by
  intro w a N hf
  simp [execOp, ho, resolve, invoke, builtin, Builtin.len_, hf.ev hx, run_underlying ht, goInt]
theorem rn_sliceLo {x y : Operand} {t T : TypeId} {g len n bytes : Nat} {k : IntKind} {l : Int} {z : Value} {agg : Bool} (ho : o.op = .slice t x (some y) none none) (hx : evm fm x = some (.slice (some ⟨g, 0, none⟩) len n)) (hy : evm fm y = some (.int k l)) (ht : P.underlying t = some (.slice T)) (he : TI P T 1 bytes z agg)
    (h0 : 0 ≤ l) (h1 : l < len) (hn : len ≤ n) : Rn0 P fm o (.slice (some ⟨g, l.toNat, none⟩) (len - l.toNat) (n - l.toNat)) := by
  have h := rn_sliceV (kl := k) (kh := .i64) (l := l) (h := len) ho hx hn hy rfl ht he h0 (by omega) (by omega)
  rw [if_neg (by omega)] at h
  simpa [add_lit] using h
theorem rn_sliceHi {x y : Operand} {t T : TypeId} {g len n bytes : Nat} {k : IntKind} {l : Int} {z : Value} {agg : Bool} (ho : o.op = .slice t x none (some y) none) (hx : evm fm x = some (.slice (some ⟨g, 0, none⟩) len n)) (hy : evm fm y = some (.int k l)) (ht : P.underlying t = some (.slice T)) (he : TI P T 1 bytes z agg)
    (h0 : 0 ≤ l) (h1 : l ≤ len) (hn : len ≤ n) (h2 : 0 < n) : Rn0 P fm o (.slice (some ⟨g, 0, none⟩) l.toNat n) := by
  have h := rn_sliceV (kl := .i64) (kh := k) (l := 0) (h := l) ho hx hn rfl hy ht he (by omega) h0 h1
  rw [if_neg (by show n ≠ 0; omega)] at h
  simpa [add_lit] using h
/-- copy(dst, src) into a row of the call's own, elements of one cell. -/
theorem ev_copyI {K : Value → World → Prop} {x y : Operand} {dT sT T el : TypeId} {g off dLen dCap i sLen sCap bytes : Nat} {a : Addr} {z : Value} {cur cs : List Value} (hp : Hp c I m w) (hi : m[i]? = some (some (g, cur, T)))
    (ho : o.op = .call { callee := .builtin .copy, args := #[x, y], argTypes := #[dT, sT] }) (hx : evm fm x = some (.slice (some ⟨g, off, none⟩) dLen dCap)) (hy : evm fm y = some (.slice (some a) sLen sCap))
    (hu : P.underlying dT = some (.slice el)) (ht : TI P el 1 bytes z false) (hn : cs.length = Nat.min sLen dLen) (hsrc : ∀ j v, cs[j]? = some v → w.cell? (a.add j) = some v) (hfit : off + cs.length ≤ cur.length) (h1 : ∀ v ∈ cs, v.oneCell' = true)
    (k : ∀ w', Hp c I (m.set i (some (g, cur.take off ++ cs ++ cur.drop (off + cs.length), T))) w' → Stp I w I w' → K (.int .i64 cs.length) w') : Ev P fm w o K := by
  intro ac N hf K' Q hk
  obtain ⟨inf, hinf, hsz, _, _⟩ := ht.info
  have hr := run_copy_row (P := P) w dT sT o.type el g off dLen dCap a sLen sCap cur.toArray T cs hu (by rw [hinf]; simp [hsz]) (hp.own i g cur T hi).1 hn hsrc (by simpa using hfit) h1
  have hrun : (execOp ac.eval o).run P w = .ok (.value (goInt cs.length)) (w.setRow g (cur.take off ++ cs ++ cur.drop (off + cs.length)).toArray) := by
    simp [execOp, ho, resolve, invoke, builtin, hf.ev hx, hf.ev hy, hr]
  unfold Oper.wp
  rw [hrun]
  obtain ⟨t1, t2⟩ := hp.set (w' := w.setRow g (cur.take off ++ cs ++ cur.drop (off + cs.length)).toArray) (cs' := cur.take off ++ cs ++ cur.drop (off + cs.length)) hi (by simp [World.setRow]) (Nat.le_refl _) rfl rfl rfl
    (setRow_heap w g _ _ T (0, 0) (hp.own i g cur T hi).1) (fun q hq => setRow_other w g q _ hq)
  exact hk _ _ (k _ t1 t2)
end
end Go.Proofs.Ytcdboppghnchpaa.Gw
