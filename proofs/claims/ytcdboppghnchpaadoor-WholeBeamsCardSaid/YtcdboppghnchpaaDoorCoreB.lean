/-
  Verification conditions for the model of Go: general lemmas, no text of a program in them.
-/
import Derived.Test.YtcdboppghnchpaaDoorCoreA
import Derived.Lib.AppendZerosOnto
namespace Go.Proofs.YtcdboppghnchpaaDoor.Gw
open Go Go.RowKit
/- ### append(s, make([]T, k)...) -/
section
variable {P : Program}
end
section
variable {P : Program} {c : Cx} {I : Nat → Prop} {m : List Ent} {w : World} {fm : FM} {o : Oper}
end
/- ### A row that a call takes and hands back, cut or not at all -/
section
variable {c : Cx} {I : Nat → Prop} {m : List Ent} {w : World}
end
section
variable {P : Program} {I : Nat → Prop} {w : World} {fm : FM} {o : Oper}
end
end Go.Proofs.YtcdboppghnchpaaDoor.Gw

namespace Go.Proofs.YtcdboppghnchpaaDoor.Gw
open Go Go.RowKit
/- ### Several own rows lent to a call -/
section
variable {c : Cx} {I : Nat → Prop} {m : List Ent} {w : World}
end
/- ### Places among cells, segment by segment -/
section
variable {P : Program} {c : Cx} {I : Nat → Prop} {m : List Ent} {w : World} {fm : FM} {o : Oper}
/- ### Pointers held against nil -/
theorem OwnS.nilcase {α : Type} {d : Desc α} {T : TypeId} {v : Value} {e : Ent} {xs : List α} (h : OwnS d T w I v e xs) : (v = .slice none 0 0 ∧ e = none ∧ xs = []) ∨ ∃ a n, v = .slice (some a) xs.length n ∧ OwnS d T w I (.slice (some a) xs.length n) e xs := by
  rcases h with h | ⟨g, cs, n, rfl, h⟩
  · exact .inl h
  · exact .inr ⟨_, n, rfl, .inr ⟨g, cs, n, rfl, h⟩⟩
end
section
variable {P : Program} {c : Cx} {I : Nat → Prop} {m : List Ent} {w : World} {fm : FM} {o : Oper}
end
/- ### Data in blocks from N on alone; an own row that a call reads for a while -/
def RepF {α : Type} (d : Desc α) (N : Nat) (w : World) (I : Nat → Prop) (v : Value) (xs : List α) : Prop := RepS d w (fun g => I g ∧ N ≤ g) v xs
theorem RepF.step {α : Type} {d : Desc α} {N : Nat} {w w' : World} {I I' : Nat → Prop} {v : Value} {xs : List α} (h : RepF d N w I v xs) (k : Stp I w I' w') : RepF d N w' I' v xs :=
  RepS.step h fun g hg => ⟨⟨(k g hg.1).1, hg.2⟩, (k g hg.1).2⟩
theorem RepF.imm {α : Type} {d : Desc α} {N : Nat} {w : World} {I : Nat → Prop} {v : Value} {xs : List α} (h : RepF d N w I v xs) : RepS d w I v xs := RepS.step h fun _ hg => ⟨hg.1, rfl⟩
theorem RepF.mono {α : Type} {d : Desc α} {M N : Nat} {w : World} {I : Nat → Prop} {v : Value} {xs : List α} (h : RepF d N w I v xs) (k : M ≤ N) : RepF d M w I v xs := RepS.step h fun _ hg => ⟨⟨hg.1, Nat.le_trans k hg.2⟩, rfl⟩
theorem RepF.nil {α : Type} {d : Desc α} {N : Nat} {w : World} {I : Nat → Prop} : RepF d N w I (.slice none 0 0) [] := RepS.nil _ _ _
section
variable {c : Cx} {I : Nat → Prop} {m : List Ent} {w : World}
end
end Go.Proofs.YtcdboppghnchpaaDoor.Gw

namespace Go.Proofs.YtcdboppghnchpaaDoor.Gw
open Go Go.RowKit
/- ### Data of a type that is in itself -/
/-- The same up to a number of levels. -/
structure RdB (N : Nat) (P : Program) (t : TypeId) {α : Type} (d : Desc α) (inv : α → Prop) : Prop where
  out : ∀ {H : Type} (enc : TypeId × Value → H) (w : World) (base : Nat) (sp : Nat → Bool) (held : Bool) (fuel : Nat) (cs : List Value) (x : DataW H × List MemPlace), fuel ≤ N →
    DataW.trod enc P w base sp held fuel t cs = some x → ∃ y, d.rep w (Bl w) cs y ∧ inv y
theorem Rd.b {N : Nat} {P : Program} {t : TypeId} {α : Type} {d : Desc α} {inv : α → Prop} (h : Rd P t d inv) : RdB N P t d inv := ⟨fun enc w base sp held fuel cs x _ hx => h.out enc w base sp held fuel cs x hx⟩
theorem RdB.mono {N : Nat} {P : Program} {t : TypeId} {α : Type} {d d' : Desc α} {inv inv' : α → Prop} (h : RdB N P t d inv) (hd : ∀ w I cs y, d.rep w I cs y → d'.rep w I cs y) (k : ∀ y, inv y → inv' y) : RdB N P t d' inv' :=
  ⟨fun enc w base sp held fuel cs x hN hx => let ⟨y, hr, hi⟩ := h.out enc w base sp held fuel cs x hN hx; ⟨y, hd _ _ _ _ hr, k y hi⟩⟩
theorem RdB.slice {P : Program} {t e : TypeId} {α : Type} {d : Desc α} {inv : α → Prop} {N : Nat} (ht : P.underlying t = some (.slice e)) (he : P.cellsOf e = d.size) (h0 : 0 < d.size) (h : RdB N P e d inv) :
    RdB (N + 1) P t (dSl d) (fun xs => xs.length ≤ maxLen ∧ ∀ x ∈ xs, inv x) := by
  constructor
  intro H enc w base sp held fuel cs x hf hx
  rcases DataW.trod_slice ht hx with ⟨rfl, _⟩ | ⟨a, len, cap, elems, rest, n, hn, rfl, _, hb, hl, hc, hlen, hel, _⟩
  · exact ⟨[], ⟨_, rfl, RepS.nil _ _ _⟩, by simp, by simp⟩
  have key : ∀ i, i < len → ∃ y, (∃ cs', d.rep w (Bl w) cs' y ∧ At w (Bl w) (a.add (i * d.size)) cs') ∧ inv y := by
    intro i hi
    have h1 := hel i hi
    have hi' : i < elems.length := by omega
    rw [List.getElem?_eq_getElem hi'] at h1
    obtain ⟨cs', hcs, htr⟩ := Option.bind_eq_some_iff.1 h1
    obtain ⟨y, hr, hi⟩ := h.out enc w base sp held n cs' _ (by omega) htr
    obtain ⟨_, hlc, hcell⟩ := World.cells?_some hcs
    rw [he] at hcell hlc
    refine ⟨y, ⟨cs', hr, ?_, fun j v hv => ?_⟩, hi⟩
    · have := hcell 0 h0
      rw [List.getElem?_eq_getElem (by omega)] at this
      have := cell_block this
      rwa [add_block] at this
    · have hj : j < cs'.length := (List.getElem?_eq_some_iff.1 hv).1
      rw [hcell j (by omega)]; exact hv
  obtain ⟨ys, hyl, hy⟩ := choose_list key
  refine ⟨ys, ⟨_, rfl, some a, cap, by rw [hyl], by omega, fun hpos => ⟨a, rfl, ?_, fun i x hx => (hy i x hx).1⟩⟩, by simp only [maxLen] at hc ⊢; omega, fun x hx => ?_⟩
  · obtain ⟨cs', hr, ha⟩ := (hy 0 ys[0] (List.getElem?_eq_getElem hpos)).1
    have := ha.1
    rwa [add_block] at this
  · obtain ⟨i, hi, rfl⟩ := List.getElem_of_mem hx
    exact (hy i _ (List.getElem?_eq_getElem hi)).2

/-- Fields, one behind the other, up to a number of levels. -/
structure RdFB (N : Nat) (P : Program) (fl : List Field) (off : Nat) {α : Type} (d : Desc α) (inv : α → Prop) : Prop where
  out : ∀ {H : Type} (enc : TypeId × Value → H) (w : World) (base : Nat) (sp : Nat → Bool) (held : Bool) (fuel : Nat) (cs : List Value), fuel ≤ N → cs.length = off + d.size →
    (∀ f ∈ fl, ∃ x, DataW.trod enc P w base sp held fuel f.type ((cs.drop f.offset).take (P.cellsOf f.type)) = some x) → ∃ y, d.rep w (Bl w) (cs.drop off) y ∧ inv y
theorem RdFB.one {N : Nat} {P : Program} {f : Field} {off : Nat} {α : Type} {d : Desc α} {inv : α → Prop} (ho : f.offset = off) (hc : P.cellsOf f.type = d.size) (h : RdB N P f.type d inv) : RdFB N P [f] off d inv := by
  constructor
  intro H enc w base sp held fuel cs hN hl hf
  obtain ⟨x, hx⟩ := hf f (by simp)
  rw [ho, hc, List.take_of_length_le (by simp; omega)] at hx
  exact h.out enc w base sp held fuel _ x hN hx
theorem RdFB.cons {N : Nat} {P : Program} {f : Field} {fl : List Field} {off : Nat} {α β : Type} {d : Desc α} {d' : Desc β} {inv : α → Prop} {inv' : β → Prop} (ho : f.offset = off) (hc : P.cellsOf f.type = d.size) (h : RdB N P f.type d inv)
    (k : RdFB N P fl (off + d.size) d' inv') : RdFB N P (f :: fl) off (dP d d') (fun x => inv x.1 ∧ inv' x.2) := by
  constructor
  intro H enc w base sp held fuel cs hN hl hf
  have hl' : cs.length = off + (d.size + d'.size) := hl
  obtain ⟨x, hx⟩ := hf f (by simp)
  rw [ho, hc] at hx
  obtain ⟨y, hy, hi⟩ := h.out enc w base sp held fuel _ x hN hx
  obtain ⟨z, hz, hj⟩ := k.out enc w base sp held fuel cs hN (by omega) (fun g hg => hf g (by simp [hg]))
  exact ⟨(y, z), ⟨_, _, by rw [← List.drop_drop, List.take_append_drop], hy, hz⟩, hi, hj⟩
theorem RdB.struct {N : Nat} {P : Program} {t : TypeId} {fs : Array Field} {α : Type} {d : Desc α} {inv : α → Prop} (ht : P.underlying t = some (.struct fs)) (hc : P.cellsOf t = d.size) (h : RdFB N P fs.toList 0 d inv) : RdB (N + 1) P t d inv := by
  constructor
  intro H enc w base sp held fuel cs x hN hx
  obtain ⟨xs, n, hn, _, hl, hlen, hf⟩ := DataW.trod_struct ht hx
  have := h.out enc w base sp held n cs (by omega) (by omega) (fun f hfm => by
    obtain ⟨i, hi, rfl⟩ := List.getElem_of_mem hfm
    have hi' : i < fs.size := by simpa using hi
    have := hf i fs[i] (Array.getElem?_eq_getElem hi')
    rw [List.getElem?_eq_getElem (by omega)] at this
    exact ⟨_, this⟩)
  simpa using this
theorem RdB.view {N : Nat} {P : Program} {t : TypeId} {α β : Type} {d : Desc α} {inv : α → Prop} {f : β → α} (g : α → β) (hg : ∀ a, f (g a) = a) (h : RdB N P t d inv) : RdB N P t (dV f d) (fun y => inv (f y)) := by
  constructor
  intro H enc w base sp held fuel cs x hN hx
  obtain ⟨y, hy, hi⟩ := h.out enc w base sp held fuel cs x hN hx
  exact ⟨g y, by show d.rep _ _ _ (f (g y)); rw [hg]; exact hy, by show inv (f (g y)); rw [hg]; exact hi⟩

end Go.Proofs.YtcdboppghnchpaaDoor.Gw

namespace Go.Proofs.YtcdboppghnchpaaDoor.Gw
open Go Go.RowKit
section
variable {c : Cx} {I : Nat → Prop} {m : List Ent} {w : World}
theorem Hp.tail {e : Ent} (h : Hp c I (e :: m) w) : Hp c I m w :=
  h.pick (· + 1) m (fun i e hi => by simpa using hi) (fun i j _ _ e => by have e : i + 1 = j + 1 := e; omega)
end
/- ### Rows whose elements hold own slices -/
section
variable {c : Cx} {I : Nat → Prop} {w : World}
end
end Go.Proofs.YtcdboppghnchpaaDoor.Gw

namespace Go.Proofs.YtcdboppghnchpaaDoor.Gw
open Go Go.RowKit
/- ### An array that is built of all its elements -/
section
variable {P : Program} {fm : FM} {o : Oper} {w : World}
theorem rn_buildA {t e n : TypeId} {ps : List (Nat × Operand)} {vs : List (Nat × Value)} {size bytes s2 b2 : Nat} {z z2 : Value} {agg a2 : Bool} {cs : List Value} (ho : o.op = .build t ps.toArray) (hx : evps fm ps = some vs) (ht : TI P t size bytes z agg)
    (hu : P.underlying t = some (.array n e)) (he : TI P e s2 b2 z2 a2) (hc : Instr.fill (fun i => some (i * s2, s2)) z.cells vs = some cs.toArray) : Rn P fm w o (.agg cs.toArray) := by
  intro a N hf
  have e1 : (ps.toArray.map fun x => (x.1, a.eval x.2)).toList = vs := by rw [Array.toList_map]; exact evps_map hf hx
  simp only [execOp, ho, Sem.run_bind, Instr.build, run_zeroValue ht, run_underlying hu, run_sizeOf he, Result.andThen_ok, e1, hc, Sem.run_pure]
end
end Go.Proofs.YtcdboppghnchpaaDoor.Gw

namespace Go.Proofs.YtcdboppghnchpaaDoor.Gw
open Go Go.RowKit
set_option linter.unusedVariables false
/-- The next stage of a held region: the same rows are kept, from this world on. -/
theorem nxT {I0 I : Nat → Prop} {w0 w : World} {l : List (Nat × List Value × TypeId)} {R : (World → Prop) → Prop} (hz : Stp I0 w0 I w) (ho : OwnK l w) (k : R (fun x => Stp I w I x ∧ OwnK l x)) :
    ∃ S' : World → Prop, S' w ∧ (∀ x, S' x → (Stp I0 w0 I0 x ∧ OwnK l x)) ∧ R S' :=
  ⟨fun x => Stp I w I x ∧ OwnK l x, ⟨Stp.refl _ _, ho⟩, fun x hx => ⟨hz.held hx.1, hx.2⟩, k⟩
theorem nxS {I0 I : Nat → Prop} {w0 w : World} {K : List (Nat × List Value × TypeId)} {J : List (List Nat)} {L : Array Bool} {R : (Array Bool → World → Prop) → Prop} (hz : Stp I0 w0 I w)
    (hk : ∀ (p : Nat) (e : Nat × List Value × TypeId) (js : List Nat), K[p]? = some e → J[p]? = some js → (js.all fun j => !L.getD j true) = true → w.heap[e.1]? = some (.cells e.2.1.toArray e.2.2 (0, 0)))
    (k : R (SK (Stp I w I) K J)) : ∃ S' : Array Bool → World → Prop, S' L w ∧ (∀ L x, S' L x → SK (Stp I0 w0 I0) K J L x) ∧ R S' :=
  ⟨SK (Stp I w I) K J, ⟨Stp.refl _ _, hk⟩, fun L x h => ⟨hz.held h.1, h.2⟩, k⟩
section
variable {c : Cx} {I : Nat → Prop} {m : List Ent} {w : World}
/-- The rows at these places of the function's own memory. -/
theorem Hp.ks (h : Hp c I m w) {l : List (Nat × List Value × TypeId)} (js : List Nat) (e : js.map (fun j => m[j]?) = l.map fun x => some (some x)) : OwnK l w := by
  intro x hx
  have : some (some x) ∈ js.map (fun j => m[j]?) := by rw [e]; exact List.mem_map_of_mem hx
  obtain ⟨j, _, hj⟩ := List.mem_map.1 this
  exact (h.own j x.1 x.2.1 x.2.2 hj).1
theorem Hp.kc (h : Hp c I m w) (i : Nat) {e0 : Nat × List Value × TypeId} (hi : m[i]? = some (some e0)) {K : List (Nat × List Value × TypeId)} {js0 : List Nat} {J : List (List Nat)} {L : Array Bool}
    (t : ∀ (p : Nat) (e : Nat × List Value × TypeId) (js : List Nat), K[p]? = some e → J[p]? = some js → (js.all fun j => !L.getD j true) = true → w.heap[e.1]? = some (.cells e.2.1.toArray e.2.2 (0, 0))) :
    ∀ (p : Nat) (e : Nat × List Value × TypeId) (js : List Nat), (e0 :: K)[p]? = some e → (js0 :: J)[p]? = some js → (js.all fun j => !L.getD j true) = true → w.heap[e.1]? = some (.cells e.2.1.toArray e.2.2 (0, 0)) :=
  kp_cons (fun _ => (h.own i e0.1 e0.2.1 e0.2.2 hi).1) t
end
theorem on2 {b : Bool} {u : Value} {l : List Value} (h : u.oneCell' = true) (k : ∀ x ∈ l, x.oneCell' = true) : ∀ x ∈ (.bool b : Value) :: u :: l, x.oneCell' = true := ones_cons rfl (ones_cons h k)
theorem lbe {n m : Nat} (h : Nat.ble n m = true) : n ≤ m := Nat.le_of_ble_eq_true h
end Go.Proofs.YtcdboppghnchpaaDoor.Gw
