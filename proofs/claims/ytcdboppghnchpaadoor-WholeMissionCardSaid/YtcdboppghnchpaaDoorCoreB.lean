/-
  Verification conditions for the model of Go: general lemmas, no text of a program in them.
-/
import Derived.Test.YtcdboppghnchpaaDoorCoreA
import Derived.Lib.AppendZerosOnto
import Derived.Lib.AppendStr
import Derived.Sort.Grow
import Derived.Lib.ConvBytes
import Derived.Lib.Builder
import Derived.Lib.UnsafeStr
namespace Go.Proofs.YtcdboppghnchpaaDoor.Gw
open Go Go.RowKit
/- ### append(s, make([]T, k)...) -/
section
variable {P : Program}
end
section
variable {P : Program} {c : Cx} {I : Nat → Prop} {m : List Ent} {w : World} {fm : FM} {o : Oper}
end
/- ### A row that a call takes and hands back, cut or not at all -/
section
variable {c : Cx} {I : Nat → Prop} {m : List Ent} {w : World}
end
section
variable {P : Program} {I : Nat → Prop} {w : World} {fm : FM} {o : Oper}
end
end Go.Proofs.YtcdboppghnchpaaDoor.Gw

namespace Go.Proofs.YtcdboppghnchpaaDoor.Gw
open Go Go.RowKit
/- ### Several own rows lent to a call -/
/-- The blocks of entries. -/
def blks : List Ent → List Nat
  | [] => []
  | e :: l => blk e ++ blks l
theorem mem_blks {g : Nat} : ∀ {m : List Ent}, g ∈ blks m ↔ ∃ (i : Nat) (cs : List Value) (t : TypeId), m[i]? = some (some (g, cs, t))
  | [] => by simp [blks]
  | e :: l => by
    simp only [blks, List.mem_append, mem_blks (m := l)]
    constructor
    · rintro (h | ⟨i, cs, t, h⟩)
      · cases e with
        | none => cases h
        | some e => obtain ⟨a, b, c⟩ := e; simp only [blk, List.mem_singleton] at h; subst h; exact ⟨0, b, c, rfl⟩
      · exact ⟨i + 1, cs, t, by simpa using h⟩
    · rintro ⟨i, cs, t, h⟩
      cases i with
      | zero => simp only [List.getElem?_cons_zero, Option.some.injEq] at h; subst h; exact .inl (by simp [blk])
      | succ i => exact .inr ⟨i, cs, t, by simpa using h⟩
section
variable {c : Cx} {I : Nat → Prop} {m : List Ent} {w : World}
theorem Hp.lendL (h : Hp c I m w) (l : List Nat) (hl : l.Nodup) : Hp ⟨w, I, blks (pickE m l)⟩ I (pickE m l) w := by
  have hp := h.perm l hl
  exact ⟨Ch.refl _ _, h.imm, fun g hg => .inl hg, Stp.refl _ _, fun i g cs t hi => ⟨(hp.own i g cs t hi).1, (hp.own i g cs t hi).2.1, .inr (mem_blks.2 ⟨i, cs, t, hi⟩)⟩, hp.inj⟩
theorem Hp.backL (h : Hp c I m w) (l r : List Nat) (hlr : (l ++ r).Nodup) {I' : Nat → Prop} {nw : List Ent} {w' : World} (k : Hp ⟨w, I, blks (pickE m l)⟩ I' nw w') : Hp c I' (nw ++ pickE m r) w' := by
  have hch : Ch (blks (pickE m l)) w w' := k.ch
  have hlt : ∀ g, g ∈ blks (pickE m l) → ∃ (j : Nat) (cs : List Value) (t : TypeId), j ∈ l ∧ m[j]? = some (some (g, cs, t)) := by
    intro g hg
    obtain ⟨i, cs, t, hi⟩ := mem_blks.1 hg
    obtain ⟨j, hj, hm⟩ := pickE_get m l i _ hi
    exact ⟨j, cs, t, List.mem_of_getElem? hj, hm⟩
  have hr := h.perm r (List.nodup_append.1 hlr).2.1
  have hrr : ∀ (i g : Nat) (cs : List Value) (t : TypeId), (pickE m r)[i]? = some (some (g, cs, t)) → g ∉ blks (pickE m l) := by
    intro i g cs t hi hg
    obtain ⟨j, cs', t', hj, hm⟩ := hlt g hg
    obtain ⟨k, hk, hm'⟩ := pickE_get m r i _ hi
    have := h.inj j k g _ _ _ _ hm hm'
    subst this
    exact (List.nodup_append.1 hlr).2.2 j hj j (List.mem_of_getElem? hk) rfl
  have hnw : ∀ (i g : Nat) (cs : List Value) (t : TypeId), nw[i]? = some (some (g, cs, t)) → w.heap.size ≤ g ∨ g ∈ blks (pickE m l) := fun i g cs t hi => (k.own i g cs t hi).2.2
  have old : ∀ (i g : Nat) (cs : List Value) (t : TypeId), (nw ++ pickE m r)[i]? = some (some (g, cs, t)) → nw[i]? = some (some (g, cs, t)) ∨ (nw.length ≤ i ∧ (pickE m r)[i - nw.length]? = some (some (g, cs, t))) := by
    intro i g cs t hi
    rcases Nat.lt_or_ge i nw.length with hlt | hge
    · rw [List.getElem?_append_left hlt] at hi; exact .inl hi
    · rw [List.getElem?_append_right hge] at hi; exact .inr ⟨hge, hi⟩
  refine ⟨⟨hch.os.trans h.ch.os, hch.tape.trans h.ch.tape, hch.output.trans h.ch.output, Nat.le_trans h.ch.size hch.size, fun g hg hn => ?_⟩, k.imm, fun g hg => ?_, h.st.trans k.st, ?_, ?_⟩
  · rw [hch.old g (Nat.lt_of_lt_of_le hg h.ch.size) (fun hb => by
      obtain ⟨j, cs, t, _, hm⟩ := hlt g hb
      rcases (h.own j g cs t hm).2.2 with h0 | h0
      · omega
      · exact hn h0)]
    exact h.ch.old g hg hn
  · rcases k.lim g hg with h0 | h0 | h0
    · exact h.lim g h0
    · exact .inr (.inl (Nat.le_trans h.ch.size h0))
    · obtain ⟨j, cs, t, _, hm⟩ := hlt g h0
      exact .inr (h.own j g cs t hm).2.2
  · intro i g cs t hi
    rcases old i g cs t hi with h1 | ⟨_, h1⟩
    · refine ⟨(k.own i g cs t h1).1, (k.own i g cs t h1).2.1, ?_⟩
      rcases hnw i g cs t h1 with h2 | h2
      · exact .inl (Nat.le_trans h.ch.size h2)
      · obtain ⟨j, cs', t', _, hm⟩ := hlt g h2
        exact (h.own j g cs' t' hm).2.2
    · have ho := hr.own _ g cs t h1
      refine ⟨(hch.old g (hr.lt h1) (hrr _ g cs t h1)).trans ho.1, fun hI => ?_, ho.2.2⟩
      rcases k.lim g hI with h2 | h2 | h2
      · exact ho.2.1 h2
      · have h2 : w.heap.size ≤ g := h2
        have := hr.lt h1; omega
      · exact hrr _ g cs t h1 h2
  · intro i j g cs cs' t t' hi hj
    rcases old i g cs t hi with h1 | ⟨h0, h1⟩ <;> rcases old j g cs' t' hj with h3 | ⟨h2, h3⟩
    · exact k.inj i j g cs cs' t t' h1 h3
    · rcases hnw i g cs t h1 with h4 | h4
      · have := hr.lt h3; omega
      · exact absurd h4 (hrr _ g _ _ h3)
    · rcases hnw j g cs' t' h3 with h4 | h4
      · have := hr.lt h1; omega
      · exact absurd h4 (hrr _ g _ _ h1)
    · have := hr.inj _ _ g cs cs' t t' h1 h3; omega
end
/- ### Places among cells, segment by segment -/
theorem SubA.pre {α : Type} {d : Desc α} {w : World} {I : Nat → Prop} {c l : List Value} {x : α} (h : d.rep w I c x) : SubA d w I (c ++ l) 0 x := by
  have hl := d.len h
  exact ⟨by simp; omega, by rw [List.drop_zero, List.take_append_of_le_length (by omega), List.take_of_length_le (by omega)]; exact h⟩
section
variable {P : Program} {c : Cx} {I : Nat → Prop} {m : List Ent} {w : World} {fm : FM} {o : Oper}
theorem ev_appendJ {α : Type} {d : Desc α} {K : Value → World → Prop} {x y : Operand} {t T : TypeId} {v u : Value} {e : Ent} {xs ys : List α} {bytes : Nat} {z : Value} {agg : Bool} {i : Nat} {J : Nat → Prop}
    (hp : Hp c I m w) (hi : m[i]? = some e) (ho : o.op = .call { callee := .builtin .append, args := #[x, y], argTypes := #[t, t] }) (hx : evm fm x = some v) (hy : evm fm y = some u) (ht : P.underlying t = some (.slice T))
    (hT : TI P T d.size bytes z agg) (hd : 0 < d.size) (hv : OwnS d T w I v e xs) (hu : RepS d w J u ys) (hb : (xs.length + ys.length) * bytes ≤ 140737488355328) (hb' : xs.length + ys.length ≤ 4611686018427387904) (hJ : ∀ cs x, d.rep w J cs x → d.rep w I cs x)
    (k : ∀ v' e' w', Hp c I (m.set i e') w' → Stp I w I w' → OwnS d T w' I v' e' (xs ++ ys) → K v' w') : Ev P fm w o K := by
  intro a N hf K' Q hk
  obtain ⟨inf, hinf, hsz, hby, hz⟩ := hT.info
  have hrun : ∀ v' w', (Builtin.append_ #[t, t] o.type #[v, u]).run P w = .ok v' w' → (execOp a.eval o).run P w = .ok (.value v') w' := by
    intro v' w' hr
    simp [execOp, ho, resolve, invoke, builtin, hf.ev hx, hf.ev hy, hr]
  have hml : (9223372036854775807 : Nat) ≤ maxLen := by simp [maxLen]
  obtain ⟨A, n2, rfl, hn2, hrow⟩ := hu
  have hset : m.set i e = m := by
    obtain ⟨hl, he⟩ := List.getElem?_eq_some_iff.1 hi
    rw [← he]; exact List.set_getElem_self hl
  unfold Oper.wp
  rcases Nat.eq_zero_or_pos ys.length with h0 | h0
  · have hys : ys = [] := List.eq_nil_of_length_eq_zero h0
    subst hys
    have hrr : (Builtin.append_ #[t, t] o.type #[v, .slice A 0 n2]).run P w = .ok v w := by
      rcases hv with ⟨rfl, rfl, rfl⟩ | ⟨g, cs, n, rfl, rfl, h3, h4, h5, h7⟩
      · cases A <;> simp [Builtin.append_, run_underlying ht, sizeOf, typeInfo, hinf, Builtin.lenOf, Builtin.firstCells, loadCells, loadCellsFrom]
      · cases A <;> simp [Builtin.append_, run_underlying ht, sizeOf, typeInfo, hinf, Builtin.lenOf, Builtin.firstCells, loadCells, loadCellsFrom, h3, storeCells]
    rw [hrun _ _ hrr]
    exact hk _ _ (k v e w (by rw [hset]; exact hp) (Stp.refl _ _) (by simpa using hv))
  · obtain ⟨p, rfl, hrow'⟩ := hrow h0
    obtain ⟨news, hn1, hn2', hn3, hn4⟩ := elems_row hrow'
    have hnE : Elems d w I news ys := fun j x hx => hJ _ _ (hn1 j x hx)
    have fin : ∀ (olds : List Value) (_ : w.ownsRow 0 T d.size v xs.length olds) (_ : Elems d w I olds xs)
        (hblk : ∀ g, v.ownBlock = some g → ∃ cs, e = some (g, cs, T)), Oper.upon P o a K' Q ((execOp a.eval o).run P w) := by
      intro olds hown hold hblk
      obtain ⟨v', w', hr, hown', hgr, _, hat⟩ := run_append_own_at (P := P) w 0 t o.type T inf z d.size bytes ht hinf hz hsz hby hT.zs hd v xs.length olds hown p ys.length n2 news hn2' hn4 hn3 (by omega) hb (Nat.zero_le _)
      rw [hrun _ _ hr]
      rcases hown'.2 with ⟨rfl, h00⟩ | ⟨g, cap, cur, rfl, _, hg, hnc, hcm, hcs, htake⟩
      · omega
      · have hcur : w'.heap[g]? = some (.cells cur.toList.toArray T (0, 0)) := by simpa using hg
        have hE : ∀ {w''}, Stp I w I w'' → Elems d w'' I cur.toList (xs ++ ys) := by
          intro w'' hst
          refine elems_of_take ((xs.length + ys.length) * d.size) ?_ (by rw [List.length_append])
          rw [htake]
          intro j x hx
          have := elems_app (d := d) (rest := []) hold (by rw [hown.1]) hnE hn2' j x hx
          rw [List.append_nil] at this
          exact d.step this hst
        have hb2 : v.ownBlock = some g ∨ g = w.heap.size := by
          rcases hat with hat | hat
          · left; rw [← hat]; rfl
          · right; simpa [Value.ownBlock] using hat
        obtain ⟨h1, h2⟩ := hp.turn (e' := some (g, cur.toList, T)) hi hgr.size hgr.os hgr.tape hgr.output (fun k hk hne => hgr.block k hk (fun e0 => by
            obtain ⟨cs, he⟩ := hblk k e0.symm
            exact hne cs T he)) (fun g' cs1 t1 e0 => by
          simp only [Option.some.injEq, Prod.mk.injEq] at e0
          obtain ⟨rfl, rfl, rfl⟩ := e0
          refine ⟨hcur, ?_⟩
          rcases hb2 with hb2 | hb2
          · obtain ⟨cs, he⟩ := hblk g hb2
            exact .inr ⟨cs, T, he⟩
          · exact .inl (by omega))
        exact hk _ _ (k _ _ _ h1 h2 (.inr ⟨g, _, _, by rw [List.length_append], rfl, by rw [List.length_append]; exact hnc, hcm, by simpa using hcs, hE h2⟩))
    rcases hv with ⟨rfl, rfl, rfl⟩ | ⟨g, cs, n, rfl, rfl, h3, h4, h5, h7⟩
    · exact fin [] (World.ownsRow_nil w 0 T d.size) (fun i x hx => by simp at hx) (fun g hg => by simp [Value.ownBlock] at hg)
    · refine fin (cs.take (xs.length * d.size)) ⟨?_, .inr ⟨g, n, cs.toArray, rfl, Nat.zero_le _, (hp.own i g cs T hi).1, h3, h4, by simpa using h5, by simp⟩⟩ (elems_take h7 _ rfl) (fun g' hg' => ⟨cs, by simp [Value.ownBlock] at hg'; rw [hg']⟩)
      rw [List.length_take, h5, Nat.min_eq_left (Nat.mul_le_mul_right _ h3)]

/-- The same, from another own slice: its elements hold no pointers. -/
theorem ev_appendF {α : Type} {d : Desc α} {K : Value → World → Prop} {x y : Operand} {t T : TypeId} {v u : Value} {e e2 : Ent} {xs ys zs : List α} {bytes : Nat} {z : Value} {agg : Bool} {i j : Nat}
    (hp : Hp c I m w) (hi : m[i]? = some e) (hj : m[j]? = some e2) (ho : o.op = .call { callee := .builtin .append, args := #[x, y], argTypes := #[t, t] }) (hx : evm fm x = some v) (hy : evm fm y = some u) (ht : P.underlying t = some (.slice T))
    (hT : TI P T d.size bytes z agg) (hd : Nat.blt 0 d.size = true) (hb : Nat.ble bytes 128 = true) (hf : ∀ w I w' I' cs x, d.rep w I cs x → d.rep w' I' cs x) (hv : OwnS d T w I v e xs) (hu : OwnS d T w I u e2 ys) (ha : app xs ys = some zs)
    (k : ∀ v' e' w', Hp c I (m.set i e') w' → Stp I w I w' → OwnS d T w' I v' e' zs → K v' w') : Ev P fm w o K := by
  obtain ⟨h1, rfl⟩ := app_some ha
  have hb' := Nat.le_of_ble_eq_true hb
  have h2 : (xs.length + ys.length) * bytes ≤ (xs.length + ys.length) * 128 := Nat.mul_le_mul_left _ hb'
  exact ev_appendJ (J := Ad I e2) hp hi ho hx hy ht hT (by simpa [Nat.blt_eq] using hd) hv (hu.reads hp hj fun _ h => h) (by omega) (by omega) (fun _ _ h => hf _ _ _ _ _ _ h) k
theorem dI_flat (k : IntKind) (w : World) (I : Nat → Prop) (w' : World) (I' : Nat → Prop) (cs : List Value) (x : Int) (h : (dI k).rep w I cs x) : (dI k).rep w' I' cs x := h
theorem dB_flat (w : World) (I : Nat → Prop) (w' : World) (I' : Nat → Prop) (cs : List Value) (x : Bool) (h : dB.rep w I cs x) : dB.rep w' I' cs x := h
/- ### Pointers held against nil -/
theorem run_equal_nilp {t T : TypeId} (ht : P.underlying t = some (.pointer T)) (A : Option Addr) (w : World) : (Op.equal t (.pointer A) (.pointer none)).run P w = .ok A.isNone w := by
  have h : ∀ d : Nat, (Op.equalIn (d + 1) t (.pointer A) (.pointer none)).run P w = .ok A.isNone w := fun d => by
    cases A <;> simp only [Op.equalIn, Sem.run_bind, run_underlying ht, Result.andThen_ok, Sem.run_pure, Option.isNone]
  exact h 9999
theorem rn_eqNilP {t t' T : TypeId} {x y : Operand} {A : Option Addr} {b : Bool} (ho : o.op = .binOp .eql t x y t') (hx : evm fm x = some (.pointer A)) (hy : evm fm y = some (.pointer none)) (ht : P.underlying t = some (.pointer T)) (hb : A.isNone = b) : Rn0 P fm o (.bool b) := by
  subst hb
  intro w a N hf
  simp only [execOp, ho, hf.ev hx, hf.ev hy, binOp, Sem.run_bind, run_equal_nilp ht, Result.andThen_ok, Sem.run_pure, show (eqGuard .eql t x y (.pointer A) (.pointer none)).run P w = .ok () w from rfl]
theorem OwnS.nilcase {α : Type} {d : Desc α} {T : TypeId} {v : Value} {e : Ent} {xs : List α} (h : OwnS d T w I v e xs) : (v = .slice none 0 0 ∧ e = none ∧ xs = []) ∨ ∃ a n, v = .slice (some a) xs.length n ∧ OwnS d T w I (.slice (some a) xs.length n) e xs := by
  rcases h with h | ⟨g, cs, n, rfl, h⟩
  · exact .inl h
  · exact .inr ⟨_, n, rfl, .inr ⟨g, cs, n, rfl, h⟩⟩
end
section
variable {P : Program} {c : Cx} {I : Nat → Prop} {m : List Ent} {w : World} {fm : FM} {o : Oper}
end
theorem bind_comm {α β γ : Type} {a : Option α} {b : Option β} {k : α → β → Option γ} {r : γ} (h : (a.bind fun x => b.bind fun y => k x y) = some r) : (b.bind fun y => a.bind fun x => k x y) = some r := by
  cases a with
  | none => cases h
  | some x => cases b with
    | none => cases h
    | some y => exact h
/- ### Data in blocks from N on alone; an own row that a call reads for a while -/
def RepF {α : Type} (d : Desc α) (N : Nat) (w : World) (I : Nat → Prop) (v : Value) (xs : List α) : Prop := RepS d w (fun g => I g ∧ N ≤ g) v xs
theorem RepF.step {α : Type} {d : Desc α} {N : Nat} {w w' : World} {I I' : Nat → Prop} {v : Value} {xs : List α} (h : RepF d N w I v xs) (k : Stp I w I' w') : RepF d N w' I' v xs :=
  RepS.step h fun g hg => ⟨⟨(k g hg.1).1, hg.2⟩, (k g hg.1).2⟩
theorem RepF.imm {α : Type} {d : Desc α} {N : Nat} {w : World} {I : Nat → Prop} {v : Value} {xs : List α} (h : RepF d N w I v xs) : RepS d w I v xs := RepS.step h fun _ hg => ⟨hg.1, rfl⟩
theorem RepF.mono {α : Type} {d : Desc α} {M N : Nat} {w : World} {I : Nat → Prop} {v : Value} {xs : List α} (h : RepF d N w I v xs) (k : M ≤ N) : RepF d M w I v xs := RepS.step h fun _ hg => ⟨⟨hg.1, Nat.le_trans k hg.2⟩, rfl⟩
theorem RepF.nil {α : Type} {d : Desc α} {N : Nat} {w : World} {I : Nat → Prop} : RepF d N w I (.slice none 0 0) [] := RepS.nil _ _ _
section
variable {c : Cx} {I : Nat → Prop} {m : List Ent} {w : World}
end
end Go.Proofs.YtcdboppghnchpaaDoor.Gw

namespace Go.Proofs.YtcdboppghnchpaaDoor.Gw
open Go Go.RowKit
/- ### Data of a type that is in itself -/
theorem Row.lift {α : Type} {d d' : Desc α} {w : World} {I : Nat → Prop} {p : Addr} {xs : List α} (hs : d'.size = d.size) (hm : ∀ cs x, x ∈ xs → d.rep w I cs x → d'.rep w I cs x) (h : Row d w I p xs) : Row d' w I p xs :=
  ⟨h.1, fun i x hx => let ⟨cs, hr, ha⟩ := h.2 i x hx; ⟨cs, hm cs x (List.mem_of_getElem? hx) hr, by rw [hs]; exact ha⟩⟩
theorem RepS.lift {α : Type} {d d' : Desc α} {w : World} {I : Nat → Prop} {v : Value} {xs : List α} (hs : d'.size = d.size) (hm : ∀ cs x, x ∈ xs → d.rep w I cs x → d'.rep w I cs x) (h : RepS d w I v xs) : RepS d' w I v xs := by
  obtain ⟨a, c, hv, hc, h⟩ := h
  exact ⟨a, c, hv, hc, fun h0 => let ⟨p, e, r⟩ := h h0; ⟨p, e, r.lift hs hm⟩⟩
/-- By the number of levels. -/
def dUn {α : Type} (k : Nat) (D : Nat → Desc α) (hk : ∀ n, (D n).size = k) : Desc α where
  size := k
  rep := fun w I cs x => ∃ n, (D n).rep w I cs x
  step := fun ⟨n, h⟩ k => ⟨n, (D n).step h k⟩
  len := fun ⟨n, h⟩ => ((D n).len h).trans (hk n)
  one := fun ⟨n, h⟩ => (D n).one h
theorem level_le {α : Type} {D : Nat → Desc α} (hm : ∀ n w I cs x, (D n).rep w I cs x → (D (n + 1)).rep w I cs x) {n m : Nat} (h : n ≤ m) {w : World} {I : Nat → Prop} {cs : List Value} {x : α} (k : (D n).rep w I cs x) : (D m).rep w I cs x := by
  induction h with
  | refl => exact k
  | step _ ih => exact hm _ _ _ _ _ ih
theorem RepS.level {α : Type} {k : Nat} {D : Nat → Desc α} {hk : ∀ n, (D n).size = k} (hm : ∀ n w I cs x, (D n).rep w I cs x → (D (n + 1)).rep w I cs x) {w : World} {I : Nat → Prop} {v : Value} {xs : List α} (h : RepS (dUn k D hk) w I v xs) : ∃ n, RepS (D n) w I v xs := by
  obtain ⟨a, c, hv, hc, h⟩ := h
  rcases Nat.eq_zero_or_pos xs.length with h0 | h0
  · exact ⟨0, a, c, hv, hc, fun h1 => by omega⟩
  · obtain ⟨p, rfl, hp, hr⟩ := h h0
    have key : ∀ K, K ≤ xs.length → ∃ n, ∀ i x, i < K → xs[i]? = some x → ∃ cs, (D n).rep w I cs x ∧ At w I (p.add (i * k)) cs := by
      intro K
      induction K with
      | zero => intro _; exact ⟨0, fun i x hi => by omega⟩
      | succ K ih =>
        intro hK
        obtain ⟨n, hn⟩ := ih (by omega)
        obtain ⟨cs, ⟨m, hmr⟩, ha⟩ := hr K _ (List.getElem?_eq_getElem (by omega))
        refine ⟨max n m, fun i x hi hx => ?_⟩
        rcases Nat.lt_or_ge i K with h1 | h1
        · obtain ⟨cs, h2, h3⟩ := hn i x h1 hx
          exact ⟨cs, level_le hm (Nat.le_max_left _ _) h2, h3⟩
        · obtain rfl : i = K := by omega
          rw [List.getElem?_eq_getElem (by omega)] at hx
          obtain rfl := Option.some.inj hx
          exact ⟨cs, level_le hm (Nat.le_max_right _ _) hmr, ha⟩
    obtain ⟨n, hn⟩ := key xs.length (Nat.le_refl _)
    exact ⟨n, _, c, hv, hc, fun _ => ⟨p, rfl, hp, fun i x hx => by rw [hk]; exact hn i x (List.getElem?_eq_some_iff.1 hx).1 hx⟩⟩
theorem RepS.unlevel {α : Type} {k : Nat} {D : Nat → Desc α} {hk : ∀ n, (D n).size = k} {n : Nat} {w : World} {I : Nat → Prop} {v : Value} {xs : List α} (h : RepS (D n) w I v xs) : RepS (dUn k D hk) w I v xs :=
  h.lift (hk n).symm fun _ _ _ hr => ⟨n, hr⟩

def dNo {α : Type} (k : Nat) : Desc α := ⟨k, fun _ _ _ _ => False, fun h _ => h, fun h => h.elim, fun h => h.elim⟩
/-- The same up to a number of levels. -/
structure RdB (N : Nat) (P : Program) (t : TypeId) {α : Type} (d : Desc α) (inv : α → Prop) : Prop where
  out : ∀ {H : Type} (enc : TypeId × Value → H) (w : World) (base : Nat) (sp : Nat → Bool) (held : Bool) (fuel : Nat) (cs : List Value) (x : DataW H × List MemPlace), fuel ≤ N →
    DataW.trod enc P w base sp held fuel t cs = some x → ∃ y, d.rep w (Bl w) cs y ∧ inv y
theorem Rd.b {N : Nat} {P : Program} {t : TypeId} {α : Type} {d : Desc α} {inv : α → Prop} (h : Rd P t d inv) : RdB N P t d inv := ⟨fun enc w base sp held fuel cs x _ hx => h.out enc w base sp held fuel cs x hx⟩
theorem RdB.mono {N : Nat} {P : Program} {t : TypeId} {α : Type} {d d' : Desc α} {inv inv' : α → Prop} (h : RdB N P t d inv) (hd : ∀ w I cs y, d.rep w I cs y → d'.rep w I cs y) (k : ∀ y, inv y → inv' y) : RdB N P t d' inv' :=
  ⟨fun enc w base sp held fuel cs x hN hx => let ⟨y, hr, hi⟩ := h.out enc w base sp held fuel cs x hN hx; ⟨y, hd _ _ _ _ hr, k y hi⟩⟩
theorem RdB.slice {P : Program} {t e : TypeId} {α : Type} {d : Desc α} {inv : α → Prop} {N : Nat} (ht : P.underlying t = some (.slice e)) (he : P.cellsOf e = d.size) (h0 : 0 < d.size) (h : RdB N P e d inv) :
    RdB (N + 1) P t (dSl d) (fun xs => xs.length ≤ maxLen ∧ ∀ x ∈ xs, inv x) := by
  constructor
  intro H enc w base sp held fuel cs x hf hx
  rcases DataW.trod_slice ht hx with ⟨rfl, _⟩ | ⟨a, len, cap, elems, rest, n, hn, rfl, _, hb, hl, hc, hlen, hel, _⟩
  · exact ⟨[], ⟨_, rfl, RepS.nil _ _ _⟩, by simp, by simp⟩
  have key : ∀ i, i < len → ∃ y, (∃ cs', d.rep w (Bl w) cs' y ∧ At w (Bl w) (a.add (i * d.size)) cs') ∧ inv y := by
    intro i hi
    have h1 := hel i hi
    have hi' : i < elems.length := by omega
    rw [List.getElem?_eq_getElem hi'] at h1
    obtain ⟨cs', hcs, htr⟩ := Option.bind_eq_some_iff.1 h1
    obtain ⟨y, hr, hi⟩ := h.out enc w base sp held n cs' _ (by omega) htr
    obtain ⟨_, hlc, hcell⟩ := World.cells?_some hcs
    rw [he] at hcell hlc
    refine ⟨y, ⟨cs', hr, ?_, fun j v hv => ?_⟩, hi⟩
    · have := hcell 0 h0
      rw [List.getElem?_eq_getElem (by omega)] at this
      have := cell_block this
      rwa [add_block] at this
    · have hj : j < cs'.length := (List.getElem?_eq_some_iff.1 hv).1
      rw [hcell j (by omega)]; exact hv
  obtain ⟨ys, hyl, hy⟩ := choose_list key
  refine ⟨ys, ⟨_, rfl, some a, cap, by rw [hyl], by omega, fun hpos => ⟨a, rfl, ?_, fun i x hx => (hy i x hx).1⟩⟩, by simp only [maxLen] at hc ⊢; omega, fun x hx => ?_⟩
  · obtain ⟨cs', hr, ha⟩ := (hy 0 ys[0] (List.getElem?_eq_getElem hpos)).1
    have := ha.1
    rwa [add_block] at this
  · obtain ⟨i, hi, rfl⟩ := List.getElem_of_mem hx
    exact (hy i _ (List.getElem?_eq_getElem hi)).2

/-- Fields, one behind the other, up to a number of levels. -/
structure RdFB (N : Nat) (P : Program) (fl : List Field) (off : Nat) {α : Type} (d : Desc α) (inv : α → Prop) : Prop where
  out : ∀ {H : Type} (enc : TypeId × Value → H) (w : World) (base : Nat) (sp : Nat → Bool) (held : Bool) (fuel : Nat) (cs : List Value), fuel ≤ N → cs.length = off + d.size →
    (∀ f ∈ fl, ∃ x, DataW.trod enc P w base sp held fuel f.type ((cs.drop f.offset).take (P.cellsOf f.type)) = some x) → ∃ y, d.rep w (Bl w) (cs.drop off) y ∧ inv y
theorem RdFB.one {N : Nat} {P : Program} {f : Field} {off : Nat} {α : Type} {d : Desc α} {inv : α → Prop} (ho : f.offset = off) (hc : P.cellsOf f.type = d.size) (h : RdB N P f.type d inv) : RdFB N P [f] off d inv := by
  constructor
  intro H enc w base sp held fuel cs hN hl hf
  obtain ⟨x, hx⟩ := hf f (by simp)
  rw [ho, hc, List.take_of_length_le (by simp; omega)] at hx
  exact h.out enc w base sp held fuel _ x hN hx
theorem RdFB.cons {N : Nat} {P : Program} {f : Field} {fl : List Field} {off : Nat} {α β : Type} {d : Desc α} {d' : Desc β} {inv : α → Prop} {inv' : β → Prop} (ho : f.offset = off) (hc : P.cellsOf f.type = d.size) (h : RdB N P f.type d inv)
    (k : RdFB N P fl (off + d.size) d' inv') : RdFB N P (f :: fl) off (dP d d') (fun x => inv x.1 ∧ inv' x.2) := by
  constructor
  intro H enc w base sp held fuel cs hN hl hf
  have hl' : cs.length = off + (d.size + d'.size) := hl
  obtain ⟨x, hx⟩ := hf f (by simp)
  rw [ho, hc] at hx
  obtain ⟨y, hy, hi⟩ := h.out enc w base sp held fuel _ x hN hx
  obtain ⟨z, hz, hj⟩ := k.out enc w base sp held fuel cs hN (by omega) (fun g hg => hf g (by simp [hg]))
  exact ⟨(y, z), ⟨_, _, by rw [← List.drop_drop, List.take_append_drop], hy, hz⟩, hi, hj⟩
theorem RdB.struct {N : Nat} {P : Program} {t : TypeId} {fs : Array Field} {α : Type} {d : Desc α} {inv : α → Prop} (ht : P.underlying t = some (.struct fs)) (hc : P.cellsOf t = d.size) (h : RdFB N P fs.toList 0 d inv) : RdB (N + 1) P t d inv := by
  constructor
  intro H enc w base sp held fuel cs x hN hx
  obtain ⟨xs, n, hn, _, hl, hlen, hf⟩ := DataW.trod_struct ht hx
  have := h.out enc w base sp held n cs (by omega) (by omega) (fun f hfm => by
    obtain ⟨i, hi, rfl⟩ := List.getElem_of_mem hfm
    have hi' : i < fs.size := by simpa using hi
    have := hf i fs[i] (Array.getElem?_eq_getElem hi')
    rw [List.getElem?_eq_getElem (by omega)] at this
    exact ⟨_, this⟩)
  simpa using this
theorem RdB.view {N : Nat} {P : Program} {t : TypeId} {α β : Type} {d : Desc α} {inv : α → Prop} {f : β → α} (g : α → β) (hg : ∀ a, f (g a) = a) (h : RdB N P t d inv) : RdB N P t (dV f d) (fun y => inv (f y)) := by
  constructor
  intro H enc w base sp held fuel cs x hN hx
  obtain ⟨y, hy, hi⟩ := h.out enc w base sp held fuel cs x hN hx
  exact ⟨g y, by show d.rep _ _ _ (f (g y)); rw [hg]; exact hy, by show inv (f (g y)); rw [hg]; exact hi⟩

theorem dP_mapR {α β : Type} {a : Desc α} {b b' : Desc β} {w : World} {I : Nat → Prop} {cs : List Value} {y : α × β} (h : ∀ d, b.rep w I d y.2 → b'.rep w I d y.2) : (dP a b).rep w I cs y → (dP a b').rep w I cs y :=
  fun ⟨c, d, e, h1, h2⟩ => ⟨c, d, e, h1, h d h2⟩
theorem dP_exR {α β : Type} {a : Desc α} {b : Desc β} {b' : Nat → Desc β} {w : World} {I : Nat → Prop} {cs : List Value} {y : α × β} (h : ∀ d, b.rep w I d y.2 → ∃ n, (b' n).rep w I d y.2) : (dP a b).rep w I cs y → ∃ n, (dP a (b' n)).rep w I cs y :=
  fun ⟨c, d, e, h1, h2⟩ => let ⟨n, h3⟩ := h d h2; ⟨n, c, d, e, h1, h3⟩
theorem dSl_ex {α : Type} {k : Nat} {D : Nat → Desc α} {hk : ∀ n, (D n).size = k} (hm : ∀ n w I cs x, (D n).rep w I cs x → (D (n + 1)).rep w I cs x) {w : World} {I : Nat → Prop} {cs : List Value} {xs : List α} : (dSl (dUn k D hk)).rep w I cs xs → ∃ n, (dSl (D n)).rep w I cs xs :=
  fun ⟨v, e, r⟩ => let ⟨n, h⟩ := RepS.level hm r; ⟨n, v, e, h⟩
theorem dSl_un {α : Type} {k : Nat} {D : Nat → Desc α} {hk : ∀ n, (D n).size = k} {n : Nat} {w : World} {I : Nat → Prop} {cs : List Value} {xs : List α} : (dSl (D n)).rep w I cs xs → (dSl (dUn k D hk)).rep w I cs xs :=
  fun ⟨v, e, r⟩ => ⟨v, e, r.unlevel⟩
theorem dSl_map {α : Type} {d d' : Desc α} {w : World} {I : Nat → Prop} {cs : List Value} {xs : List α} (hs : d'.size = d.size) (hm : ∀ cs x, d.rep w I cs x → d'.rep w I cs x) : (dSl d).rep w I cs xs → (dSl d').rep w I cs xs :=
  fun ⟨v, e, r⟩ => ⟨v, e, r.lift hs fun cs x _ h => hm cs x h⟩
end Go.Proofs.YtcdboppghnchpaaDoor.Gw

namespace Go.Proofs.YtcdboppghnchpaaDoor.Gw
open Go Go.RowKit
section
variable {c : Cx} {I : Nat → Prop} {m : List Ent} {w : World}
theorem Hp.lendAll (h : Hp c I m w) : Hp ⟨w, I, blks m⟩ I m w :=
  ⟨Ch.refl _ _, h.imm, fun _ hg => .inl hg, Stp.refl _ _, fun i g cs t hi => ⟨(h.own i g cs t hi).1, (h.own i g cs t hi).2.1, .inr (mem_blks.2 ⟨i, cs, t, hi⟩)⟩, h.inj⟩
theorem Hp.backAll (h : Hp c I m w) {I' : Nat → Prop} {nw : List Ent} {w' : World} (k : Hp ⟨w, I, blks m⟩ I' nw w') : Hp c I' nw w' := by
  have hch : Ch (blks m) w w' := k.ch
  have hB : ∀ g, g ∈ blks m → c.w0.heap.size ≤ g ∨ g ∈ c.B := by
    intro g hg
    obtain ⟨j, cs, t, hm⟩ := mem_blks.1 hg
    exact (h.own j g cs t hm).2.2
  refine ⟨⟨hch.os.trans h.ch.os, hch.tape.trans h.ch.tape, hch.output.trans h.ch.output, Nat.le_trans h.ch.size hch.size, fun g hg hn => ?_⟩, k.imm, fun g hg => ?_, h.st.trans k.st, ?_, k.inj⟩
  · rw [hch.old g (Nat.lt_of_lt_of_le hg h.ch.size) (fun hb => (hB g hb).elim (by omega) hn)]
    exact h.ch.old g hg hn
  · rcases k.lim g hg with h0 | h0 | h0
    · exact h.lim g h0
    · exact .inr (.inl (Nat.le_trans h.ch.size h0))
    · exact .inr (hB g h0)
  · intro i g cs t hi
    refine ⟨(k.own i g cs t hi).1, (k.own i g cs t hi).2.1, ?_⟩
    rcases (k.own i g cs t hi).2.2 with h2 | h2
    · exact .inl (Nat.le_trans h.ch.size h2)
    · exact hB g h2
theorem Hp.tail {e : Ent} (h : Hp c I (e :: m) w) : Hp c I m w :=
  h.pick (· + 1) m (fun i e hi => by simpa using hi) (fun i j _ _ e => by have e : i + 1 = j + 1 := e; omega)
theorem Hp.snoc_none (h : Hp c I m w) : Hp c I (m ++ [none]) w := by
  refine h.pick id (m ++ [none]) (fun i e hi => ?_) (fun i j _ _ e => e)
  rw [List.getElem?_append] at hi
  split at hi
  · exact hi
  · cases hk : i - m.length with
    | zero => rw [hk] at hi; simp at hi
    | succ k => rw [hk] at hi; simp at hi
end
/- ### Rows whose elements hold own slices -/
/-- Three numbers and a value. -/
structure Rw where
  a : Int
  b : Int
  c : Int
  v : Value
def dRw : Desc Rw where
  size := 4
  rep := fun _ _ cs x => cs = [.int .i64 x.a, .int .i64 x.b, .int .i64 x.c, x.v] ∧ x.v.oneCell' = true
  step := fun h _ => h
  len := by rintro _ _ _ _ ⟨rfl, _⟩; rfl
  one := by rintro _ _ _ _ ⟨rfl, h⟩ v hv; simp at hv; rcases hv with rfl | rfl | rfl | rfl <;> first | rfl | exact h
theorem dRw_one {w : World} {I : Nat → Prop} {a b c : Int} {v : Value} (h : v.oneCell' = true) : dRw.rep w I [.int .i64 a, .int .i64 b, .int .i64 c, v] ⟨a, b, c, v⟩ := ⟨rfl, h⟩

theorem OwnS.cell3 {T : TypeId} {w : World} {I : Nat → Prop} {v : Value} {g : Nat} {cs : List Value} {rs : List Rw} {n : Int} {r : Rw} (h : OwnS dRw T w I v (some (g, cs, T)) rs) (hn : idx rs n = some r) :
    cs[n.toNat * 4]? = some (.int .i64 r.a) ∧ cs[n.toNat * 4 + 1]? = some (.int .i64 r.b) ∧ cs[n.toNat * 4 + 2]? = some (.int .i64 r.c) ∧ cs[n.toNat * 4 + 3]? = some r.v := by
  obtain ⟨h0, hl, hg⟩ := idx_some hn
  obtain ⟨g', cs', q, _, e, h3, h4, h5, h7⟩ := h.open hn
  simp only [Option.some.injEq, Prod.mk.injEq] at e
  obtain ⟨rfl, rfl, _⟩ := e
  have hr : (cs.drop (n.toNat * 4)).take 4 = [.int .i64 r.a, .int .i64 r.b, .int .i64 r.c, r.v] := (h7 _ _ hg).1
  have key : ∀ (j : Nat) (v : Value), [.int .i64 r.a, .int .i64 r.b, .int .i64 r.c, r.v][j]? = some v → cs[n.toNat * 4 + j]? = some v := fun j v hj => drop_take_get (n := 4) (by rw [hr]; exact hj)
  exact ⟨key 0 _ rfl, key 1 _ rfl, key 2 _ rfl, key 3 _ rfl⟩
theorem OwnS.put3 {T : TypeId} {w : World} {I : Nat → Prop} {v u : Value} {g : Nat} {cs : List Value} {rs : List Rw} {n : Int} {r : Rw} (h : OwnS dRw T w I v (some (g, cs, T)) rs) (hn : idx rs n = some r) (hu : u.oneCell' = true) :
    OwnS dRw T w I v (some (g, cs.set (n.toNat * 4 + 3) u, T)) (upd rs n ⟨r.a, r.b, r.c, u⟩) := by
  have h1 := h.stored hn (dRw_one (w := w) (I := I) (a := r.a) (b := r.b) (c := r.c) hu)
  obtain ⟨c0, c1, c2, c3⟩ := h.cell3 hn
  have hlen : n.toNat * 4 + 3 < cs.length := (List.getElem?_eq_some_iff.1 c3).1
  have e : setL cs (n.toNat * dRw.size) [.int .i64 r.a, .int .i64 r.b, .int .i64 r.c, u] = cs.set (n.toNat * 4 + 3) u := by
    show setL cs (n.toNat * 4) _ = _
    apply List.ext_getElem?
    intro j
    rw [setL_get _ _ _ _ (by simp; omega), List.getElem?_set]
    split
    · rename_i hj
      simp only [List.length_cons, List.length_nil] at hj
      obtain ⟨k, rfl⟩ : ∃ k, j = n.toNat * 4 + k := ⟨j - n.toNat * 4, by omega⟩
      have hk : k = 0 ∨ k = 1 ∨ k = 2 ∨ k = 3 := by omega
      rcases hk with rfl | rfl | rfl | rfl
      · rw [if_neg (by omega)]; simp at c0 ⊢; exact c0.symm
      · rw [if_neg (by omega)]; simp at c1 ⊢; exact c1.symm
      · rw [if_neg (by omega)]; simp at c2 ⊢; exact c2.symm
      · rw [if_pos rfl, show n.toNat * 4 + 3 - n.toNat * 4 = 3 by omega]; rfl
    · rename_i hj
      simp only [List.length_cons, List.length_nil] at hj
      rw [if_neg (by omega)]
  rw [e] at h1
  exact h1

section
variable {c : Cx} {I : Nat → Prop} {w : World}
/-- All but the first entry become readable data. -/
theorem Hp.freezeAll {b : Ent} {l : List Ent} (h : Hp c I (b :: l) w) : Hp c (fun g => I g ∨ g ∈ blks l) [b] w ∧ Stp I w (fun g => I g ∨ g ∈ blks l) w := by
  have key : ∀ g, g ∈ blks l → ∃ (i : Nat) (cs : List Value) (t : TypeId), (b :: l)[i + 1]? = some (some (g, cs, t)) := by
    intro g hg
    obtain ⟨i, cs, t, hi⟩ := mem_blks.1 hg
    exact ⟨i, cs, t, by simpa using hi⟩
  refine ⟨⟨h.ch, ?_, ?_, h.st.trans (fun g hg => ⟨.inl hg, rfl⟩), ?_, ?_⟩, fun g hg => ⟨.inl hg, rfl⟩⟩
  · rintro g (hg | hg)
    · exact h.imm g hg
    · obtain ⟨i, cs, t, hi⟩ := key g hg; exact h.lt hi
  · rintro g (hg | hg)
    · exact h.lim g hg
    · obtain ⟨i, cs, t, hi⟩ := key g hg; exact .inr (h.own _ g cs t hi).2.2
  · intro i g cs t hi
    cases i with
    | succ i => simp at hi
    | zero =>
      have hi' : (b :: l)[0]? = some (some (g, cs, t)) := by simpa using hi
      refine ⟨(h.own 0 g cs t hi').1, ?_, (h.own 0 g cs t hi').2.2⟩
      rintro (hg | hg)
      · exact (h.own 0 g cs t hi').2.1 hg
      · obtain ⟨j, cs2, t2, hj⟩ := key g hg
        have := h.inj _ _ g _ _ _ _ hi' hj
        omega
  · intro i j g cs cs' t t' hi hj
    cases i <;> cases j <;> simp at hi hj
    rfl
end
end Go.Proofs.YtcdboppghnchpaaDoor.Gw

namespace Go.Proofs.YtcdboppghnchpaaDoor.Gw
open Go Go.RowKit
/- ### An array that is built of all its elements -/
section
variable {P : Program} {fm : FM} {o : Oper} {w : World}
end
end Go.Proofs.YtcdboppghnchpaaDoor.Gw

namespace Go.Proofs.YtcdboppghnchpaaDoor.Gw
open Go Go.RowKit
set_option linter.unusedVariables false
section
variable {c : Cx} {I : Nat → Prop} {m : List Ent} {w : World}
/-- The rows at these places of the function's own memory. -/
theorem Hp.ks (h : Hp c I m w) {l : List (Nat × List Value × TypeId)} (js : List Nat) (e : js.map (fun j => m[j]?) = l.map fun x => some (some x)) : OwnK l w := by
  intro x hx
  have : some (some x) ∈ js.map (fun j => m[j]?) := by rw [e]; exact List.mem_map_of_mem hx
  obtain ⟨j, _, hj⟩ := List.mem_map.1 this
  exact (h.own j x.1 x.2.1 x.2.2 hj).1
theorem Hp.kc (h : Hp c I m w) (i : Nat) {e0 : Nat × List Value × TypeId} (hi : m[i]? = some (some e0)) {K : List (Nat × List Value × TypeId)} {js0 : List Nat} {J : List (List Nat)} {L : Array Bool}
    (t : ∀ (p : Nat) (e : Nat × List Value × TypeId) (js : List Nat), K[p]? = some e → J[p]? = some js → (js.all fun j => !L.getD j true) = true → w.heap[e.1]? = some (.cells e.2.1.toArray e.2.2 (0, 0))) :
    ∀ (p : Nat) (e : Nat × List Value × TypeId) (js : List Nat), (e0 :: K)[p]? = some e → (js0 :: J)[p]? = some js → (js.all fun j => !L.getD j true) = true → w.heap[e.1]? = some (.cells e.2.1.toArray e.2.2 (0, 0)) :=
  kp_cons (fun _ => (h.own i e0.1 e0.2.1 e0.2.2 hi).1) t
end
end Go.Proofs.YtcdboppghnchpaaDoor.Gw


namespace Go.Proofs.YtcdboppghnchpaaDoor.Gw
open Go Go.RowKit
section
variable {P : Program} {c : Cx} {I : Nat → Prop} {m : List Ent} {w : World} {fm : FM} {o : Oper}

/- ### append of a string's bytes -/
def strNums (s : ByteArray) : List Int := s.data.toList.map fun b => (b.toNat : Int)
theorem strNums_length (s : ByteArray) : (strNums s).length = s.size := by
  rw [strNums, List.length_map, Array.length_toList]; rfl
theorem strCells_nums (s : ByteArray) : Lib.strCells s = (strNums s).map (Value.int .u8) := by
  unfold Lib.strCells strNums; rw [List.map_map]; rfl
theorem elems_nums (xs : List Int) (k : IntKind) : Elems (dI k) w I (xs.map (Value.int k)) xs := by
  intro i x hx
  show (((xs.map (Value.int k)).drop (i * 1)).take 1) = [.int k x]
  rw [Nat.mul_one, ← List.map_drop, ← List.map_take, show (xs.drop i).take 1 = [x] from ?_]
  · rfl
  · have hl := (List.getElem?_eq_some_iff.1 hx).1
    rw [List.drop_eq_getElem_cons hl, List.take_succ_cons, List.take_zero, (List.getElem?_eq_some_iff.1 hx).2]
theorem ev_appendS {K : Value → World → Prop} {x y : Operand} {t u T : TypeId} {v : Value} {e : Ent} {xs zs : List Int} {s : ByteArray} {i : Nat}
    (hp : Hp c I m w) (hi : m[i]? = some e) (ho : o.op = .call { callee := .builtin .append, args := #[x, y], argTypes := #[t, u] }) (hx : evm fm x = some v) (hy : evm fm y = some (.string s)) (ht : P.underlying t = some (.slice T)) (hu : P.underlying u = some .string)
    (hT : TI P T 1 1 (.int .u8 0) false) (hv : OwnS (dI .u8) T w I v e xs) (ha : app xs (strNums s) = some zs)
    (k : ∀ v' e' w', Hp c I (m.set i e') w' → Stp I w I w' → OwnS (dI .u8) T w' I v' e' zs → K v' w') : Ev P fm w o K := by
  intro a N hf K' Q hk
  obtain ⟨hbd, rfl⟩ := app_some ha
  rw [strNums_length] at hbd
  obtain ⟨inf, hinf, hsz, hby, hz⟩ := hT.info
  have hml : (9223372036854775807 : Nat) ≤ maxLen := by simp [maxLen]
  have hrun : ∀ v' w', (Builtin.append_ #[t, u] o.type #[v, .string s]).run P w = .ok v' w' → (execOp a.eval o).run P w = .ok (.value v') w' := by
    intro v' w' hr
    simp [execOp, ho, resolve, invoke, builtin, hf.ev hx, hf.ev hy, hr]
  unfold Oper.wp
  have fin : ∀ (olds : List Value) (_ : w.ownsRow 0 T 1 v xs.length olds) (_ : Elems (dI .u8) w I olds xs)
      (hblk : ∀ g, v.ownBlock = some g → ∃ cs, e = some (g, cs, T)) (hnil : v.ownBlock = none → v = .slice none 0 0 ∧ e = none ∧ xs = []), Oper.upon P o a K' Q ((execOp a.eval o).run P w) := by
    intro olds hown hold hblk hnil
    obtain ⟨v', w', hr, hown', hgr, hnn⟩ := Lib.run_append_own_string (P := P) w 0 t u o.type T inf ht hu hinf hz hsz hby v xs.length olds hown s (by omega) (by omega) (Nat.zero_le _)
    have hat : v'.ownBlock = v.ownBlock ∨ v'.ownBlock = some w.heap.size := by
      rcases hown.2 with ⟨rfl, h0⟩ | ⟨g, cap, cur, rfl, _, hg, hnc, hcm, hcs, htake⟩
      · rcases Nat.eq_zero_or_pos s.size with hs0 | hs0
        · left; rw [hnn.2 ⟨rfl, hs0⟩]
        · have h2 := run_append_nil_string (P := P) w t u o.type T inf (.int .u8 0) ht hu hinf hz s hs0 (by omega) (by rw [hby]; omega)
          rw [h2] at hr
          obtain ⟨rfl, rfl⟩ : _ = v' ∧ _ = w' := by injection hr with h1 h2; exact ⟨h1, h2⟩
          right; rfl
      · by_cases hroom : xs.length + s.size ≤ cap
        · have h2 := Lib.run_append_room_string (P := P) w t u o.type T inf ht hu hinf hsz g xs.length cap cur hg s hroom (by omega)
          rw [h2] at hr
          obtain ⟨rfl, rfl⟩ : _ = v' ∧ _ = w' := by injection hr with h1 h2; exact ⟨h1, h2⟩
          left; rfl
        · have hcells : ∀ (j : Nat) (u : Value), olds[j]? = some u → w.cell? ((⟨g, 0, none⟩ : Addr).add j) = some u := by
            intro j u hj
            rw [add_lit, Nat.zero_add, cell_of_row w g j cur T (0, 0) hg]
            have h3 := htake ▸ hj
            rw [List.getElem?_take] at h3
            split at h3
            · simpa using h3
            · cases h3
          have h2 := Lib.run_append_grow_string (P := P) w t u o.type T inf (.int .u8 0) ht hu hinf hz ⟨g, 0, none⟩ xs.length cap olds (by rw [hsz]; exact hown.1) hcells s (by omega) (by omega) (by rw [hby]; exact Go.growslice_fits (by omega) (by omega))
          rw [h2] at hr
          obtain ⟨rfl, rfl⟩ : _ = v' ∧ _ = w' := by injection hr with h1 h2; exact ⟨h1, h2⟩
          right; rfl
    rw [hrun _ _ hr]
    rcases hown'.2 with ⟨rfl, h00⟩ | ⟨g, cap, cur, rfl, _, hg, hnc, hcm, hcs, htake⟩
    · -- nothing came up
      have h1 := hnn.1 rfl
      obtain ⟨rfl, hs0⟩ := h1
      obtain ⟨_, rfl, rfl⟩ := hnil rfl
      obtain ⟨h1, h2⟩ := hp.turn (e' := none) hi hgr.size hgr.os hgr.tape hgr.output (fun k hk _ => hgr.block k hk (by simp [Value.ownBlock])) (fun g' cs1 t1 e0 => by cases e0)
      have hsn : strNums s = [] := List.eq_nil_of_length_eq_zero (by rw [strNums_length]; exact hs0)
      exact hk _ _ (k _ _ _ h1 h2 (.inl ⟨rfl, rfl, by rw [hsn]; rfl⟩))
    · have hcur : w'.heap[g]? = some (.cells cur.toList.toArray T (0, 0)) := by simpa using hg
      have hE : Elems (dI .u8) w' I cur.toList (xs ++ strNums s) := by
        refine elems_of_take (xs.length + s.size) ?_ (by rw [List.length_append, strNums_length]; exact (Nat.mul_one _).symm)
        rw [Nat.mul_one] at htake
        rw [htake, strCells_nums]
        intro j x hx
        have := elems_app (d := dI .u8) (w := w) (I := I) (rest := []) hold (by rw [hown.1]; rfl) (elems_nums (strNums s) .u8) (by rw [List.length_map]; exact (Nat.mul_one _).symm) j x hx
        rwa [List.append_nil] at this
      have hb2 : v.ownBlock = some g ∨ g = w.heap.size := by
        rcases hat with hat | hat
        · left; rw [← hat]; rfl
        · right; simpa [Value.ownBlock] using hat
      obtain ⟨h1, h2⟩ := hp.turn (e' := some (g, cur.toList, T)) hi hgr.size hgr.os hgr.tape hgr.output (fun k hk hne => hgr.block k hk (fun e0 => by
          obtain ⟨cs, he⟩ := hblk k e0.symm
          exact hne cs T he)) (fun g' cs1 t1 e0 => by
        simp only [Option.some.injEq, Prod.mk.injEq] at e0
        obtain ⟨rfl, rfl, rfl⟩ := e0
        refine ⟨hcur, ?_⟩
        rcases hb2 with hb2 | hb2
        · obtain ⟨cs, he⟩ := hblk g hb2
          exact .inr ⟨cs, T, he⟩
        · exact .inl (by omega))
      exact hk _ _ (k _ _ _ h1 h2 (.inr ⟨g, _, _, by rw [List.length_append, strNums_length], rfl, by rw [List.length_append, strNums_length]; exact hnc, hcm, (by have h9 := hcs; simp only [Nat.mul_one] at h9; exact (Array.length_toList.trans h9).trans (Nat.mul_one _).symm), hE⟩))
  rcases hv with ⟨rfl, rfl, rfl⟩ | ⟨g, cs, n, rfl, rfl, h3, h4, h5, h7⟩
  · exact fin [] (World.ownsRow_nil w 0 T 1) (fun i x hx => by simp at hx) (fun g hg => by simp [Value.ownBlock] at hg) (fun _ => ⟨rfl, rfl, rfl⟩)
  · refine fin (cs.take (xs.length * 1)) ⟨?_, .inr ⟨g, n, cs.toArray, rfl, Nat.zero_le _, (hp.own i g cs T hi).1, h3, h4, ?_, by simp⟩⟩ (elems_take h7 _ rfl) (fun g' hg' => ⟨cs, by simp [Value.ownBlock] at hg'; rw [hg']⟩) (fun h => by simp [Value.ownBlock] at h)
    · have h6 : cs.length = n * 1 := h5
      rw [List.length_take, h6]; omega
    · have h6 : cs.length = n * 1 := h5
      simpa using h6

/- ### a pointer that is nil or leads to its own box -/
def SelfP (g : Nat) (v : Value) : Prop := v = .pointer none ∨ v = .pointer (some ⟨g, 0, none⟩)
theorem SelfP.one {g : Nat} {v : Value} (h : SelfP g v) : v.oneCell' = true := by rcases h with rfl | rfl <;> rfl
/- ### what a builder holds, as a string -/
def bytesO : List Int → Option (List UInt8)
  | [] => some []
  | x :: xs => if 0 ≤ x ∧ x < 256 then (bytesO xs).map (x.toNat.toUInt8 :: ·) else none
def strO (xs : List Int) : Option ByteArray := (bytesO xs).map fun l => ⟨l.toArray⟩
theorem bytesO_cells : ∀ {xs : List Int} {l : List UInt8}, bytesO xs = some l → Lib.byteCells l = xs.map (Value.int .u8)
  | [], l, h => by cases h; rfl
  | x :: xs, l, h => by
    unfold bytesO at h
    split at h
    · rename_i hx
      obtain ⟨l', h', rfl⟩ := Option.map_eq_some_iff.1 h
      rw [List.map_cons, ← bytesO_cells h']
      show Value.int .u8 ((x.toNat.toUInt8).toNat : Int) :: _ = _
      rw [show ((x.toNat.toUInt8).toNat : Int) = x from by
        have : x.toNat.toUInt8.toNat = x.toNat % 256 := rfl
        rw [this]; omega]
      rfl
    · cases h
/-- A builder that a call has made itself: what the shelf asks of one. -/
theorem Hp.builder {T e : TypeId} {g : Nat} {va v : Value} {en : Ent} {xs : List Int} {l : List UInt8} {B : Nat} {m' : List Ent} (hp : Hp c I (some (g, [va, v], T) :: en :: m') w) (hs : SelfP g va) (ho : OwnS (dI .u8) e w I v en xs) (hl : bytesO xs = some l)
    (hg : B ≤ g) (he : ∀ g' cs t, en = some (g', cs, t) → B ≤ g') : Lib.IsBuilder T e B g (Lib.byteCells l) w := by
  have hh : w.heap[g]? = some (.cells #[va, v] T (0, 0)) := (hp.own 0 g _ _ rfl).1
  have hb := bytesO_cells hl
  have hn : (Lib.byteCells l).length = xs.length := by rw [hb, List.length_map]
  have key : ∀ p, va = p → Lib.BuilderAt T e B g p (Lib.byteCells l) w := by
    rintro p rfl
    refine ⟨hg, v, hh, ?_, ?_⟩
    · rcases ho with ⟨rfl, rfl, rfl⟩ | ⟨g', cs, n, rfl, rfl, h3, h4, h5, h7⟩
      · rw [hb]; exact World.ownsRow_nil w B e 1
      · have h6 : cs.length = n * 1 := h5
        refine ⟨by rw [Nat.mul_one], .inr ⟨g', n, cs.toArray, by rw [hn], he g' cs e rfl, (hp.own 1 g' cs e rfl).1, by rw [hn]; exact h3, h4, by simpa using h6, ?_⟩⟩
        rw [Nat.mul_one, hn, hb]
        apply List.ext_getElem?
        intro i
        rw [List.getElem?_map]
        cases hx : xs[i]? with
        | none =>
          have := List.getElem?_eq_none_iff.1 hx
          rw [List.getElem?_eq_none (by simp; omega)]; rfl
        | some x =>
          have hi := (List.getElem?_eq_some_iff.1 hx).1
          have h8 : ((cs.drop (i * 1)).take 1) = [.int .u8 x] := h7 i x hx
          have h9 : ((cs.drop (i * 1)).take 1)[0]? = some (.int .u8 x) := by rw [h8]; rfl
          have h10 := drop_take_get h9
          rw [List.getElem?_take, if_pos hi]
          simpa using h10
    · intro e0
      rcases ho with ⟨rfl, rfl, rfl⟩ | ⟨g', cs, n, rfl, rfl, h3, h4, h5, h7⟩
      · simp [Value.ownBlock] at e0
      · simp only [Value.ownBlock, Option.some.injEq] at e0
        subst e0
        have := hp.inj 0 1 g' _ _ _ _ rfl rfl
        omega
  rcases hs with rfl | rfl
  · exact .inl (key _ rfl)
  · exact .inr (key _ rfl)

/- ### worlds that the library leaves -/
theorem below_grow (w : World) (k : Nat) (os : Array Obj) : Below w.heap.size w (Go.Sort.grow (w.drewN k) os) :=
  ⟨rfl, rfl, rfl, by show w.heap.size ≤ (w.heap ++ os).size; rw [Array.size_append]; exact Nat.le_add_right _ _, fun g hg => by show (w.heap ++ os)[g]? = _; exact Array.getElem?_append_left hg⟩
theorem below_bytesWorld (w : World) (e : TypeId) (s : ByteArray) : Below w.heap.size w (Lib.bytesWorld w e s) := by
  have h1 : Below w.heap.size w (w.drew.alloc (.cells (Lib.bytesCells w e s) e)) := Below.alloc (Ch.drew [] w).below (Nat.le_refl _) _
  unfold Lib.bytesWorld World.freeze
  split
  · exact h1
  · refine ⟨h1.os, h1.tape, h1.output, Nat.le_trans h1.size (Nat.le_of_eq (by simp)), fun g hg => ?_⟩
    rw [← h1.block g hg]
    dsimp only
    rw [Array.getElem?_modify, if_neg (by omega)]
end
end Go.Proofs.YtcdboppghnchpaaDoor.Gw

namespace Go.Proofs.YtcdboppghnchpaaDoor.Gw
open Go Go.RowKit
/- ### A slice that is lent to be read -/
/-- What a call has left, seen from fewer readable blocks: only its own rows are kept. -/
theorem Hp.loose {w w' : World} {J I I' : Nat → Prop} {B : List Nat} {nw : List Ent} (k : Hp ⟨w, J, B⟩ I' nw w') (hJ : ∀ g, I g → J g) (hI : ∀ g, I g → g < w.heap.size) : Hp ⟨w, I, B⟩ I nw w' :=
  ⟨k.ch, fun g hg => Nat.lt_of_lt_of_le (hI g hg) k.ch.size, fun g hg => .inl hg, fun g hg => ⟨hg, (k.st g (hJ g hg)).2⟩,
    fun i g cs t hi => ⟨(k.own i g cs t hi).1, fun hg => (k.own i g cs t hi).2.1 (k.st g (hJ g hg)).1, (k.own i g cs t hi).2.2⟩, k.inj⟩
theorem OwnS.flatAt {α : Type} {d : Desc α} {T : TypeId} {w w' : World} {I I' : Nat → Prop} {v : Value} {e : Ent} {xs : List α} (h : OwnS d T w I v e xs) (hf : ∀ w I w' I' cs x, d.rep w I cs x → d.rep w' I' cs x) : OwnS d T w' I' v e xs := by
  rcases h with h | ⟨g, cs, n, h1, h2, h3, h4, h5, h7⟩
  · exact .inl h
  · exact .inr ⟨g, cs, n, h1, h2, h3, h4, h5, fun i x hx => hf _ _ _ _ _ _ (h7 i x hx)⟩
end Go.Proofs.YtcdboppghnchpaaDoor.Gw
