/-
  Verification conditions for the model of Go: general lemmas, no text of a program in them.
-/
import Derived.Test.YthhghkcopfnbiaaGreatDoorCoreA
import Derived.Lib.AppendZerosOnto
namespace Go.Proofs.YthhghkcopfnbiaaGreatDoor.Gw
open Go Go.RowKit
/- ### append(s, make([]T, k)...) -/
theorem zc_eq (z : Array Value) (n : Nat) : Builtin.zeroCells z n = (zrow n z.toList).toArray := by
  have h := zrow_eq n z z.size rfl
  rw [← h]
  split
  · rename_i h0
    simp [Builtin.zeroCells, h0]
  · rfl
section
variable {P : Program}
theorem run_append_none_zeros (w : World) (t tn ty e : TypeId) (i : TypeInfo) (kq kn : IntKind) (ht : P.underlying t = some (.slice e)) (htn : P.underlying tn = some (.int kn)) (hi : P.info? e = some i)
    (base : Option Addr) (n cap : Nat) (hnc : n ≤ cap) : (Builtin.append_ #[t, tn] ty #[.slice base n cap, .int kq (0 : Nat)]).run P w = .ok (.slice base n cap) w := by
  have hw : IntKind.i64.wrap (0 : Int) = 0 := by decide
  cases base <;> simp [Builtin.append_, run_underlying ht, run_underlying htn, sizeOf, typeInfo, hi, asInt, asIntOf, hw, hnc, storeCells]
theorem run_append_room_zeros (w : World) (t tn ty e : TypeId) (i : TypeInfo) (z : Value) (kq kn : IntKind) (ht : P.underlying t = some (.slice e)) (htn : P.underlying tn = some (.int kn)) (hi : P.info? e = some i) (hz : i.zero = some z)
    (hzs : z.cells.size = i.size) (g n cap : Nat) (cur : Array Value) (hg : w.heap[g]? = some (.cells cur e (0, 0))) (k : Nat) (h0 : 0 < k) (hs : 0 < i.size) (h63 : ((n + k : Nat) : Int) ≤ 9223372036854775807) (h48 : k * i.bytes ≤ 281474976710656)
    (hroom : n + k ≤ cap) (hfit : n * i.size + k * i.size ≤ cur.size) (h1 : ∀ u ∈ zrow k z.cells.toList, u.oneCell' = true) :
    (Builtin.append_ #[t, tn] ty #[.slice (some ⟨g, 0, none⟩) n cap, .int kq k]).run P w =
      .ok (.slice (some ⟨g, 0, none⟩) (n + k) cap) (w.setRow g (cur.toList.take (n * i.size) ++ zrow k z.cells.toList ++ cur.toList.drop (n * i.size + (zrow k z.cells.toList).length)).toArray) := by
  have hl : (zrow k z.cells.toList).length = k * i.size := by rw [zrow_length]; simp [hzs]
  have hk : k ≠ 0 := by omega
  have hw : IntKind.i64.wrap (k : Int) = k := by rw [IntKind.wrap_i64]; omega
  have h48i : ¬ (281474976710656 < (k : Int) * (i.bytes : Int)) := by rw [← Int.natCast_mul]; omega
  have hneg : ¬ ((k : Int) < 0) := by omega
  have hns : ¬ (k * i.size = 0) := Nat.mul_ne_zero hk (by omega)
  have hst := run_storeCells_at P g (n * i.size) e (zrow k z.cells.toList) 0 cur w hg (by rw [hl]; simpa using hfit) h1
  simp only [Nat.add_zero] at hst
  simp [Builtin.append_, run_underlying ht, run_underlying htn, sizeOf, typeInfo, zeroValue, hi, hz, asInt, asIntOf, hw, hneg, hns, h48i, hroom, Addr.add_lit, zc_eq, hst]
theorem run_append_own_zeros (w : World) (t tn ty e : TypeId) (i : TypeInfo) (z : Value) (kq kn : IntKind) (ht : P.underlying t = some (.slice e)) (htn : P.underlying tn = some (.int kn)) (hi : P.info? e = some i) (hz : i.zero = some z)
    (hzs : z.cells.size = i.size) (hs : 0 < i.size) (v : Value) (n : Nat) (xs : List Value) (hown : w.ownsRow 0 e i.size v n xs) (k : Nat) (h0 : 0 < k) (h1 : ∀ u ∈ zrow k z.cells.toList, u.oneCell' = true)
    (h63 : n + k ≤ maxLen) (hbytes : (n + k) * i.bytes ≤ 140737488355328) (hsmall : n + k ≤ 9223372036854775807) :
    ∃ v' w', (Builtin.append_ #[t, tn] ty #[v, .int kq k]).run P w = .ok v' w' ∧ w'.ownsRow 0 e i.size v' (n + k) (xs ++ zrow k z.cells.toList) ∧ w.grownBy w' v.ownBlock ∧
      (v'.ownBlock = v.ownBlock ∨ v'.ownBlock = some w.heap.size) := by
  have hl : (zrow k z.cells.toList).length = k * i.size := by rw [zrow_length]; simp [hzs]
  have hlen : (xs ++ zrow k z.cells.toList).length = (n + k) * i.size := by rw [List.length_append, hown.1, hl, Nat.add_mul]
  have hk48 : k * i.bytes ≤ 281474976710656 := by
    have : k * i.bytes ≤ (n + k) * i.bytes := Nat.mul_le_mul_right _ (by omega)
    omega
  have grown : ∀ (old : Nat), old < n + k → ∀ (row : Option Nat),
      (w.drew.alloc (.cells (xs.toArray ++ Builtin.zeroCells z.cells k ++ Builtin.zeroCells z.cells (grownCap w (n + k) old e - (n + k))) e)).ownsRow 0 e i.size
        (.slice (some ⟨w.heap.size, 0, none⟩) (n + k) (grownCap w (n + k) old e)) (n + k) (xs ++ zrow k z.cells.toList) ∧
      w.grownBy (w.drew.alloc (.cells (xs.toArray ++ Builtin.zeroCells z.cells k ++ Builtin.zeroCells z.cells (grownCap w (n + k) old e - (n + k))) e)) row := by
    intro old ho row
    have hge := grownCap_ge w (n + k) old e
    have hcm : grownCap w (n + k) old e ≤ maxLen := grownCap_le_maxLen w (n + k) old e h63
    refine ⟨⟨hlen, .inr ⟨w.heap.size, _, _, rfl, Nat.zero_le _, heap_alloc_new w.drew _, hge, hcm, ?_, ?_⟩⟩, ⟨rfl, rfl, rfl, by simp, fun j hj _ => heap_alloc_old w.drew _ (by simpa using hj)⟩⟩
    · simp only [Array.size_append, List.size_toArray, size_zeroCells, hzs, hown.1, ← Nat.add_mul]
      congr 1
      omega
    · rw [zc_eq z.cells k]
      simp only [Array.toList_append, List.append_assoc]
      rw [← List.append_assoc, ← hlen]
      exact List.take_left
  rcases hown.2 with ⟨rfl, rfl⟩ | ⟨g, cap, cur, rfl, hbg, hg, hnc, hcm, hcs, htake⟩
  · have hx : xs = [] := List.eq_nil_of_length_eq_zero (by simpa using hown.1)
    subst hx
    have hr := Lib.run_append_nil_zeros (P := P) w t tn ty e i z kq kn ht htn hi hz k h0 hs (by omega) (by omega)
    have hgr := grown 0 (by omega) (Value.ownBlock (.slice none 0 0))
    simp only [Nat.zero_add, List.nil_append, Array.empty_append] at hgr ⊢
    exact ⟨_, _, hr, hgr.1, hgr.2, Or.inr rfl⟩
  · by_cases hroom : n + k ≤ cap
    · have hfit : n * i.size + k * i.size ≤ cur.size := by rw [hcs, ← Nat.add_mul]; exact Nat.mul_le_mul_right _ hroom
      have hr := run_append_room_zeros (P := P) w t tn ty e i z kq kn ht htn hi hz hzs g n cap cur hg k h0 hs (by omega) hk48 hroom hfit h1
      refine ⟨_, _, hr, ⟨hlen, .inr ⟨g, cap, _, rfl, hbg, setRow_heap w g cur _ e _ hg, hroom, hcm, ?_, ?_⟩⟩, ⟨rfl, rfl, rfl, by simp, fun j _ hj => setRow_other w g j _ (fun e => hj (by simp [Value.ownBlock, e]))⟩, Or.inl rfl⟩
      · simp only [List.size_toArray, List.length_append, List.length_take, List.length_drop, Array.length_toList]
        omega
      · rw [htake, ← hlen]
        exact List.take_left
    · have holds : ∀ j u, xs[j]? = some u → w.cell? ((⟨g, 0, none⟩ : Addr).add j) = some u := hown.cells (g := g) rfl
      have hf := run_firstCells_some (P := P) w.drew i.size n ⟨g, 0, none⟩ n cap xs hown.1 (fun j u hj => by rw [World.cell?_drew]; exact holds j u hj)
      have hr := Lib.run_append_grow_zeros (P := P) w t tn ty e i z kq kn ht htn hi hz (some ⟨g, 0, none⟩) n cap xs hf k h0 hs (by omega) (by omega) hk48 (growslice_fits (by omega) hbytes)
      have hgr := grown cap (by omega) (Value.ownBlock (.slice (some ⟨g, 0, none⟩) n cap))
      exact ⟨_, _, hr, hgr.1, hgr.2, Or.inr rfl⟩
end
/-- append's bound, for zeros. -/
def appz {α : Type} (xs : List α) (n : Int) (x : α) : Option (List α) := if 0 ≤ n ∧ (xs.length : Int) + n ≤ 1099511627776 then some (xs ++ List.replicate n.toNat x) else none
theorem appz_some {α : Type} {xs zs : List α} {n : Int} {x : α} (h : appz xs n x = some zs) : 0 ≤ n ∧ (xs.length : Int) + n ≤ 1099511627776 ∧ zs = xs ++ List.replicate n.toNat x := by
  unfold appz at h
  split at h
  · rename_i hn; exact ⟨hn.1, hn.2, (Option.some.inj h).symm⟩
  · cases h
section
variable {P : Program} {c : Cx} {I : Nat → Prop} {m : List Ent} {w : World} {fm : FM} {o : Oper}
theorem ev_appendZ {α : Type} {d : Desc α} {K : Value → World → Prop} {x y : Operand} {t tn T : TypeId} {v : Value} {e : Ent} {xs zs : List α} {x0 : α} {n : Int} {kq kn : IntKind} {bytes : Nat} {z : Value} {agg : Bool} {i : Nat}
    (hp : Hp c I m w) (hi : m[i]? = some e) (ho : o.op = .call { callee := .builtin .append, args := #[x, y], argTypes := #[t, tn] }) (hx : evm fm x = some v) (hy : evm fm y = some (.int kq n)) (ht : P.underlying t = some (.slice T)) (htn : P.underlying tn = some (.int kn))
    (hT : TI P T d.size bytes z agg) (hd : Nat.blt 0 d.size = true) (hb : Nat.ble bytes 128 = true) (hv : OwnS d T w I v e xs) (h0 : ∀ w I, d.rep w I z.cells.toList x0) (h1 : ∀ u ∈ z.cells.toList, u.oneCell' = true) (ha : appz xs n x0 = some zs)
    (k : ∀ v' e' w', Hp c I (m.set i e') w' → Stp I w I w' → OwnS d T w' I v' e' zs → K v' w') : Ev P fm w o K := by
  intro a N hf K' Q hk
  obtain ⟨hn0, hbn, rfl⟩ := appz_some ha
  obtain ⟨q, rfl⟩ : ∃ q : Nat, n = (q : Int) := ⟨n.toNat, by omega⟩
  rw [Int.toNat_natCast] at *
  have hb' := Nat.le_of_ble_eq_true hb
  have hd' : 0 < d.size := by simpa [Nat.blt_eq] using hd
  obtain ⟨inf, hinf, hsz, hby, hz⟩ := hT.info
  have hrun : ∀ v' w', (Builtin.append_ #[t, tn] o.type #[v, .int kq q]).run P w = .ok v' w' → (execOp a.eval o).run P w = .ok (.value v') w' := by
    intro v' w' hr
    simp [execOp, ho, resolve, invoke, builtin, hf.ev hx, hf.ev hy, hr]
  have hml : (9223372036854775807 : Nat) ≤ maxLen := by simp [maxLen]
  have hset : m.set i e = m := by
    obtain ⟨hl, he⟩ := List.getElem?_eq_some_iff.1 hi
    rw [← he]; exact List.set_getElem_self hl
  unfold Oper.wp
  rcases Nat.eq_zero_or_pos q with h00 | h00
  · subst h00
    have hrr : (Builtin.append_ #[t, tn] o.type #[v, .int kq ((0 : Nat) : Int)]).run P w = .ok v w := by
      rcases hv with ⟨rfl, rfl, rfl⟩ | ⟨g, cs, n, rfl, rfl, h3, h4, h5, h7⟩
      · exact run_append_none_zeros w t tn o.type T inf kq kn ht htn hinf _ _ _ (Nat.le_refl _)
      · exact run_append_none_zeros w t tn o.type T inf kq kn ht htn hinf _ _ _ h3
    rw [hrun _ _ hrr]
    exact hk _ _ (k v e w (by rw [hset]; exact hp) (Stp.refl _ _) (by simpa using hv))
  · have hzs : z.cells.size = inf.size := by rw [hsz]; exact hT.zs
    have hn1 : ∀ u ∈ zrow q z.cells.toList, u.oneCell' = true := by
      have : ∀ q, ∀ u ∈ zrow q z.cells.toList, u.oneCell' = true := fun q => by
        induction q with
        | zero => intro u hu; cases hu
        | succ q ih => intro u hu; rcases List.mem_append.1 hu with hu | hu
                       · exact h1 u hu
                       · exact ih u hu
      exact this q
    have hnE : Elems d w I (zrow q z.cells.toList) (List.replicate q x0) := (rep_zero q (h0 w I)).2.2
    have hnl : (zrow q z.cells.toList).length = (List.replicate q x0).length * d.size := by rw [zrow_length, List.length_replicate]; congr 1; simp [hzs, hsz]
    have hbq : (xs.length + q) * inf.bytes ≤ 140737488355328 := by
      rw [hby]
      have : (xs.length + q) * bytes ≤ (xs.length + q) * 128 := Nat.mul_le_mul_left _ hb'
      omega
    have fin : ∀ (olds : List Value) (_ : w.ownsRow 0 T d.size v xs.length olds) (_ : Elems d w I olds xs)
        (hblk : ∀ g, v.ownBlock = some g → ∃ cs, e = some (g, cs, T)), Oper.upon P o a K' Q ((execOp a.eval o).run P w) := by
      intro olds hown hold hblk
      rw [← hsz] at hown
      obtain ⟨v', w', hr, hown', hgr, hat⟩ := run_append_own_zeros (P := P) w t tn o.type T inf z kq kn ht htn hinf hz hzs (by omega) v xs.length olds hown q h00 hn1 (by omega) hbq (by omega)
      rw [hsz] at hown' hown
      rw [hrun _ _ hr]
      rcases hown'.2 with ⟨rfl, h000⟩ | ⟨g, cap, cur, rfl, _, hg, hnc, hcm, hcs, htake⟩
      · omega
      · have hcur : w'.heap[g]? = some (.cells cur.toList.toArray T (0, 0)) := by simpa using hg
        have hE : ∀ {w''}, Stp I w I w'' → Elems d w'' I cur.toList (xs ++ List.replicate q x0) := by
          intro w'' hst
          refine elems_of_take ((xs.length + q) * d.size) ?_ (by rw [List.length_append, List.length_replicate])
          rw [htake]
          intro j x hx
          have := elems_app (d := d) (rest := []) hold (by rw [hown.1]) hnE hnl j x hx
          rw [List.append_nil] at this
          exact d.step this hst
        have hb2 : v.ownBlock = some g ∨ g = w.heap.size := by
          rcases hat with hat | hat
          · left; rw [← hat]; rfl
          · right; simpa [Value.ownBlock] using hat
        obtain ⟨g1, g2⟩ := hp.turn (e' := some (g, cur.toList, T)) hi hgr.size hgr.os hgr.tape hgr.output (fun k hk hne => hgr.block k hk (fun e0 => by
            obtain ⟨cs, he⟩ := hblk k e0.symm
            exact hne cs T he)) (fun g' cs1 t1 e0 => by
          simp only [Option.some.injEq, Prod.mk.injEq] at e0
          obtain ⟨rfl, rfl, rfl⟩ := e0
          refine ⟨hcur, ?_⟩
          rcases hb2 with hb2 | hb2
          · obtain ⟨cs, he⟩ := hblk g hb2
            exact .inr ⟨cs, T, he⟩
          · exact .inl (by omega))
        exact hk _ _ (k _ _ _ g1 g2 (.inr ⟨g, _, _, by rw [List.length_append, List.length_replicate], rfl, by rw [List.length_append, List.length_replicate]; exact hnc, hcm, by simpa using hcs, hE g2⟩))
    rcases hv with ⟨rfl, rfl, rfl⟩ | ⟨g, cs, n, rfl, rfl, h3, h4, h5, h7⟩
    · exact fin [] (World.ownsRow_nil w 0 T d.size) (fun i x hx => by simp at hx) (fun g hg => by simp [Value.ownBlock] at hg)
    · refine fin (cs.take (xs.length * d.size)) ⟨?_, .inr ⟨g, n, cs.toArray, rfl, Nat.zero_le _, (hp.own i g cs T hi).1, h3, h4, by simpa using h5, by simp⟩⟩ (elems_take h7 _ rfl) (fun g' hg' => ⟨cs, by simp [Value.ownBlock] at hg'; rw [hg']⟩)
      rw [List.length_take, h5, Nat.min_eq_left (Nat.mul_le_mul_right _ h3)]
end
/- ### A row that a call takes and hands back, cut or not at all -/
section
variable {c : Cx} {I : Nat → Prop} {m : List Ent} {w : World}
theorem Hp.backS (h : Hp c I m w) {i : Nat} {e e' : Ent} (hi : m[i]? = some e) {I' : Nat → Prop} {w' : World} (k : Hp ⟨w, I, blk e⟩ I' [e'] w') (hs : ∀ g, g ∈ blk e' → g ∈ blk e) : Hp c I' (m.set i e') w' := by
  have hch : Ch (blk e) w w' := k.ch
  have hblk : ∀ j g cs t, j ≠ i → m[j]? = some (some (g, cs, t)) → g ∉ blk e := by
    intro j g cs t hj hm hg
    cases e with
    | none => cases hg
    | some e =>
      obtain ⟨g', cs', t'⟩ := e
      simp only [blk, List.mem_singleton] at hg
      subst hg
      exact hj (h.inj j i g cs cs' t t' hm hi)
  have hsame : ∀ g cs t, e' = some (g, cs, t) → ∃ cs0 t0, e = some (g, cs0, t0) := by
    rintro g cs t rfl
    have hs := hs g (by simp [blk])
    cases e with
    | none => cases hs
    | some e => obtain ⟨g', cs', t'⟩ := e; simp only [blk, List.mem_singleton] at hs; subst hs; exact ⟨_, _, rfl⟩
  have old : ∀ (j g : Nat) (cs : List Value) (t : TypeId), (m.set i e')[j]? = some (some (g, cs, t)) → (j = i ∧ e' = some (g, cs, t)) ∨ (j ≠ i ∧ m[j]? = some (some (g, cs, t))) := by
    intro j g cs t hj
    rw [List.getElem?_set] at hj
    split at hj
    · rename_i e0; subst e0
      split at hj <;> simp only [Option.some.injEq, reduceCtorEq] at hj
      exact .inl ⟨rfl, hj⟩
    · rename_i e0; exact .inr ⟨fun e1 => e0 e1.symm, hj⟩
  refine ⟨⟨hch.os.trans h.ch.os, hch.tape.trans h.ch.tape, hch.output.trans h.ch.output, Nat.le_trans h.ch.size hch.size, fun g hg hn => ?_⟩, k.imm, fun g hg => ?_, h.st.trans k.st, ?_, ?_⟩
  · rw [hch.old g (Nat.lt_of_lt_of_le hg h.ch.size) (fun hb => by
      cases e with
      | none => cases hb
      | some e =>
        obtain ⟨g', cs', t'⟩ := e
        simp only [blk, List.mem_singleton] at hb
        subst hb
        rcases (h.own i g cs' t' hi).2.2 with h0 | h0
        · omega
        · exact hn h0)]
    exact h.ch.old g hg hn
  · rcases k.lim g hg with h0 | h0
    · exact h.lim g h0
    · exact .inr (Nat.le_trans h.ch.size h0)
  · intro j g cs t hj
    rcases old j g cs t hj with ⟨rfl, hj1⟩ | ⟨hne, hj1⟩
    · subst hj1
      obtain ⟨cs0, t0, rfl⟩ := hsame g cs t rfl
      have := k.own 0 g cs t (by simp)
      exact ⟨this.1, this.2.1, (h.own j g cs0 t0 hi).2.2⟩
    · have ho := h.own j g cs t hj1
      refine ⟨(hch.old g (h.lt hj1) (hblk j g cs t hne hj1)).trans ho.1, fun hI => ?_, ho.2.2⟩
      rcases k.lim g hI with h2 | h2
      · exact ho.2.1 h2
      · have h2 : w.heap.size ≤ g := h2
        have := h.lt hj1; omega
  · intro a b g cs cs' t t' ha hb
    rcases old a g cs t ha with ⟨rfl, ha1⟩ | ⟨hna, ha1⟩ <;> rcases old b g cs' t' hb with ⟨rfl, hb1⟩ | ⟨hnb, hb1⟩
    · rfl
    · obtain ⟨cs0, t0, rfl⟩ := hsame g cs t ha1; exact h.inj _ _ g _ _ _ _ hi hb1
    · obtain ⟨cs0, t0, rfl⟩ := hsame g cs' t' hb1; exact h.inj _ _ g _ _ _ _ ha1 hi
    · exact h.inj a b g _ _ t t' ha1 hb1
theorem blk_none (e : Ent) : ∀ g, g ∈ blk none → g ∈ blk e := fun _ h => by cases h
end
section
variable {P : Program} {I : Nat → Prop} {w : World} {fm : FM} {o : Oper}
/-- An own slice cut at its end. -/
theorem ev_cutO {α : Type} {d : Desc α} {K : Value → World → Prop} {wz : World} {t T : TypeId} {x : Operand} {lo hi : Option Operand} {v : Value} {e : Ent} {kl kh : IntKind} {h : Int} {bytes : Nat} {z : Value} {agg : Bool} {xs ys : List α}
    (ho : o.op = .slice t x lo hi none) (hx : evm fm x = some v) (hlo : evo fm lo (.int kl 0) = some (.int kl 0)) (hhi : evo fm hi (.int kh xs.length) = some (.int kh h)) (ht : P.underlying t = some (.slice T)) (he : TI P T d.size bytes z agg)
    (hr : OwnS d T w I v e xs) (hc : cut xs 0 h = some ys) (k : ∀ u, OwnS d T w I u e ys → K u wz) : Ev P fm wz o K := by
  obtain ⟨h0, h1, h2, rfl⟩ := cut_some hc
  have hlen : ((xs.take h.toNat).drop (0 : Int).toNat).length = h.toNat := by simp; omega
  rcases hr with ⟨rfl, rfl, rfl⟩ | ⟨g, cs, n, rfl, rfl, h3, h4, h5, h7⟩
  · have hh0 : h = 0 := by simp at h2; omega
    subst hh0
    exact ev0 (rn_sliceV ho hx (Nat.le_refl _) hlo hhi ht he (by omega) (by omega) (by omega)) (k _ (.inl ⟨by simp, rfl, by simp⟩))
  · refine ev0 (rn_sliceV ho hx h3 hlo hhi ht he h0 h1 h2) (k _ (.inr ⟨g, cs, n, ?_, rfl, by rw [hlen]; omega, h4, h5, fun i u hu => ?_⟩))
    · rw [hlen]
      by_cases e0 : n = (0 : Int).toNat
      · rw [if_pos e0]; simp
      · rw [if_neg e0]; simp [add_lit]
    · have hu' : (xs.take h.toNat)[i]? = some u := by simpa using hu
      rw [List.getElem?_take] at hu'
      split at hu'
      · exact h7 i u hu'
      · cases hu'
end
end Go.Proofs.YthhghkcopfnbiaaGreatDoor.Gw
