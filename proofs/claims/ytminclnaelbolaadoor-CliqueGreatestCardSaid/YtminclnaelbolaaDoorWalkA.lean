/-
  Each function of the program computes the plain function of its name.
-/
import Derived.Test.YtminclnaelbolaaDoorFactsA
namespace Go.Proofs.YtminclnaelbolaaDoor
open Go Go.Proofs.YtminclnaelbolaaDoor.Gw Go.RowKit
set_option linter.unusedVariables false
attribute [local irreducible] Ev EvQ EvS EvH
def clique_build_S (f : Int → (List Pair) → Option ((List Int) × Bool)) : Prop := ∀ (w0 : World) (I0 : Nat → Prop) (x1 : Int) (x2 : (List Pair)) (v3 : Value) (r4 : RepS dPair w0 I0 v3 x2) (hI : ∀ g, I0 g → g < w0.heap.size) (r : ((List Int) × Bool)), f x1 x2 = some r →
    Ret Tryd.prog 30 #[(.int .i64 x1), v3] w0 fun v w1 => ∃ (I1 : Nat → Prop) (u5 : Value), v = (.tuple #[u5, (.bool r.2)]) ∧ Hp ⟨w0, I0, []⟩ I1 [] w1 ∧ RepS (dI .u32) w1 I1 u5 r.1
theorem clique_build_ok (n : Nat) : clique_build_S (clique_build n) := by
  intro w0 I0 x1 x2 v3 r4 hI r h
  unfold clique_build at h
  refine enter Tryd.func30 rfl (Nat.le_of_ble_eq_true rfl) ?_
  have hp : Hp ⟨w0, I0, []⟩ I0 [] w0 := Hp.start hI
  apply go
  apply go
  apply go
  obtain ⟨y7, q8, h⟩ := bind_some h
  refine W.cut (γ := Bool) (fun g => [(0, (.int .i64 x1)), (1, v3), (14, (.bool (g)))]) (fun g w' => y7 = (g) ∧ w0 = w') ?_ ?_
  ·
    apply go
    refine sel_of (fun hc => ?_) (fun hc => ?_)
    ·
      have q8 := cond_t q8 hc
      obtain rfl := Option.some.inj q8
      exact ⟨true, (.c rfl (.c rfl (.c rfl .n))), rfl, rfl⟩
    ·
      have q8 := cond_f q8 hc
      obtain rfl := Option.some.inj q8
      exact ⟨(decide (x1 > 20)), (.c rfl (.c rfl (.c rfl .n))), rfl, rfl⟩
  ·
    rintro x6 _ ⟨hy, rfl⟩
    replace hy := hy.symm
    subst hy
    apply go
    refine sel_of (fun hc => ?_) (fun hc => ?_)
    ·
      have h := cond_t h hc
      apply go
      apply go
      apply go
      obtain rfl := Option.some.inj h
      exact ⟨I0, .slice none 0 0, rfl, hp, RepS.nil _ _ _⟩
    ·
      have h := cond_f h hc
      apply go
      apply go
      apply go
      obtain ⟨x9, q10, h⟩ := bind_some h
      refine ev_make (d := (dI .u32)) (x0 := 0) hp rfl rfl rfl Tryd.underlying46 T50 (fun _ _ => rfl) (Nat.le_of_ble_eq_true rfl) q10 ?_
      intro v11 e12 w13 hp hs o14
      replace r4 := r4.step hs
      obtain ⟨y355, q356, h⟩ := bind_some h
      refine W.cut (γ := ((List Int) × Value × Ent)) (fun g => [(6, (g.2.1))]) (fun g w' => y355 = .go (g.1) ∧ Hp ⟨w0, I0, []⟩ I0 [(g.2.2)] w' ∧ OwnS (dI .u32) 50 w' I0 (g.2.1) (g.2.2) (g.1)) ?_ ?_
      ·
        apply go
        apply go
        refine ev0 (rn_len rfl rfl Tryd.underlying22 r4) ?_
        apply go
        refine W.loop q356 (γ := (Value × Ent)) (fun s g => [(0, (.int .i64 x1)), (1, v3), (6, (g.1)), (17, v3), (18, (.int .i64 (x2.length : Int))), (19, (.int .i64 (s.2)))]) (fun s g w' => Hp ⟨w0, I0, []⟩ I0 [(g.2)] w' ∧ RepS dPair w' I0 v3 x2 ∧ OwnS (dI .u32) 50 w' I0 (g.1) (g.2) (s.1)) (v11, e12) (.c rfl (.c rfl (.c rfl (.c rfl (.c rfl (.c rfl .n)))))) ⟨hp, r4, o14⟩ ?_
        rintro ⟨x463, x467⟩ ⟨v464, e465⟩ w579 y580 ⟨hp, r4, o466⟩ q581 q582
        unfold clique_build_L1 at q581
        apply go
        apply go
        apply go
        apply go
        refine sel_of (fun hc => ?_) (fun hc => ?_)
        ·
          have q581 := cond_t q581 hc
          apply go
          apply go
          apply go
          apply go
          apply go
          obtain ⟨x583, q584, q581⟩ := bind_some q581
          refine ev_index rfl rfl rfl Tryd.underlying22 T40 r4 q584 ?_
          intro p585 c586 d587 a588
          obtain rfl := dPair_o d587
          refine ev (rn_load rfl rfl (run_loadVarA T40 rfl a588)) ?_
          refine ev_alloc hp rfl T40 ?_
          intro g589 w590 hp hs
          replace r4 := r4.step hs
          replace o466 := o466.step hs
          refine ev_storeA hp (i := 0) (off := 0) (vs := [(.int .i64 x583.A), (.int .i64 x583.B)]) rfl rfl rfl rfl T40 rfl (Nat.le_of_ble_eq_true rfl) (ones_of rfl) ?_
          intro w591 hp hs
          replace r4 := r4.step hs
          replace o466 := o466.step hs
          apply go
          obtain ⟨y593, q594, q581⟩ := bind_some q581
          refine W.cut (γ := Bool) (fun g => [(0, (.int .i64 x1)), (1, v3), (6, v464), (7, (.int .i64 x467)), (8, (.pointer (some ⟨g589, 0, none⟩))), (17, v3), (18, (.int .i64 (x2.length : Int))), (19, (.int .i64 x467)), (39, (.bool (g)))]) (fun g w' => y593 = (g) ∧ w591 = w') ?_ ?_
          ·
            apply go
            refine ev0 (rn_field rfl rfl FO40_0) ?_
            refine ev (rn_load rfl rfl (run_loadVar1 T3 (hp.cell (i := 0) (off := 0) rfl rfl))) ?_
            refine sel_of (fun hc => ?_) (fun hc => ?_)
            ·
              have q594 := cond_t q594 hc
              obtain rfl := Option.some.inj q594
              exact ⟨true, (.c rfl (.c rfl (.c rfl (.c rfl (.c rfl (.c rfl (.c rfl (.c rfl (.c rfl .n))))))))), rfl, rfl⟩
            ·
              have q594 := cond_f q594 hc
              refine ev0 (rn_field rfl rfl FO40_0) ?_
              refine ev (rn_load rfl rfl (run_loadVar1 T3 (hp.cell (i := 0) (off := 0) rfl rfl))) ?_
              refine ev0 (rn_field rfl rfl FO40_1) ?_
              refine ev (rn_load rfl rfl (run_loadVar1 T3 (hp.cell (i := 0) (off := 1) rfl rfl))) ?_
              refine sel_of (fun hc => ?_) (fun hc => ?_)
              ·
                have q594 := cond_t q594 hc
                obtain rfl := Option.some.inj q594
                exact ⟨true, (.c rfl (.c rfl (.c rfl (.c rfl (.c rfl (.c rfl (.c rfl (.c rfl (.c rfl .n))))))))), rfl, rfl⟩
              ·
                have q594 := cond_f q594 hc
                refine ev0 (rn_field rfl rfl FO40_1) ?_
                refine ev (rn_load rfl rfl (run_loadVar1 T3 (hp.cell (i := 0) (off := 1) rfl rfl))) ?_
                obtain rfl := Option.some.inj q594
                exact ⟨(decide (x583.B ≥ x1)), (.c rfl (.c rfl (.c rfl (.c rfl (.c rfl (.c rfl (.c rfl (.c rfl (.c rfl .n))))))))), rfl, rfl⟩
          ·
            rintro x592 _ ⟨hy, rfl⟩
            replace hy := hy.symm
            subst hy
            apply go
            refine sel_of (fun hc => ?_) (fun hc => ?_)
            ·
              have q581 := cond_t q581 hc
              apply go
              apply go
              apply go
              have q595 := congrArg some (q582 _ (Option.some.inj q581).symm)
              obtain rfl := Option.some.inj q595
              obtain rfl := Option.some.inj h
              have hp := hp.sel [] (by decide)
              exact ⟨I0, .slice none 0 0, rfl, hp, RepS.nil _ _ _⟩
            ·
              have q581 := cond_f q581 hc
              apply go
              apply go
              obtain ⟨y620, q621, q581⟩ := bind_some q581
              refine W.cut (γ := Bool) (fun g => [(0, (.int .i64 x1)), (1, v3), (6, v464), (8, (.pointer (some ⟨g589, 0, none⟩))), (17, v3), (18, (.int .i64 (x2.length : Int))), (19, (.int .i64 x467)), (74, (.bool (g)))]) (fun g w' => y620 = (g) ∧ Hp ⟨w0, I0, []⟩ I0 [e465, some (g589, [(.int .i64 x583.A), (.int .i64 x583.B)], 40)] w' ∧ RepS dPair w' I0 v3 x2 ∧ OwnS (dI .u32) 50 w' I0 v464 e465 x463) ?_ ?_
              ·
                refine W.quiet (fun w' => Ch [] w591 w') MX (by kernel_rfl) (Ch.drew [] w591) ?_
                refine sel_of (fun hc => ?_) (fun hc => ?_)
                ·
                  have q621 := cond_t q621 hc
                  obtain ⟨x622, q623, q621⟩ := bind_some q621
                  refine evq_index rfl rfl rfl Tryd.underlying22 T40 r4 q623 ?_
                  intro p624 c625 d626 a627
                  obtain rfl := dPair_o d626
                  refine evq0 (rn_field rfl rfl FO40_0) ?_
                  refine evq (fun w' hw => rn_load rfl rfl (run_loadVar1 T3 ((a627.step (hp.stp hw)).2 0 _ rfl))) ?_
                  refine evq0 (rn_field rfl rfl FO40_0) ?_
                  refine evq (fun w' hw => rn_load rfl rfl (run_loadVar1 T3 ((hp.ext hw).cell (i := 0) (off := 0) rfl rfl))) ?_
                  refine sel_of (fun hc => ?_) (fun hc => ?_)
                  ·
                    have q621 := cond_t q621 hc
                    intro w628 hc
                    have hs := hp.stp hc
                    replace hp := hp.ext hc
                    replace r4 := r4.step hs
                    replace o466 := o466.step hs
                    replace a627 := a627.step hs
                    obtain rfl := Option.some.inj q621
                    have hp := hp.perm [1, 0] (by decide)
                    exact ⟨true, (.c rfl (.c rfl (.c rfl (.c rfl (.c rfl (.c rfl (.c rfl (.c rfl .n)))))))), rfl, hp, r4, o466⟩
                  ·
                    have q621 := cond_f q621 hc
                    obtain ⟨x629, q630, q621⟩ := bind_some q621
                    refine evq_index rfl rfl rfl Tryd.underlying22 T40 r4 q630 ?_
                    intro p631 c632 d633 a634
                    obtain rfl := dPair_o d633
                    refine evq0 (rn_field rfl rfl FO40_0) ?_
                    refine evq (fun w' hw => rn_load rfl rfl (run_loadVar1 T3 ((a634.step (hp.stp hw)).2 0 _ rfl))) ?_
                    refine evq0 (rn_field rfl rfl FO40_0) ?_
                    refine evq (fun w' hw => rn_load rfl rfl (run_loadVar1 T3 ((hp.ext hw).cell (i := 0) (off := 0) rfl rfl))) ?_
                    refine sel_of (fun hc => ?_) (fun hc => ?_)
                    ·
                      have q621 := cond_t q621 hc
                      obtain ⟨x635, q636, q621⟩ := bind_some q621
                      refine evq_index rfl rfl rfl Tryd.underlying22 T40 r4 q636 ?_
                      intro p637 c638 d639 a640
                      obtain rfl := dPair_o d639
                      refine evq0 (rn_field rfl rfl FO40_1) ?_
                      refine evq (fun w' hw => rn_load rfl rfl (run_loadVar1 T3 ((a640.step (hp.stp hw)).2 1 _ rfl))) ?_
                      refine evq0 (rn_field rfl rfl FO40_1) ?_
                      refine evq (fun w' hw => rn_load rfl rfl (run_loadVar1 T3 ((hp.ext hw).cell (i := 0) (off := 1) rfl rfl))) ?_
                      intro w641 hc
                      have hs := hp.stp hc
                      replace hp := hp.ext hc
                      replace r4 := r4.step hs
                      replace o466 := o466.step hs
                      replace a627 := a627.step hs
                      replace a634 := a634.step hs
                      replace a640 := a640.step hs
                      obtain rfl := Option.some.inj q621
                      have hp := hp.perm [1, 0] (by decide)
                      exact ⟨(decide (x635.B ≥ x583.B)), (.c rfl (.c rfl (.c rfl (.c rfl (.c rfl (.c rfl (.c rfl (.c rfl .n)))))))), rfl, hp, r4, o466⟩
                    ·
                      have q621 := cond_f q621 hc
                      intro w642 hc
                      have hs := hp.stp hc
                      replace hp := hp.ext hc
                      replace r4 := r4.step hs
                      replace o466 := o466.step hs
                      replace a627 := a627.step hs
                      replace a634 := a634.step hs
                      obtain rfl := Option.some.inj q621
                      have hp := hp.perm [1, 0] (by decide)
                      exact ⟨false, (.c rfl (.c rfl (.c rfl (.c rfl (.c rfl (.c rfl (.c rfl (.c rfl .n)))))))), rfl, hp, r4, o466⟩
                ·
                  have q621 := cond_f q621 hc
                  intro w643 hc
                  have hs := hp.stp hc
                  replace hp := hp.ext hc
                  replace r4 := r4.step hs
                  replace o466 := o466.step hs
                  obtain rfl := Option.some.inj q621
                  have hp := hp.perm [1, 0] (by decide)
                  exact ⟨false, (.c rfl (.c rfl (.c rfl (.c rfl (.c rfl (.c rfl (.c rfl (.c rfl .n)))))))), rfl, hp, r4, o466⟩
              ·
                rintro x618 w619 ⟨hy, hp, r4, o466⟩
                replace hy := hy.symm
                subst hy
                apply go
                refine sel_of (fun hc => ?_) (fun hc => ?_)
                ·
                  have q581 := cond_t q581 hc
                  apply go
                  apply go
                  apply go
                  have q644 := congrArg some (q582 _ (Option.some.inj q581).symm)
                  obtain rfl := Option.some.inj q644
                  obtain rfl := Option.some.inj h
                  have hp := hp.sel [] (by decide)
                  exact ⟨I0, .slice none 0 0, rfl, hp, RepS.nil _ _ _⟩
                ·
                  have q581 := cond_f q581 hc
                  apply go
                  apply go
                  have hs := hp.stp (Ch.drew [] w619)
                  have hp := hp.drew
                  replace r4 := r4.step hs
                  replace o466 := o466.step hs
                  refine W.tail 10 MX (by kernel_rfl) ?_
                  refine evs0 (rn_field rfl rfl FO40_0) ?_
                  refine evs (rn_load rfl rfl (run_loadVar1 T3 (hp.cell (i := 1) (off := 0) rfl rfl))) ?_
                  obtain ⟨x646, q647, q581⟩ := bind_some q581
                  refine evs_indexO rfl rfl rfl Tryd.underlying46 T50 o466 q647 ?_
                  intro g648 c649 h652 d650 l651
                  refine evs (rn_load rfl rfl (run_loadVar1 T50 (hp.cellE (i := 0) rfl h652 d650 (j := 0) rfl))) ?_
                  refine evs0 (rn_field rfl rfl FO40_1) ?_
                  refine evs (rn_load rfl rfl (run_loadVar1 T3 (hp.cell (i := 1) (off := 1) rfl rfl))) ?_
                  obtain ⟨q654, _, q581⟩ := need_some q581
                  refine ⟨q654, ?_⟩
                  obtain ⟨x655, q656, q581⟩ := bind_some q581
                  refine evs_indexO rfl rfl rfl Tryd.underlying46 T50 o466 q656 ?_
                  intro g657 c658 h661 d659 l660
                  refine ev_storeE hp (i := 0) rfl h661 rfl rfl rfl T50 o466 q656 (x0 := (ib .or .u32 x646 (IntKind.u32.wrap ((1 : Int) * 2 ^ min x583.B.toNat (IntKind.u32).bits)))) rfl ?_
                  intro e664 w663 hp hs o665
                  replace r4 := r4.step hs
                  have hs := hp.stp (Ch.drew [] w663)
                  have hp := hp.drew
                  replace r4 := r4.step hs
                  replace o665 := o665.step hs
                  refine W.tail 10 MX (by kernel_rfl) ?_
                  refine evs0 (rn_field rfl rfl FO40_1) ?_
                  refine evs (rn_load rfl rfl (run_loadVar1 T3 (hp.cell (i := 1) (off := 1) rfl rfl))) ?_
                  obtain ⟨x669, q670, q581⟩ := bind_some q581
                  refine evs_indexO rfl rfl rfl Tryd.underlying46 T50 o665 q670 ?_
                  intro g671 c672 h675 d673 l674
                  refine evs (rn_load rfl rfl (run_loadVar1 T50 (hp.cellE (i := 0) rfl h675 d673 (j := 0) rfl))) ?_
                  refine evs0 (rn_field rfl rfl FO40_0) ?_
                  refine evs (rn_load rfl rfl (run_loadVar1 T3 (hp.cell (i := 1) (off := 0) rfl rfl))) ?_
                  obtain ⟨q677, _, q581⟩ := need_some q581
                  refine ⟨q677, ?_⟩
                  obtain ⟨x678, q679, q581⟩ := bind_some q581
                  refine evs_indexO rfl rfl rfl Tryd.underlying46 T50 o665 q679 ?_
                  intro g680 c681 h684 d682 l683
                  refine ev_storeE hp (i := 0) rfl h684 rfl rfl rfl T50 o665 q679 (x0 := (ib .or .u32 x669 (IntKind.u32.wrap ((1 : Int) * 2 ^ min x583.A.toNat (IntKind.u32).bits)))) rfl ?_
                  intro e687 w686 hp hs o688
                  replace r4 := r4.step hs
                  apply go
                  have hp := hp.sel [0] (by decide)
                  exact ⟨_, (Option.some.inj q581).symm, (v464, e687), (.c rfl (.c rfl (.c rfl (.c rfl (.c rfl (.c rfl .n)))))), ⟨hp, r4, o688⟩⟩
        ·
          have q581 := cond_f q581 hc
          apply go
          have q691 := congrArg some (q582 _ (Option.some.inj q581).symm)
          obtain rfl := Option.some.inj q691
          exact ⟨(x463, v464, e465), (.c rfl .n), rfl, hp, o466⟩
      ·
        rintro ⟨x350, v351, e352⟩ w354 ⟨hy, hp, o353⟩
        replace hy := hy.symm
        subst hy
        apply go
        apply go
        apply go
        obtain rfl := Option.some.inj h
        have r692 := o353.frz hp (i := 0) rfl
        obtain ⟨hp, hs⟩ := freeze_hp hp (i := 0) rfl
        have hp := hp.sel [] (by decide)
        exact ⟨(Ad I0 e352), v351, rfl, hp, r692⟩

end Go.Proofs.YtminclnaelbolaaDoor

namespace Go.Proofs.YtminclnaelbolaaDoor
open Go Go.Proofs.YtminclnaelbolaaDoor.Gw Go.RowKit
set_option linter.unusedVariables false
attribute [local irreducible] Ev EvQ EvS EvH
def bits_TrailingZeros32_S (f : Int → Option Int) : Prop := ∀ (w0 : World) (I0 : Nat → Prop) (tb : At w0 I0 ⟨0, 0, none⟩ (tab32.map (.int .u8))) (x707 : Int) (hI : ∀ g, I0 g → g < w0.heap.size) (r : Int), f x707 = some r →
    Ret Tryd.prog 35 #[(.int .u32 x707)] w0 fun v w1 => v = (.int .i64 r) ∧ Ch [] w0 w1
theorem bits_TrailingZeros32_ok (n : Nat) : bits_TrailingZeros32_S (bits_TrailingZeros32 n) := by
  intro w0 I0 tb x707 hI r h
  unfold bits_TrailingZeros32 at h
  refine enter Tryd.func35 rfl (Nat.le_of_ble_eq_true rfl) ?_
  have hp : Hp ⟨w0, I0, []⟩ I0 [] w0 := Hp.start hI
  apply go
  apply go
  apply go
  apply go
  apply go
  apply go
  refine sel_of (fun hc => ?_) (fun hc => ?_)
  ·
    have h := cond_t h hc
    apply go
    apply go
    apply go
    obtain rfl := Option.some.inj h
    exact ⟨rfl, hp.ch⟩
  ·
    have h := cond_f h hc
    apply go
    apply go
    apply go
    refine ⟨by decide, ?_⟩
    obtain ⟨x708, q709, h⟩ := bind_some h
    refine ev0 (rn_indexG rfl rfl rfl Tryd.underlying63 T5 (idx_some q709).1 (idx_some q709).2.1) ?_
    refine ev (rn_load rfl rfl (run_loadVar1 T5 (tab_cell tb q709))) ?_
    refine ev0 (rn_conv rfl rfl U5 Tryd.underlying3) ?_
    apply go
    obtain rfl := Option.some.inj h
    exact ⟨rfl, hp.ch⟩

end Go.Proofs.YtminclnaelbolaaDoor

namespace Go.Proofs.YtminclnaelbolaaDoor
open Go Go.Proofs.YtminclnaelbolaaDoor.Gw Go.RowKit
set_option linter.unusedVariables false
attribute [local irreducible] Ev EvQ EvS EvH
def bits_OnesCount32_S (f : Int → Option Int) : Prop := ∀ (w0 : World) (I0 : Nat → Prop) (x693 : Int) (hI : ∀ g, I0 g → g < w0.heap.size) (r : Int), f x693 = some r →
    Ret Tryd.prog 41 #[(.int .u32 x693)] w0 fun v w1 => v = (.int .i64 r) ∧ Ch [] w0 w1
theorem bits_OnesCount32_ok (n : Nat) : bits_OnesCount32_S (bits_OnesCount32 n) := by
  intro w0 I0 x693 hI r h
  unfold bits_OnesCount32 at h
  refine enter Tryd.func41 rfl (Nat.le_of_ble_eq_true rfl) ?_
  have hp : Hp ⟨w0, I0, []⟩ I0 [] w0 := Hp.start hI
  apply go
  apply go
  apply go
  refine W.quiet (fun w' => Ch [] w0 w') MX (by kernel_rfl) (Ch.drew [] w0) ?_
  refine ⟨by decide, ?_⟩
  obtain ⟨x694, q695, h⟩ := bind_some h
  refine evq0 (rn_indexS rfl rfl rfl Tryd.underlying9 q695) ?_
  refine ⟨by decide, ?_⟩
  obtain ⟨x696, q697, h⟩ := bind_some h
  refine evq0 (rn_indexS rfl rfl rfl Tryd.underlying9 q697) ?_
  refine ⟨by decide, ?_⟩
  obtain ⟨x698, q699, h⟩ := bind_some h
  refine evq0 (rn_indexS rfl rfl rfl Tryd.underlying9 q699) ?_
  obtain ⟨x700, q701, h⟩ := bind_some h
  refine evq0 (rn_indexS rfl rfl rfl Tryd.underlying9 q701) ?_
  refine evq0 (rn_conv rfl rfl U5 Tryd.underlying3) ?_
  intro w702 hc
  have hs := hp.stp hc
  replace hp := hp.ext hc
  apply go
  obtain rfl := Option.some.inj h
  exact ⟨rfl, hp.ch⟩

end Go.Proofs.YtminclnaelbolaaDoor

namespace Go.Proofs.YtminclnaelbolaaDoor
open Go Go.Proofs.YtminclnaelbolaaDoor.Gw Go.RowKit
set_option linter.unusedVariables false
attribute [local irreducible] Ev EvQ EvS EvH
def clique_set_size_S (f : Int → Option Int) : Prop := ∀ (w0 : World) (I0 : Nat → Prop) (x703 : Int) (hI : ∀ g, I0 g → g < w0.heap.size) (r : Int), f x703 = some r →
    Ret Tryd.prog 40 #[(.int .u32 x703)] w0 fun v w1 => v = (.int .i64 r) ∧ Ch [] w0 w1
theorem clique_set_size_ok (n : Nat) : clique_set_size_S (clique_set_size n) := by
  intro w0 I0 x703 hI r h
  unfold clique_set_size at h
  refine enter Tryd.func40 rfl (Nat.le_of_ble_eq_true rfl) ?_
  have hp : Hp ⟨w0, I0, []⟩ I0 [] w0 := Hp.start hI
  apply go
  apply go
  apply go
  apply go
  obtain ⟨x704, q705, h⟩ := bind_some h
  refine ev_call rfl rfl C41 (((bits_OnesCount32_ok n) _ _  x703 hp.imm _ q705).mono ?_)
  rintro _ w706 ⟨rfl, hc⟩
  have hs := hp.stp hc
  replace hp := hp.ext hc
  apply go
  obtain rfl := Option.some.inj h
  exact ⟨rfl, hp.ch⟩

end Go.Proofs.YtminclnaelbolaaDoor

namespace Go.Proofs.YtminclnaelbolaaDoor
open Go Go.Proofs.YtminclnaelbolaaDoor.Gw Go.RowKit
set_option linter.unusedVariables false
attribute [local irreducible] Ev EvQ EvS EvH
def clique_graph_search_S (f : (List Int) → Int → Int → Int → Option Int) : Prop := ∀ (w0 : World) (I0 : Nat → Prop) (tb : At w0 I0 ⟨0, 0, none⟩ (tab32.map (.int .u8))) (x710 : (List Int)) (v711 : Value) (r712 : RepS (dI .u32) w0 I0 v711 x710) (x713 : Int) (x714 : Int) (x715 : Int) (g716 : Nat) (hp : Hp ⟨w0, I0, [g716]⟩ I0 [some (g716, [(.int .u32 x715)], 50)] w0) (r : Int), f x710 x713 x714 x715 = some r →
    Ret Tryd.prog 31 #[v711, (.int .u32 x713), (.int .u32 x714), (.pointer (some ⟨g716, 0, none⟩))] w0 fun v w1 => ∃ (I1 : Nat → Prop), v = (.tuple #[]) ∧ Hp ⟨w0, I0, [g716]⟩ I1 [some (g716, [(.int .u32 r)], 50)] w1
theorem clique_graph_search_F_ok (n : Nat) (self : (List Int) → Int → Int → Int → Option Int) (ih : clique_graph_search_S self) : clique_graph_search_S (clique_graph_search_F n self) := by
  intro w0 I0 tb x710 v711 r712 x713 x714 x715 g716 hp r h
  unfold clique_graph_search_F at h
  refine enter Tryd.func31 rfl (Nat.le_of_ble_eq_true rfl) ?_
  obtain ⟨y725, q726, h⟩ := bind_some h
  refine W.cut (γ := Int) (fun g => [(0, v711), (1, (.int .u32 x713)), (2, (.int .u32 x714)), (3, (.pointer (some ⟨g716, 0, none⟩)))]) (fun g w' => y725 = (g) ∧ Hp ⟨w0, I0, [g716]⟩ I0 [some (g716, [(.int .u32 (g))], 50)] w' ∧ RepS (dI .u32) w' I0 v711 x710 ∧ At w' I0 ⟨0, 0, none⟩ (tab32.map (.int .u8))) ?_ ?_
  ·
    apply go
    refine W.quiet (fun w' => Ch [] w0 w') MX (by kernel_rfl) (Ch.drew [] w0) ?_
    obtain ⟨x727, q728, q726⟩ := bind_some q726
    refine evq_call rfl rfl C40 (fun w' hw => ((clique_set_size_ok n) _ _  x713 (hp.ext hw).imm _ q728).mono fun _ _ ⟨e, hc⟩ => ⟨e, hw.trans hc⟩) ?_
    refine evq (fun w' hw => rn_load rfl rfl (run_loadVar1 T50 ((hp.ext hw).cell (i := 0) (off := 0) rfl rfl))) ?_
    obtain ⟨x729, q730, q726⟩ := bind_some q726
    refine evq_call rfl rfl C40 (fun w' hw => ((clique_set_size_ok n) _ _  x715 (hp.ext hw).imm _ q730).mono fun _ _ ⟨e, hc⟩ => ⟨e, hw.trans hc⟩) ?_
    intro w731 hc
    have hs := hp.stp hc
    replace hp := hp.ext hc
    replace r712 := r712.step hs
    replace tb := tb.step hs
    apply go
    refine sel_of (fun hc => ?_) (fun hc => ?_)
    ·
      have q726 := cond_t q726 hc
      apply go
      refine ev_store1 hp (i := 0) (off := 0) rfl rfl rfl rfl T50 rfl (Nat.le_of_ble_eq_true rfl) ?_
      intro w732 hp hs
      replace r712 := r712.step hs
      replace tb := tb.step hs
      obtain rfl := Option.some.inj q726
      exact ⟨x713, (.c rfl (.c rfl (.c rfl (.c rfl .n)))), rfl, hp, r712, tb⟩
    ·
      have q726 := cond_f q726 hc
      apply go
      obtain rfl := Option.some.inj q726
      exact ⟨x715, (.c rfl (.c rfl (.c rfl (.c rfl .n)))), rfl, hp, r712, tb⟩
  ·
    rintro x723 w724 ⟨hy, hp, r712, tb⟩
    replace hy := hy.symm
    subst hy
    apply go
    refine W.loop h (γ := (Nat → Prop)) (fun s g => [(0, v711), (1, (.int .u32 x713)), (2, (.int .u32 (s.1))), (3, (.pointer (some ⟨g716, 0, none⟩)))]) (fun s g w' => Hp ⟨w0, I0, [g716]⟩ (g) [some (g716, [(.int .u32 (s.2))], 50)] w' ∧ RepS (dI .u32) w' (g) v711 x710 ∧ At w' (g) ⟨0, 0, none⟩ (tab32.map (.int .u8))) I0 (.c rfl (.c rfl (.c rfl (.c rfl .n)))) ⟨hp, r712, tb⟩ ?_
    rintro ⟨x768, x769⟩ I770 w809 y810 ⟨hp, r712, tb⟩ q811 q812
    unfold clique_graph_search_L0 at q811
    apply go
    obtain ⟨y823, q824, q811⟩ := bind_some q811
    refine W.cut (γ := Bool) (fun g => [(0, v711), (1, (.int .u32 x713)), (2, (.int .u32 x768)), (3, (.pointer (some ⟨g716, 0, none⟩))), (32, (.bool (g)))]) (fun g w' => y823 = (g) ∧ Hp ⟨w0, I0, [g716]⟩ I770 [some (g716, [(.int .u32 x769)], 50)] w' ∧ RepS (dI .u32) w' I770 v711 x710 ∧ At w' I770 ⟨0, 0, none⟩ (tab32.map (.int .u8))) ?_ ?_
    ·
      refine W.quiet (fun w' => Ch [] w809 w') MX (by kernel_rfl) (Ch.drew [] w809) ?_
      refine sel_of (fun hc => ?_) (fun hc => ?_)
      ·
        have q824 := cond_t q824 hc
        obtain ⟨x825, q826, q824⟩ := bind_some q824
        refine evq_call rfl rfl C40 (fun w' hw => ((clique_set_size_ok n) _ _  x713 (hp.ext hw).imm _ q826).mono fun _ _ ⟨e, hc⟩ => ⟨e, hw.trans hc⟩) ?_
        obtain ⟨x827, q828, q824⟩ := bind_some q824
        refine evq_call rfl rfl C40 (fun w' hw => ((clique_set_size_ok n) _ _  x768 (hp.ext hw).imm _ q828).mono fun _ _ ⟨e, hc⟩ => ⟨e, hw.trans hc⟩) ?_
        refine evq (fun w' hw => rn_load rfl rfl (run_loadVar1 T50 ((hp.ext hw).cell (i := 0) (off := 0) rfl rfl))) ?_
        obtain ⟨x829, q830, q824⟩ := bind_some q824
        refine evq_call rfl rfl C40 (fun w' hw => ((clique_set_size_ok n) _ _  x769 (hp.ext hw).imm _ q830).mono fun _ _ ⟨e, hc⟩ => ⟨e, hw.trans hc⟩) ?_
        intro w831 hc
        have hs := hp.stp hc
        replace hp := hp.ext hc
        replace r712 := r712.step hs
        replace tb := tb.step hs
        obtain rfl := Option.some.inj q824
        exact ⟨(decide ((IntKind.i64.wrap (x825 + x827)) > x829)), (.c rfl (.c rfl (.c rfl (.c rfl (.c rfl .n))))), rfl, hp, r712, tb⟩
      ·
        have q824 := cond_f q824 hc
        intro w832 hc
        have hs := hp.stp hc
        replace hp := hp.ext hc
        replace r712 := r712.step hs
        replace tb := tb.step hs
        obtain rfl := Option.some.inj q824
        exact ⟨false, (.c rfl (.c rfl (.c rfl (.c rfl (.c rfl .n))))), rfl, hp, r712, tb⟩
    ·
      rintro x821 w822 ⟨hy, hp, r712, tb⟩
      replace hy := hy.symm
      subst hy
      apply go
      refine sel_of (fun hc => ?_) (fun hc => ?_)
      ·
        have q811 := cond_t q811 hc
        apply go
        apply go
        apply go
        apply go
        obtain ⟨x833, q834, q811⟩ := bind_some q811
        refine ev_call rfl rfl C35 (((bits_TrailingZeros32_ok n) _ _ tb x768 hp.imm _ q834).mono ?_)
        rintro _ w835 ⟨rfl, hc⟩
        have hs := hp.stp hc
        replace hp := hp.ext hc
        replace r712 := r712.step hs
        replace tb := tb.step hs
        apply go
        apply go
        obtain ⟨q836, _, q811⟩ := need_some q811
        refine ⟨q836, ?_⟩
        have hs := hp.stp (Ch.drew [] w835)
        have hp := hp.drew
        replace r712 := r712.step hs
        replace tb := tb.step hs
        refine W.held [(0, true), (1, true), (2, true), (3, true), (4, true), (5, true), (6, true), (7, true), (8, true), (9, true), (10, true), (11, true), (12, false)] (Stp I770 w835.drew I770) MX (by kernel_rfl) (Stp.refl _ _) ?_
        have hz := Stp.refl I770 w835.drew
        obtain ⟨q837, _, q811⟩ := need_some q811
        refine ⟨q837, ?_⟩
        obtain ⟨x838, q839, q811⟩ := bind_some q811
        refine evh_index rfl rfl rfl Tryd.underlying46 T50 r712 q839 ?_
        intro p840 c841 d842 a843
        obtain rfl : c841 = [(.int .u32 x838)] := d842
        refine evh (fun w' hw => rn_load rfl rfl (run_loadVar1 T50 ((a843.step hw).2 0 _ rfl))) ?_
        obtain ⟨x844, q845, q811⟩ := bind_some q811
        refine ev_call rfl rfl C31 ((ih _ _ tb x710 v711 r712 (ib .or .u32 x713 (IntKind.u32.wrap ((1 : Int) * 2 ^ min x833.toNat (IntKind.u32).bits))) (ib .and .u32 (ib .andNot .u32 x768 (IntKind.u32.wrap ((1 : Int) * 2 ^ min x833.toNat (IntKind.u32).bits))) x838) x769 g716 (hp.lend (i := 0) rfl) _ q845).mono ?_)
        rintro _ w846 ⟨I847, hv, hq⟩
        replace hv := hv.symm
        subst hv
        have hs := hq.st
        have hp := hp.back (i := 0) rfl hq
        replace hz := hz.trans hs
        replace r712 := r712.step hs
        replace tb := tb.step hs
        refine ⟨Stp I847 w846 I847, Stp.refl _ _, fun x hx => hz.held hx, ?_⟩
        have hz := Stp.refl I847 w846
        exact ⟨_, (Option.some.inj q811).symm, I847, (.c rfl (.c rfl (.c rfl (.c rfl .n)))), ⟨hp, r712, tb⟩⟩
      ·
        have q811 := cond_f q811 hc
        apply go
        have q848 := congrArg some (q812 _ (Option.some.inj q811).symm)
        obtain rfl := Option.some.inj q848
        exact ⟨I770, rfl, hp⟩
theorem clique_graph_search_ok : ∀ n, clique_graph_search_S (clique_graph_search n)
  | 0 => by intro w0 I0 tb x710 v711 r712 x713 x714 x715 g716 hp r h; cases h
  | n + 1 => clique_graph_search_F_ok n _ (clique_graph_search_ok n)

end Go.Proofs.YtminclnaelbolaaDoor

namespace Go.Proofs.YtminclnaelbolaaDoor
open Go Go.Proofs.YtminclnaelbolaaDoor.Gw Go.RowKit
set_option linter.unusedVariables false
attribute [local irreducible] Ev EvQ EvS EvH
def clique_set_list_S (f : Int → Option (List Int)) : Prop := ∀ (w0 : World) (I0 : Nat → Prop) (tb : At w0 I0 ⟨0, 0, none⟩ (tab32.map (.int .u8))) (x849 : Int) (hI : ∀ g, I0 g → g < w0.heap.size) (r : (List Int)), f x849 = some r →
    Ret Tryd.prog 32 #[(.int .u32 x849)] w0 fun v w1 => ∃ (I1 : Nat → Prop) (u850 : Value), v = u850 ∧ Hp ⟨w0, I0, []⟩ I1 [] w1 ∧ RepS (dI .i64) w1 I1 u850 r
theorem clique_set_list_ok (n : Nat) : clique_set_list_S (clique_set_list n) := by
  intro w0 I0 tb x849 hI r h
  unfold clique_set_list at h
  refine enter Tryd.func32 rfl (Nat.le_of_ble_eq_true rfl) ?_
  have hp : Hp ⟨w0, I0, []⟩ I0 [] w0 := Hp.start hI
  apply go
  apply go
  apply go
  apply go
  obtain ⟨y915, q916, h⟩ := bind_some h
  refine W.cut (γ := ((List Int) × Value × Ent × (Nat → Prop))) (fun g => [(3, (g.2.1))]) (fun g w' => y915 = (g.1) ∧ Hp ⟨w0, I0, []⟩ (g.2.2.2) [(g.2.2.1)] w' ∧ OwnS (dI .i64) 3 w' (g.2.2.2) (g.2.1) (g.2.2.1) (g.1) ∧ At w' (g.2.2.2) ⟨0, 0, none⟩ (tab32.map (.int .u8))) ?_ ?_
  ·
    apply go
    have hp := hp.none_
    have o957 := OwnS.nil (dI .i64) 3 w0 I0
    refine W.loop q916 (γ := (Value × Ent × (Nat → Prop))) (fun s g => [(0, (.int .u32 (s.1))), (3, (g.1))]) (fun s g w' => Hp ⟨w0, I0, []⟩ (g.2.2) [(g.2.1)] w' ∧ OwnS (dI .i64) 3 w' (g.2.2) (g.1) (g.2.1) (s.2) ∧ At w' (g.2.2) ⟨0, 0, none⟩ (tab32.map (.int .u8))) ((.slice none 0 0), none, I0) (.c rfl (.c rfl .n)) ⟨hp, o957, tb⟩ ?_
    rintro ⟨x931, x932⟩ ⟨v933, e934, I936⟩ w956 y958 ⟨hp, o935, tb⟩ q959 q960
    unfold clique_set_list_L1 at q959
    apply go
    apply go
    apply go
    apply go
    refine sel_of (fun hc => ?_) (fun hc => ?_)
    ·
      have q959 := cond_t q959 hc
      apply go
      apply go
      apply go
      apply go
      obtain ⟨x961, q962, q959⟩ := bind_some q959
      refine ev_call rfl rfl C35 (((bits_TrailingZeros32_ok n) _ _ tb x931 hp.imm _ q962).mono ?_)
      rintro _ w963 ⟨rfl, hc⟩
      have hs := hp.stp hc
      replace hp := hp.ext hc
      replace o935 := o935.step hs
      replace tb := tb.step hs
      refine ev_litN (d := (dI .i64)) (xs := [x961]) (cs := [(.int .i64 x961)]) hp rfl rfl Tryd.underlying27 T3 (by decide) rfl rfl (Elems.cons (d := (dI .i64)) (xs := _) rfl (Elems.nil _ _ _ _)) ?_
      intro v964 I966 w965 hp hs r967
      replace o935 := o935.step hs
      replace tb := tb.step hs
      obtain ⟨x968, q969, q959⟩ := bind_some q959
      refine ev_append hp (i := 0) rfl rfl rfl rfl Tryd.underlying27 T3 rfl rfl o935 r967 q969 ?_
      rintro v970 e971 w972 hp hs o973
      replace tb := tb.step hs
      apply go
      exact ⟨_, (Option.some.inj q959).symm, (v970, e971, I966), (.c rfl (.c rfl .n)), ⟨hp, o973, tb⟩⟩
    ·
      have q959 := cond_f q959 hc
      apply go
      have q974 := congrArg some (q960 _ (Option.some.inj q959).symm)
      obtain rfl := Option.some.inj q974
      exact ⟨(x932, v933, e934, I936), (.c rfl .n), rfl, hp, o935, tb⟩
  ·
    rintro ⟨x909, v910, e911, I913⟩ w914 ⟨hy, hp, o912, tb⟩
    replace hy := hy.symm
    subst hy
    apply go
    apply go
    apply go
    obtain rfl := Option.some.inj h
    have r975 := o912.frz hp (i := 0) rfl
    obtain ⟨hp, hs⟩ := freeze_hp hp (i := 0) rfl
    replace tb := tb.step hs
    have hp := hp.sel [] (by decide)
    exact ⟨(Ad I913 e911), v910, rfl, hp, r975⟩

end Go.Proofs.YtminclnaelbolaaDoor

namespace Go.Proofs.YtminclnaelbolaaDoor
open Go Go.Proofs.YtminclnaelbolaaDoor.Gw Go.RowKit
set_option linter.unusedVariables false
attribute [local irreducible] Ev EvQ EvS EvH
def clique_Max_S (f : Int → (List Pair) → Option ((List Int) × Int)) : Prop := ∀ (w0 : World) (I0 : Nat → Prop) (tb : At w0 I0 ⟨0, 0, none⟩ (tab32.map (.int .u8))) (x976 : Int) (x977 : (List Pair)) (v978 : Value) (r979 : RepS dPair w0 I0 v978 x977) (hI : ∀ g, I0 g → g < w0.heap.size) (r : ((List Int) × Int)), f x976 x977 = some r →
    Ret Tryd.prog 14 #[(.int .i64 x976), v978] w0 fun v w1 => ∃ (I1 : Nat → Prop) (u980 : Value), v = (.tuple #[u980, (.int .i64 r.2)]) ∧ Hp ⟨w0, I0, []⟩ I1 [] w1 ∧ RepS (dI .i64) w1 I1 u980 r.1
theorem clique_Max_ok (n : Nat) : clique_Max_S (clique_Max n) := by
  intro w0 I0 tb x976 x977 v978 r979 hI r h
  unfold clique_Max at h
  refine enter Tryd.func14 rfl (Nat.le_of_ble_eq_true rfl) ?_
  have hp : Hp ⟨w0, I0, []⟩ I0 [] w0 := Hp.start hI
  apply go
  apply go
  apply go
  apply go
  obtain ⟨⟨x981, x982⟩, q983, h⟩ := bind_some h
  refine ev_call rfl rfl C30 (((clique_build_ok n) _ _  x976 x977 v978 r979 hp.imm _ q983).mono ?_)
  rintro _ w984 ⟨I985, v986, hv, hq, r987⟩
  replace hv := hv.symm
  subst hv
  have hs := hq.st
  have hp := hp.join0 hq
  replace tb := tb.step hs
  apply go
  apply go
  apply go
  apply go
  refine sel_of (fun hc => ?_) (fun hc => ?_)
  ·
    have h := cond_t h hc
    apply go
    apply go
    apply go
    obtain rfl := Option.some.inj h
    exact ⟨I985, .slice none 0 0, rfl, hp, RepS.nil _ _ _⟩
  ·
    have h := cond_f h hc
    apply go
    apply go
    apply go
    refine ev_alloc hp rfl T50 ?_
    intro g988 w989 hp hs
    replace r987 := r987.step hs
    replace tb := tb.step hs
    apply go
    apply go
    obtain ⟨q990, _, h⟩ := need_some h
    refine ⟨q990, ?_⟩
    obtain ⟨x991, q992, h⟩ := bind_some h
    refine ev_call rfl rfl C31 (((clique_graph_search_ok n) _ _ tb x981 v986 r987 0 (IntKind.u32.wrap ((IntKind.u32.wrap ((1 : Int) * 2 ^ min x976.toNat (IntKind.u32).bits)) - 1)) 0 g988 (hp.lend (i := 0) rfl) _ q992).mono ?_)
    rintro _ w993 ⟨I994, hv, hq⟩
    replace hv := hv.symm
    subst hv
    have hs := hq.st
    have hp := hp.back (i := 0) rfl hq
    replace tb := tb.step hs
    apply go
    apply go
    refine ev (rn_load rfl rfl (run_loadVar1 T50 (hp.cell (i := 0) (off := 0) rfl rfl))) ?_
    obtain ⟨x995, q996, h⟩ := bind_some h
    refine ev_call rfl rfl C32 (((clique_set_list_ok n) _ _ tb x991 hp.imm _ q996).mono ?_)
    rintro _ w997 ⟨I998, v999, hv, hq, r1000⟩
    replace hv := hv.symm
    subst hv
    have hs := hq.st
    have hp := hp.join0 hq
    replace tb := tb.step hs
    apply go
    obtain rfl := Option.some.inj h
    have hp := hp.sel [] (by decide)
    exact ⟨I998, v999, rfl, hp, r1000⟩

end Go.Proofs.YtminclnaelbolaaDoor

namespace Go.Proofs.YtminclnaelbolaaDoor
open Go Go.Proofs.YtminclnaelbolaaDoor.Gw Go.RowKit
set_option linter.unusedVariables false
attribute [local irreducible] Ev EvQ EvS EvH
def base_Ints_S (f : (List Int) → (List Int) → Option Bool) : Prop := ∀ (w0 : World) (I0 : Nat → Prop) (x3045 : (List Int)) (v3046 : Value) (r3047 : RepS (dI .i64) w0 I0 v3046 x3045) (x3048 : (List Int)) (v3049 : Value) (r3050 : RepS (dI .i64) w0 I0 v3049 x3048) (hI : ∀ g, I0 g → g < w0.heap.size) (r : Bool), f x3045 x3048 = some r →
    Ret Tryd.prog 16 #[v3046, v3049] w0 fun v w1 => v = (.bool r) ∧ Ch [] w0 w1
theorem base_Ints_ok (n : Nat) : base_Ints_S (base_Ints n) := by
  intro w0 I0 x3045 v3046 r3047 x3048 v3049 r3050 hI r h
  unfold base_Ints at h
  refine enter Tryd.func16 rfl (Nat.le_of_ble_eq_true rfl) ?_
  have hp : Hp ⟨w0, I0, []⟩ I0 [] w0 := Hp.start hI
  apply go
  apply go
  apply go
  apply go
  apply go
  refine ev0 (rn_len rfl rfl Tryd.underlying27 r3047) ?_
  refine ev0 (rn_len rfl rfl Tryd.underlying27 r3050) ?_
  apply go
  refine sel_of (fun hc => ?_) (fun hc => ?_)
  ·
    have h := cond_t h hc
    apply go
    apply go
    apply go
    obtain rfl := Option.some.inj h
    exact ⟨rfl, hp.ch⟩
  ·
    have h := cond_f h hc
    apply go
    obtain ⟨y3099, q3100, h⟩ := bind_some h
    refine W.cut (γ := Unit) (fun _ => []) (fun _ w' => y3099 = .go () ∧ Hp ⟨w0, I0, []⟩ I0 [] w') ?_ ?_
    ·
      apply go
      apply go
      apply go
      refine W.loop q3100 (γ := Unit) (fun s _ => [(0, v3046), (1, v3049), (5, (.int .i64 (s)))]) (fun s _ w' => Hp ⟨w0, I0, []⟩ I0 [] w' ∧ RepS (dI .i64) w' I0 v3046 x3045 ∧ RepS (dI .i64) w' I0 v3049 x3048) () (.c rfl (.c rfl (.c rfl .n))) ⟨hp, r3047, r3050⟩ ?_
      rintro x3114 ⟨⟩ w3129 y3130 ⟨hp, r3047, r3050⟩ q3131 q3132
      unfold base_Ints_L1 at q3131
      apply go
      apply go
      apply go
      refine ev0 (rn_len rfl rfl Tryd.underlying27 r3047) ?_
      apply go
      refine sel_of (fun hc => ?_) (fun hc => ?_)
      ·
        have q3131 := cond_t q3131 hc
        apply go
        apply go
        apply go
        apply go
        refine W.quiet (fun w' => Ch [] w3129 w') MX (by kernel_rfl) (Ch.drew [] w3129) ?_
        obtain ⟨x3133, q3134, q3131⟩ := bind_some q3131
        refine evq_index rfl rfl rfl Tryd.underlying27 T3 r3047 q3134 ?_
        intro p3135 c3136 d3137 a3138
        obtain rfl : c3136 = [(.int .i64 x3133)] := d3137
        refine evq (fun w' hw => rn_load rfl rfl (run_loadVar1 T3 ((a3138.step (hp.stp hw)).2 0 _ rfl))) ?_
        obtain ⟨x3139, q3140, q3131⟩ := bind_some q3131
        refine evq_index rfl rfl rfl Tryd.underlying27 T3 r3050 q3140 ?_
        intro p3141 c3142 d3143 a3144
        obtain rfl : c3142 = [(.int .i64 x3139)] := d3143
        refine evq (fun w' hw => rn_load rfl rfl (run_loadVar1 T3 ((a3144.step (hp.stp hw)).2 0 _ rfl))) ?_
        intro w3145 hc
        have hs := hp.stp hc
        replace hp := hp.ext hc
        replace r3047 := r3047.step hs
        replace r3050 := r3050.step hs
        apply go
        refine sel_of (fun hc => ?_) (fun hc => ?_)
        ·
          have q3131 := cond_t q3131 hc
          apply go
          apply go
          apply go
          have q3146 := congrArg some (q3132 _ (Option.some.inj q3131).symm)
          obtain rfl := Option.some.inj q3146
          obtain rfl := Option.some.inj h
          exact ⟨rfl, hp.ch⟩
        ·
          have q3131 := cond_f q3131 hc
          apply go
          apply go
          exact ⟨_, (Option.some.inj q3131).symm, (), (.c rfl (.c rfl (.c rfl .n))), ⟨hp, r3047, r3050⟩⟩
      ·
        have q3131 := cond_f q3131 hc
        apply go
        have q3147 := congrArg some (q3132 _ (Option.some.inj q3131).symm)
        obtain rfl := Option.some.inj q3147
        exact ⟨(), .n, rfl, hp⟩
    ·
      rintro ⟨⟩ w3098 ⟨hy, hp⟩
      replace hy := hy.symm
      subst hy
      apply go
      apply go
      apply go
      obtain rfl := Option.some.inj h
      exact ⟨rfl, hp.ch⟩

end Go.Proofs.YtminclnaelbolaaDoor

namespace Go.Proofs.YtminclnaelbolaaDoor
open Go Go.Proofs.YtminclnaelbolaaDoor.Gw Go.RowKit
set_option linter.unusedVariables false
attribute [local irreducible] Ev EvQ EvS EvH
def clique_Color_S (f : Int → (List Pair) → Option ((List Int) × Int × Int)) : Prop := ∀ (w0 : World) (I0 : Nat → Prop) (tb : At w0 I0 ⟨0, 0, none⟩ (tab32.map (.int .u8))) (x1001 : Int) (x1002 : (List Pair)) (v1003 : Value) (r1004 : RepS dPair w0 I0 v1003 x1002) (hI : ∀ g, I0 g → g < w0.heap.size) (r : ((List Int) × Int × Int)), f x1001 x1002 = some r →
    Ret Tryd.prog 17 #[(.int .i64 x1001), v1003] w0 fun v w1 => ∃ (I1 : Nat → Prop) (u1005 : Value), v = (.tuple #[u1005, (.int .i64 r.2.1), (.int .i64 r.2.2)]) ∧ Hp ⟨w0, I0, []⟩ I1 [] w1 ∧ RepS (dI .i64) w1 I1 u1005 r.1
theorem clique_Color_ok (n : Nat) : clique_Color_S (clique_Color n) := by
  intro w0 I0 tb x1001 x1002 v1003 r1004 hI r h
  unfold clique_Color at h
  refine enter Tryd.func17 rfl (Nat.le_of_ble_eq_true rfl) ?_
  have hp : Hp ⟨w0, I0, []⟩ I0 [] w0 := Hp.start hI
  apply go
  apply go
  apply go
  apply go
  obtain ⟨⟨x1006, x1007⟩, q1008, h⟩ := bind_some h
  refine ev_call rfl rfl C30 (((clique_build_ok n) _ _  x1001 x1002 v1003 r1004 hp.imm _ q1008).mono ?_)
  rintro _ w1009 ⟨I1010, v1011, hv, hq, r1012⟩
  replace hv := hv.symm
  subst hv
  have hs := hq.st
  have hp := hp.join0 hq
  replace tb := tb.step hs
  apply go
  apply go
  apply go
  apply go
  refine sel_of (fun hc => ?_) (fun hc => ?_)
  ·
    have h := cond_t h hc
    apply go
    apply go
    apply go
    obtain rfl := Option.some.inj h
    exact ⟨I1010, .slice none 0 0, rfl, hp, RepS.nil _ _ _⟩
  ·
    have h := cond_f h hc
    apply go
    apply go
    apply go
    obtain ⟨x1013, q1014, h⟩ := bind_some h
    refine ev_make (d := (dI .i64)) (x0 := 0) hp rfl rfl rfl Tryd.underlying27 T3 (fun _ _ => rfl) (Nat.le_of_ble_eq_true rfl) q1014 ?_
    intro v1015 e1016 w1017 hp hs o1018
    replace r1012 := r1012.step hs
    replace tb := tb.step hs
    obtain ⟨y2034, q2035, h⟩ := bind_some h
    refine W.cut (γ := ((List Int) × Int × Value × Ent × (Nat → Prop))) (fun g => [(9, (g.2.2.1)), (10, (.int .i64 (g.2.1)))]) (fun g w' => y2034 = ((g.1), (g.2.1)) ∧ Hp ⟨w0, I0, []⟩ (g.2.2.2.2) [(g.2.2.2.1)] w' ∧ OwnS (dI .i64) 3 w' (g.2.2.2.2) (g.2.2.1) (g.2.2.2.1) (g.1) ∧ At w' (g.2.2.2.2) ⟨0, 0, none⟩ (tab32.map (.int .u8))) ?_ ?_
    ·
      apply go
      apply go
      apply go
      refine W.loop q2035 (γ := (Value × Ent × (Nat → Prop))) (fun s g => [(7, v1011), (9, (g.1)), (10, (.int .i64 (s.2.1))), (25, (.int .i64 x1001)), (26, (.int .i64 (s.2.2)))]) (fun s g w' => Hp ⟨w0, I0, []⟩ (g.2.2) [(g.2.1)] w' ∧ RepS (dI .u32) w' (g.2.2) v1011 x1006 ∧ OwnS (dI .i64) 3 w' (g.2.2) (g.1) (g.2.1) (s.1) ∧ At w' (g.2.2) ⟨0, 0, none⟩ (tab32.map (.int .u8))) (v1015, e1016, I1010) (.c rfl (.c rfl (.c rfl (.c rfl (.c rfl .n))))) ⟨hp, r1012, o1018, tb⟩ ?_
      rintro ⟨x2363, x2367, x2368⟩ ⟨v2364, e2365, I2369⟩ w2708 y2709 ⟨hp, r1012, o2366, tb⟩ q2710 q2711
      unfold clique_Color_L21 at q2710
      apply go
      apply go
      apply go
      apply go
      refine sel_of (fun hc => ?_) (fun hc => ?_)
      ·
        have q2710 := cond_t q2710 hc
        apply go
        obtain ⟨y2880, q2881, q2710⟩ := bind_some q2710
        refine W.cut (γ := ((List Int) × Int × Value × Ent × (Nat → Prop))) (fun g => [(7, v1011), (9, (g.2.2.1)), (10, (.int .i64 (g.2.1))), (25, (.int .i64 x1001)), (26, (.int .i64 x2368))]) (fun g w' => y2880 = ((g.1), (g.2.1)) ∧ Hp ⟨w0, I0, []⟩ (g.2.2.2.2) [(g.2.2.2.1)] w' ∧ RepS (dI .u32) w' (g.2.2.2.2) v1011 x1006 ∧ OwnS (dI .i64) 3 w' (g.2.2.2.2) (g.2.2.1) (g.2.2.2.1) (g.1) ∧ At w' (g.2.2.2.2) ⟨0, 0, none⟩ (tab32.map (.int .u8))) ?_ ?_
        ·
          apply go
          apply go
          apply go
          apply go
          apply go
          obtain ⟨y2951, q2952, q2881⟩ := bind_some q2881
          refine W.cut (γ := (Int × (Nat → Prop))) (fun g => [(7, v1011), (9, v2364), (10, (.int .i64 x2367)), (11, (.int .i64 x2368)), (12, (.int .u32 (g.1))), (25, (.int .i64 x1001)), (26, (.int .i64 x2368))]) (fun g w' => y2951 = (g.1) ∧ Hp ⟨w0, I0, []⟩ (g.2) [e2365] w' ∧ RepS (dI .u32) w' (g.2) v1011 x1006 ∧ OwnS (dI .i64) 3 w' (g.2) v2364 e2365 x2363 ∧ At w' (g.2) ⟨0, 0, none⟩ (tab32.map (.int .u8))) ?_ ?_
          ·
            apply go
            have hs := hp.stp (Ch.drew [] w2708)
            have hp := hp.drew
            replace r1012 := r1012.step hs
            replace o2366 := o2366.step hs
            replace tb := tb.step hs
            refine W.held [(0, true), (1, true), (2, true), (3, true), (4, true), (5, true), (6, true), (7, true), (10, true), (8, false), (9, true)] (Stp I2369 w2708.drew I2369) MX (by kernel_rfl) (Stp.refl _ _) ?_
            have hz := Stp.refl I2369 w2708.drew
            obtain ⟨x2953, q2954, q2952⟩ := bind_some q2952
            refine evh_index rfl rfl rfl Tryd.underlying46 T50 r1012 q2954 ?_
            intro p2955 c2956 d2957 a2958
            obtain rfl : c2956 = [(.int .u32 x2953)] := d2957
            refine evh (fun w' hw => rn_load rfl rfl (run_loadVar1 T50 ((a2958.step hw).2 0 _ rfl))) ?_
            obtain ⟨q2959, _, q2952⟩ := need_some q2952
            refine ⟨q2959, ?_⟩
            obtain ⟨x2960, q2961, q2952⟩ := bind_some q2952
            refine ev_call rfl rfl C32 (((clique_set_list_ok n) _ _ tb (ib .and .u32 x2953 (IntKind.u32.wrap ((IntKind.u32.wrap ((1 : Int) * 2 ^ min x2368.toNat (IntKind.u32).bits)) - 1))) hp.imm _ q2961).mono ?_)
            rintro _ w2962 ⟨I2963, v2964, hv, hq, r2965⟩
            replace hv := hv.symm
            subst hv
            have hs := hq.st
            have hp := hp.join0 hq
            replace hz := hz.trans hs
            replace r1012 := r1012.step hs
            replace o2366 := o2366.step hs
            replace tb := tb.step hs
            refine ⟨Stp I2963 w2962 I2963, Stp.refl _ _, fun x hx => hz.held hx, ?_⟩
            have hz := Stp.refl I2963 w2962
            refine evh0 (rn_len rfl rfl Tryd.underlying27 r2965) ?_
            apply go
            refine W.loop q2952 (γ := Unit) (fun s _ => [(7, v1011), (9, v2364), (10, (.int .i64 x2367)), (11, (.int .i64 x2368)), (12, (.int .u32 (s.1))), (25, (.int .i64 x1001)), (26, (.int .i64 x2368)), (37, v2964), (38, (.int .i64 (x2960.length : Int))), (39, (.int .i64 (s.2)))]) (fun s _ w' => w2962 = w') () (.c rfl (.c rfl (.c rfl (.c rfl (.c rfl (.c rfl (.c rfl (.c rfl (.c rfl (.c rfl .n)))))))))) rfl ?_
            rintro ⟨x2981, x2982⟩ ⟨⟩ _ y3000 rfl q3001 q3002
            unfold clique_Color_L25 at q3001
            apply go
            apply go
            apply go
            apply go
            refine sel_of (fun hc => ?_) (fun hc => ?_)
            ·
              have q3001 := cond_t q3001 hc
              apply go
              apply go
              apply go
              apply go
              apply go
              obtain ⟨x3003, q3004, q3001⟩ := bind_some q3001
              refine ev_index rfl rfl rfl Tryd.underlying27 T3 r2965 q3004 ?_
              intro p3005 c3006 d3007 a3008
              obtain rfl : c3006 = [(.int .i64 x3003)] := d3007
              refine ev (rn_load rfl rfl (run_loadVar1 T3 (a3008.2 0 _ rfl))) ?_
              apply go
              obtain ⟨x3009, q3010, q3001⟩ := bind_some q3001
              refine ev_indexO rfl rfl rfl Tryd.underlying27 T3 o2366 q3010 ?_
              intro g3011 c3012 h3015 d3013 l3014
              refine ev (rn_load rfl rfl (run_loadVar1 T3 (hp.cellE (i := 0) rfl h3015 d3013 (j := 0) rfl))) ?_
              obtain ⟨q3017, _, q3001⟩ := need_some q3001
              refine ⟨q3017, ?_⟩
              apply go
              exact ⟨_, (Option.some.inj q3001).symm, (), (.c rfl (.c rfl (.c rfl (.c rfl (.c rfl (.c rfl (.c rfl (.c rfl (.c rfl (.c rfl .n)))))))))), rfl⟩
            ·
              have q3001 := cond_f q3001 hc
              apply go
              have q3018 := congrArg some (q3002 _ (Option.some.inj q3001).symm)
              obtain rfl := Option.some.inj q3018
              exact ⟨(x2981, I2963), (.c rfl (.c rfl (.c rfl (.c rfl (.c rfl (.c rfl (.c rfl .n))))))), rfl, hp, r1012, o2366, tb⟩
          ·
            rintro ⟨x2948, I2949⟩ w2950 ⟨hy, hp, r1012, o2366, tb⟩
            replace hy := hy.symm
            subst hy
            apply go
            apply go
            obtain ⟨x3019, q3020, q2881⟩ := bind_some q2881
            refine ev_call rfl rfl C35 (((bits_TrailingZeros32_ok n) _ _ tb (ib .xor .u32 (if (IntKind.u32).signed then -1 else (IntKind.u32).max) x2948) hp.imm _ q3020).mono ?_)
            rintro _ w3021 ⟨rfl, hc⟩
            have hs := hp.stp hc
            replace hp := hp.ext hc
            replace r1012 := r1012.step hs
            replace o2366 := o2366.step hs
            replace tb := tb.step hs
            obtain ⟨x3022, q3023, q2881⟩ := bind_some q2881
            refine ev_indexO rfl rfl rfl Tryd.underlying27 T3 o2366 q3023 ?_
            intro g3024 c3025 h3028 d3026 l3027
            refine ev_storeE hp (i := 0) rfl h3028 rfl rfl rfl T3 o2366 q3023 (x0 := x3019) rfl ?_
            intro e3031 w3030 hp hs o3032
            replace r1012 := r1012.step hs
            replace tb := tb.step hs
            apply go
            obtain ⟨x3035, q3036, q2881⟩ := bind_some q2881
            refine ev_indexO rfl rfl rfl Tryd.underlying27 T3 o3032 q3036 ?_
            intro g3037 c3038 h3041 d3039 l3040
            refine ev (rn_load rfl rfl (run_loadVar1 T3 (hp.cellE (i := 0) rfl h3041 d3039 (j := 0) rfl))) ?_
            refine ev0 (rn_max rfl rfl rfl) ?_
            obtain rfl := Option.some.inj q2881
            exact ⟨((upd x2363 x2368 x3019), (if (IntKind.i64.wrap (x3035 + 1)) > x2367 then (IntKind.i64.wrap (x3035 + 1)) else x2367), v2364, e3031, I2949), (.c rfl (.c rfl (.c rfl (.c rfl (.c rfl .n))))), rfl, hp, r1012, o3032, tb⟩
        ·
          rintro ⟨x2873, x2877, v2874, e2875, I2878⟩ w2879 ⟨hy, hp, r1012, o2876, tb⟩
          replace hy := hy.symm
          subst hy
          apply go
          exact ⟨_, (Option.some.inj q2710).symm, (v2874, e2875, I2878), (.c rfl (.c rfl (.c rfl (.c rfl (.c rfl .n))))), ⟨hp, r1012, o2876, tb⟩⟩
      ·
        have q2710 := cond_f q2710 hc
        apply go
        have q3043 := congrArg some (q2711 _ (Option.some.inj q2710).symm)
        obtain rfl := Option.some.inj q3043
        exact ⟨(x2363, x2367, v2364, e2365, I2369), (.c rfl (.c rfl .n)), rfl, hp, o2366, tb⟩
    ·
      rintro ⟨x2027, x2031, v2028, e2029, I2032⟩ w2033 ⟨hy, hp, o2030, tb⟩
      replace hy := hy.symm
      subst hy
      apply go
      apply go
      apply go
      obtain rfl := Option.some.inj h
      have r3044 := o2030.frz hp (i := 0) rfl
      obtain ⟨hp, hs⟩ := freeze_hp hp (i := 0) rfl
      replace tb := tb.step hs
      have hp := hp.sel [] (by decide)
      exact ⟨(Ad I2032 e2029), v2028, rfl, hp, r3044⟩

end Go.Proofs.YtminclnaelbolaaDoor

namespace Go.Proofs.YtminclnaelbolaaDoor
open Go Go.Proofs.YtminclnaelbolaaDoor.Gw Go.RowKit
set_option linter.unusedVariables false
attribute [local irreducible] Ev EvQ EvS EvH
def law29_awake_S (f : Option Bool) : Prop := ∀ (w0 : World) (I0 : Nat → Prop) (tb : At w0 I0 ⟨0, 0, none⟩ (tab32.map (.int .u8)))  (hI : ∀ g, I0 g → g < w0.heap.size) (r : Bool), f  = some r →
    Ret Tryd.prog 12 #[] w0 fun v w1 => v = (.bool r) ∧ Ch [] w0 w1
theorem law29_awake_ok (n : Nat) : law29_awake_S (law29_awake n) := by
  intro w0 I0 tb hI r h
  unfold law29_awake at h
  refine enter Tryd.func12 rfl (Nat.le_of_ble_eq_true rfl) ?_
  have hp : Hp ⟨w0, I0, []⟩ I0 [] w0 := Hp.start hI
  apply go
  apply go
  apply go
  apply go
  refine ev0 (fun w => rn_build (cs := [(.int .i64 0), (.int .i64 1)]) rfl rfl T40 PL40 rfl) ?_
  refine ev0 (fun w => rn_build (cs := [(.int .i64 1), (.int .i64 2)]) rfl rfl T40 PL40 rfl) ?_
  refine ev0 (fun w => rn_build (cs := [(.int .i64 1), (.int .i64 3)]) rfl rfl T40 PL40 rfl) ?_
  refine ev0 (fun w => rn_build (cs := [(.int .i64 2), (.int .i64 3)]) rfl rfl T40 PL40 rfl) ?_
  refine ev_litN (d := dPair) (xs := [(Pair.mk 0 1), (Pair.mk 1 2), (Pair.mk 1 3), (Pair.mk 2 3)]) (cs := [(.int .i64 0), (.int .i64 1), (.int .i64 1), (.int .i64 2), (.int .i64 1), (.int .i64 3), (.int .i64 2), (.int .i64 3)]) hp rfl rfl Tryd.underlying22 T40 (by decide) rfl rfl (Elems.cons (d := dPair) (xs := _) dPair_m (Elems.cons (d := dPair) (xs := _) dPair_m (Elems.cons (d := dPair) (xs := _) dPair_m (Elems.cons (d := dPair) (xs := _) dPair_m (Elems.nil _ _ _ _))))) ?_
  intro v3148 I3150 w3149 hp hs r3151
  replace tb := tb.step hs
  apply go
  apply go
  obtain ⟨⟨x3152, x3153⟩, q3154, h⟩ := bind_some h
  refine ev_call rfl rfl C14 (((clique_Max_ok n) _ _ tb 4 [(Pair.mk 0 1), (Pair.mk 1 2), (Pair.mk 1 3), (Pair.mk 2 3)] v3148 r3151 hp.imm _ q3154).mono ?_)
  rintro _ w3155 ⟨I3156, v3157, hv, hq, r3158⟩
  replace hv := hv.symm
  subst hv
  have hs := hq.st
  have hp := hp.join0 hq
  replace r3151 := r3151.step hs
  replace tb := tb.step hs
  apply go
  apply go
  obtain ⟨⟨x3159, x3160, x3161⟩, q3162, h⟩ := bind_some h
  refine ev_call rfl rfl C17 (((clique_Color_ok n) _ _ tb 4 [(Pair.mk 0 1), (Pair.mk 1 2), (Pair.mk 1 3), (Pair.mk 2 3)] v3148 r3151 hp.imm _ q3162).mono ?_)
  rintro _ w3163 ⟨I3164, v3165, hv, hq, r3166⟩
  replace hv := hv.symm
  subst hv
  have hs := hq.st
  have hp := hp.join0 hq
  replace r3158 := r3158.step hs
  replace tb := tb.step hs
  obtain ⟨y3184, q3185, h⟩ := bind_some h
  refine W.cut (γ := (Bool × (Nat → Prop))) (fun g => [(0, (.bool (g.1)))]) (fun g w' => y3184 = (g.1) ∧ Hp ⟨w0, I0, []⟩ (g.2) [] w' ∧ At w' (g.2) ⟨0, 0, none⟩ (tab32.map (.int .u8))) ?_ ?_
  ·
    apply go
    refine sel_of (fun hc => ?_) (fun hc => ?_)
    ·
      have q3185 := cond_t q3185 hc
      refine ev_litN (d := (dI .i64)) (xs := [1, 2, 3]) (cs := [(.int .i64 1), (.int .i64 2), (.int .i64 3)]) hp rfl rfl Tryd.underlying27 T3 (by decide) rfl rfl (Elems.cons (d := (dI .i64)) (xs := _) rfl (Elems.cons (d := (dI .i64)) (xs := _) rfl (Elems.cons (d := (dI .i64)) (xs := _) rfl (Elems.nil _ _ _ _)))) ?_
      intro v3186 I3188 w3187 hp hs r3189
      replace r3166 := r3166.step hs
      replace r3158 := r3158.step hs
      replace tb := tb.step hs
      obtain ⟨x3190, q3191, q3185⟩ := bind_some q3185
      refine ev_call rfl rfl C16 (((base_Ints_ok n) _ _  x3152 v3157 r3158 [1, 2, 3] v3186 r3189 hp.imm _ q3191).mono ?_)
      rintro _ w3192 ⟨rfl, hc⟩
      have hs := hp.stp hc
      replace hp := hp.ext hc
      replace r3166 := r3166.step hs
      replace tb := tb.step hs
      refine sel_of (fun hc => ?_) (fun hc => ?_)
      ·
        have q3185 := cond_t q3185 hc
        refine sel_of (fun hc => ?_) (fun hc => ?_)
        ·
          have q3185 := cond_t q3185 hc
          refine sel_of (fun hc => ?_) (fun hc => ?_)
          ·
            have q3185 := cond_t q3185 hc
            refine ev_litN (d := (dI .i64)) (xs := [0, 1, 0, 2]) (cs := [(.int .i64 0), (.int .i64 1), (.int .i64 0), (.int .i64 2)]) hp rfl rfl Tryd.underlying27 T3 (by decide) rfl rfl (Elems.cons (d := (dI .i64)) (xs := _) rfl (Elems.cons (d := (dI .i64)) (xs := _) rfl (Elems.cons (d := (dI .i64)) (xs := _) rfl (Elems.cons (d := (dI .i64)) (xs := _) rfl (Elems.nil _ _ _ _))))) ?_
            intro v3193 I3195 w3194 hp hs r3196
            replace r3166 := r3166.step hs
            replace tb := tb.step hs
            obtain ⟨x3197, q3198, q3185⟩ := bind_some q3185
            refine ev_call rfl rfl C16 (((base_Ints_ok n) _ _  x3159 v3165 r3166 [0, 1, 0, 2] v3193 r3196 hp.imm _ q3198).mono ?_)
            rintro _ w3199 ⟨rfl, hc⟩
            have hs := hp.stp hc
            replace hp := hp.ext hc
            replace tb := tb.step hs
            obtain rfl := Option.some.inj q3185
            exact ⟨(x3197, I3195), (.c rfl .n), rfl, hp, tb⟩
          ·
            have q3185 := cond_f q3185 hc
            obtain rfl := Option.some.inj q3185
            exact ⟨(false, I3188), (.c rfl .n), rfl, hp, tb⟩
        ·
          have q3185 := cond_f q3185 hc
          obtain rfl := Option.some.inj q3185
          exact ⟨(false, I3188), (.c rfl .n), rfl, hp, tb⟩
      ·
        have q3185 := cond_f q3185 hc
        obtain rfl := Option.some.inj q3185
        exact ⟨(false, I3188), (.c rfl .n), rfl, hp, tb⟩
    ·
      have q3185 := cond_f q3185 hc
      obtain rfl := Option.some.inj q3185
      exact ⟨(false, I3164), (.c rfl .n), rfl, hp, tb⟩
  ·
    rintro ⟨x3181, I3182⟩ w3183 ⟨hy, hp, tb⟩
    replace hy := hy.symm
    subst hy
    apply go
    obtain rfl := Option.some.inj h
    exact ⟨rfl, hp.ch⟩

end Go.Proofs.YtminclnaelbolaaDoor

namespace Go.Proofs.YtminclnaelbolaaDoor
open Go Go.Proofs.YtminclnaelbolaaDoor.Gw Go.RowKit
set_option linter.unusedVariables false
attribute [local irreducible] Ev EvQ EvS EvH
def law29_few_S (f : Graph → Option Bool) : Prop := ∀ (w0 : World) (I0 : Nat → Prop) (x3200 : Graph) (v3201 : Value) (r3202 : RepS dPair w0 I0 v3201 x3200.E) (hI : ∀ g, I0 g → g < w0.heap.size) (r : Bool), f x3200 = some r →
    Ret Tryd.prog 13 #[(.agg #[(.int .i64 x3200.N), v3201])] w0 fun v w1 => v = (.bool r) ∧ Ch [] w0 w1
theorem law29_few_ok (n : Nat) : law29_few_S (law29_few n) := by
  intro w0 I0 x3200 v3201 r3202 hI r h
  unfold law29_few at h
  refine enter Tryd.func13 rfl (Nat.le_of_ble_eq_true rfl) ?_
  have hp : Hp ⟨w0, I0, []⟩ I0 [] w0 := Hp.start hI
  apply go
  apply go
  refine ev_boxI hp rfl rfl ?_
  intro p3205 I3206 w3204 hp hs a3207
  replace r3202 := r3202.step hs
  obtain ⟨y3209, q3210, h⟩ := bind_some h
  refine W.cut (γ := Bool) (fun g => [(2, (.bool (g)))]) (fun g w' => y3209 = (g) ∧ w3204 = w') ?_ ?_
  ·
    apply go
    refine ev0 (rn_field rfl rfl FO24_1) ?_
    refine ev (rn_load rfl rfl (run_loadVar1 T22 (a3207.2 1 _ rfl))) ?_
    refine ev0 (rn_len rfl rfl Tryd.underlying22 r3202) ?_
    refine sel_of (fun hc => ?_) (fun hc => ?_)
    ·
      have q3210 := cond_t q3210 hc
      refine ev0 (rn_field rfl rfl FO24_0) ?_
      refine ev (rn_load rfl rfl (run_loadVar1 T3 (a3207.2 0 _ rfl))) ?_
      refine sel_of (fun hc => ?_) (fun hc => ?_)
      ·
        have q3210 := cond_t q3210 hc
        obtain rfl := Option.some.inj q3210
        exact ⟨true, (.c rfl .n), rfl, rfl⟩
      ·
        have q3210 := cond_f q3210 hc
        refine ev0 (rn_field rfl rfl FO24_1) ?_
        refine ev (rn_load rfl rfl (run_loadVar1 T22 (a3207.2 1 _ rfl))) ?_
        refine ev0 (rn_len rfl rfl Tryd.underlying22 r3202) ?_
        obtain rfl := Option.some.inj q3210
        exact ⟨(decide ((x3200.E.length : Int) ≤ 30)), (.c rfl .n), rfl, rfl⟩
    ·
      have q3210 := cond_f q3210 hc
      obtain rfl := Option.some.inj q3210
      exact ⟨false, (.c rfl .n), rfl, rfl⟩
  ·
    rintro x3208 _ ⟨hy, rfl⟩
    replace hy := hy.symm
    subst hy
    apply go
    obtain rfl := Option.some.inj h
    exact ⟨rfl, hp.ch⟩

end Go.Proofs.YtminclnaelbolaaDoor

namespace Go.Proofs.YtminclnaelbolaaDoor
open Go Go.Proofs.YtminclnaelbolaaDoor.Gw Go.RowKit
set_option linter.unusedVariables false
attribute [local irreducible] Ev EvQ EvS EvH
def clique_graph_common_S (f : (List Int) → (List Int) → Option (Int × Bool)) : Prop := ∀ (w0 : World) (I0 : Nat → Prop) (x24256 : (List Int)) (v24257 : Value) (r24258 : RepS (dI .u32) w0 I0 v24257 x24256) (x24259 : (List Int)) (v24260 : Value) (r24261 : RepS (dI .i64) w0 I0 v24260 x24259) (hI : ∀ g, I0 g → g < w0.heap.size) (r : (Int × Bool)), f x24256 x24259 = some r →
    Ret Tryd.prog 37 #[v24257, v24260] w0 fun v w1 => v = (.tuple #[(.int .u32 r.1), (.bool r.2)]) ∧ Ch [] w0 w1
theorem clique_graph_common_ok (n : Nat) : clique_graph_common_S (clique_graph_common n) := by
  intro w0 I0 x24256 v24257 r24258 x24259 v24260 r24261 hI r h
  unfold clique_graph_common at h
  refine enter Tryd.func37 rfl (Nat.le_of_ble_eq_true rfl) ?_
  have hp : Hp ⟨w0, I0, []⟩ I0 [] w0 := Hp.start hI
  apply go
  apply go
  apply go
  apply go
  refine ev0 (rn_len rfl rfl Tryd.underlying46 r24258) ?_
  obtain ⟨q24262, _, h⟩ := need_some h
  refine ⟨q24262, ?_⟩
  obtain ⟨y24366, q24367, h⟩ := bind_some h
  refine W.cut (γ := Int) (fun g => [(6, (.int .u32 (g)))]) (fun g w' => y24366 = .go (g) ∧ w0 = w') ?_ ?_
  ·
    apply go
    apply go
    refine ev0 (rn_len rfl rfl Tryd.underlying27 r24261) ?_
    apply go
    refine W.loop q24367 (γ := Unit) (fun s _ => [(0, v24257), (1, v24260), (6, (.int .u32 (s.1))), (13, v24260), (14, (.int .i64 (x24259.length : Int))), (15, (.int .i64 (s.2)))]) (fun s _ w' => w0 = w') () (.c rfl (.c rfl (.c rfl (.c rfl (.c rfl (.c rfl .n)))))) rfl ?_
    rintro ⟨x24399, x24400⟩ ⟨⟩ _ y24434 rfl q24435 q24436
    unfold clique_graph_common_L1 at q24435
    apply go
    apply go
    apply go
    apply go
    refine sel_of (fun hc => ?_) (fun hc => ?_)
    ·
      have q24435 := cond_t q24435 hc
      apply go
      apply go
      apply go
      apply go
      apply go
      obtain ⟨x24437, q24438, q24435⟩ := bind_some q24435
      refine ev_index rfl rfl rfl Tryd.underlying27 T3 r24261 q24438 ?_
      intro p24439 c24440 d24441 a24442
      obtain rfl : c24440 = [(.int .i64 x24437)] := d24441
      refine ev (rn_load rfl rfl (run_loadVar1 T3 (a24442.2 0 _ rfl))) ?_
      apply go
      obtain ⟨y24452, q24453, q24435⟩ := bind_some q24435
      refine W.cut (γ := Bool) (fun g => [(0, v24257), (1, v24260), (6, (.int .u32 x24399)), (8, (.int .i64 x24437)), (13, v24260), (14, (.int .i64 (x24259.length : Int))), (15, (.int .i64 x24400)), (47, (.bool (g)))]) (fun g w' => y24452 = (g) ∧ w0 = w') ?_ ?_
      ·
        apply go
        refine sel_of (fun hc => ?_) (fun hc => ?_)
        ·
          have q24453 := cond_t q24453 hc
          obtain rfl := Option.some.inj q24453
          exact ⟨true, (.c rfl (.c rfl (.c rfl (.c rfl (.c rfl (.c rfl (.c rfl (.c rfl .n)))))))), rfl, rfl⟩
        ·
          have q24453 := cond_f q24453 hc
          refine ev0 (rn_len rfl rfl Tryd.underlying46 r24258) ?_
          refine sel_of (fun hc => ?_) (fun hc => ?_)
          ·
            have q24453 := cond_t q24453 hc
            obtain rfl := Option.some.inj q24453
            exact ⟨true, (.c rfl (.c rfl (.c rfl (.c rfl (.c rfl (.c rfl (.c rfl (.c rfl .n)))))))), rfl, rfl⟩
          ·
            have q24453 := cond_f q24453 hc
            refine sel_of (fun hc => ?_) (fun hc => ?_)
            ·
              have q24453 := cond_t q24453 hc
              obtain ⟨x24454, q24455, q24453⟩ := bind_some q24453
              refine ev_index rfl rfl rfl Tryd.underlying27 T3 r24261 q24455 ?_
              intro p24456 c24457 d24458 a24459
              obtain rfl : c24457 = [(.int .i64 x24454)] := d24458
              refine ev (rn_load rfl rfl (run_loadVar1 T3 (a24459.2 0 _ rfl))) ?_
              refine sel_of (fun hc => ?_) (fun hc => ?_)
              ·
                have q24453 := cond_t q24453 hc
                obtain rfl := Option.some.inj q24453
                exact ⟨true, (.c rfl (.c rfl (.c rfl (.c rfl (.c rfl (.c rfl (.c rfl (.c rfl .n)))))))), rfl, rfl⟩
              ·
                have q24453 := cond_f q24453 hc
                obtain ⟨q24460, _, q24453⟩ := need_some q24453
                refine ⟨q24460, ?_⟩
                obtain rfl := Option.some.inj q24453
                exact ⟨((ib .and .u32 (x24399.fdiv (2 ^ min x24437.toNat (IntKind.u32).bits)) 1) == 0), (.c rfl (.c rfl (.c rfl (.c rfl (.c rfl (.c rfl (.c rfl (.c rfl .n)))))))), rfl, rfl⟩
            ·
              have q24453 := cond_f q24453 hc
              obtain ⟨q24461, _, q24453⟩ := need_some q24453
              refine ⟨q24461, ?_⟩
              obtain rfl := Option.some.inj q24453
              exact ⟨((ib .and .u32 (x24399.fdiv (2 ^ min x24437.toNat (IntKind.u32).bits)) 1) == 0), (.c rfl (.c rfl (.c rfl (.c rfl (.c rfl (.c rfl (.c rfl (.c rfl .n)))))))), rfl, rfl⟩
      ·
        rintro x24451 _ ⟨hy, rfl⟩
        replace hy := hy.symm
        subst hy
        apply go
        refine sel_of (fun hc => ?_) (fun hc => ?_)
        ·
          have q24435 := cond_t q24435 hc
          apply go
          apply go
          apply go
          have q24462 := congrArg some (q24436 _ (Option.some.inj q24435).symm)
          obtain rfl := Option.some.inj q24462
          obtain rfl := Option.some.inj h
          exact ⟨rfl, hp.ch⟩
        ·
          have q24435 := cond_f q24435 hc
          apply go
          apply go
          obtain ⟨x24463, q24464, q24435⟩ := bind_some q24435
          refine ev_index rfl rfl rfl Tryd.underlying46 T50 r24258 q24464 ?_
          intro p24465 c24466 d24467 a24468
          obtain rfl : c24466 = [(.int .u32 x24463)] := d24467
          refine ev (rn_load rfl rfl (run_loadVar1 T50 (a24468.2 0 _ rfl))) ?_
          apply go
          exact ⟨_, (Option.some.inj q24435).symm, (), (.c rfl (.c rfl (.c rfl (.c rfl (.c rfl (.c rfl .n)))))), rfl⟩
    ·
      have q24435 := cond_f q24435 hc
      apply go
      have q24469 := congrArg some (q24436 _ (Option.some.inj q24435).symm)
      obtain rfl := Option.some.inj q24469
      exact ⟨x24399, (.c rfl .n), rfl, rfl⟩
  ·
    rintro x24365 _ ⟨hy, rfl⟩
    replace hy := hy.symm
    subst hy
    apply go
    apply go
    apply go
    obtain rfl := Option.some.inj h
    exact ⟨rfl, hp.ch⟩

end Go.Proofs.YtminclnaelbolaaDoor

namespace Go.Proofs.YtminclnaelbolaaDoor
open Go Go.Proofs.YtminclnaelbolaaDoor.Gw Go.RowKit
set_option linter.unusedVariables false
attribute [local irreducible] Ev EvQ EvS EvH
def clique_Is_S (f : Int → (List Pair) → (List Int) → Option Bool) : Prop := ∀ (w0 : World) (I0 : Nat → Prop) (x24470 : Int) (x24471 : (List Pair)) (v24472 : Value) (r24473 : RepS dPair w0 I0 v24472 x24471) (x24474 : (List Int)) (v24475 : Value) (r24476 : RepS (dI .i64) w0 I0 v24475 x24474) (hI : ∀ g, I0 g → g < w0.heap.size) (r : Bool), f x24470 x24471 x24474 = some r →
    Ret Tryd.prog 22 #[(.int .i64 x24470), v24472, v24475] w0 fun v w1 => v = (.bool r) ∧ Ch [] w0 w1
theorem clique_Is_ok (n : Nat) : clique_Is_S (clique_Is n) := by
  intro w0 I0 x24470 x24471 v24472 r24473 x24474 v24475 r24476 hI r h
  unfold clique_Is at h
  refine enter Tryd.func22 rfl (Nat.le_of_ble_eq_true rfl) ?_
  have hp : Hp ⟨w0, I0, []⟩ I0 [] w0 := Hp.start hI
  apply go
  apply go
  apply go
  apply go
  obtain ⟨⟨x24477, x24478⟩, q24479, h⟩ := bind_some h
  refine ev_call rfl rfl C30 (((clique_build_ok n) _ _  x24470 x24471 v24472 r24473 hp.imm _ q24479).mono ?_)
  rintro _ w24480 ⟨I24481, v24482, hv, hq, r24483⟩
  replace hv := hv.symm
  subst hv
  have hs := hq.st
  have hp := hp.join0 hq
  replace r24476 := r24476.step hs
  apply go
  apply go
  apply go
  apply go
  refine sel_of (fun hc => ?_) (fun hc => ?_)
  ·
    have h := cond_t h hc
    apply go
    apply go
    apply go
    obtain rfl := Option.some.inj h
    exact ⟨rfl, hp.ch⟩
  ·
    have h := cond_f h hc
    apply go
    apply go
    apply go
    obtain ⟨⟨x24484, x24485⟩, q24486, h⟩ := bind_some h
    refine ev_call rfl rfl C37 (((clique_graph_common_ok n) _ _  x24477 v24482 r24483 x24474 v24475 r24476 hp.imm _ q24486).mono ?_)
    rintro _ w24487 ⟨rfl, hc⟩
    have hs := hp.stp hc
    replace hp := hp.ext hc
    apply go
    apply go
    apply go
    obtain rfl := Option.some.inj h
    exact ⟨rfl, hp.ch⟩

end Go.Proofs.YtminclnaelbolaaDoor

namespace Go.Proofs.YtminclnaelbolaaDoor
open Go Go.Proofs.YtminclnaelbolaaDoor.Gw Go.RowKit
set_option linter.unusedVariables false
attribute [local irreducible] Ev EvQ EvS EvH
def clique_graph_count_S (f : (List Int) → Int → Int → Option Int) : Prop := ∀ (w0 : World) (I0 : Nat → Prop) (tb : At w0 I0 ⟨0, 0, none⟩ (tab32.map (.int .u8))) (x25046 : (List Int)) (v25047 : Value) (r25048 : RepS (dI .u32) w0 I0 v25047 x25046) (x25049 : Int) (x25050 : Int) (hI : ∀ g, I0 g → g < w0.heap.size) (r : Int), f x25046 x25049 x25050 = some r →
    Ret Tryd.prog 38 #[v25047, (.int .u32 x25049), (.int .i64 x25050)] w0 fun v w1 => v = (.int .i64 r) ∧ Ch [] w0 w1
theorem clique_graph_count_F_ok (n : Nat) (self : (List Int) → Int → Int → Option Int) (ih : clique_graph_count_S self) : clique_graph_count_S (clique_graph_count_F n self) := by
  intro w0 I0 tb x25046 v25047 r25048 x25049 x25050 hI r h
  unfold clique_graph_count_F at h
  refine enter Tryd.func38 rfl (Nat.le_of_ble_eq_true rfl) ?_
  have hp : Hp ⟨w0, I0, []⟩ I0 [] w0 := Hp.start hI
  apply go
  apply go
  apply go
  apply go
  apply go
  apply go
  refine sel_of (fun hc => ?_) (fun hc => ?_)
  ·
    have h := cond_t h hc
    apply go
    apply go
    apply go
    obtain rfl := Option.some.inj h
    exact ⟨rfl, hp.ch⟩
  ·
    have h := cond_f h hc
    apply go
    apply go
    apply go
    obtain ⟨y25107, q25108, h⟩ := bind_some h
    refine W.cut (γ := Int) (fun g => [(7, (.int .i64 (g)))]) (fun g w' => y25107 = (g) ∧ Hp ⟨w0, I0, []⟩ I0 [] w' ∧ At w' I0 ⟨0, 0, none⟩ (tab32.map (.int .u8))) ?_ ?_
    ·
      apply go
      refine W.loop q25108 (γ := Unit) (fun s _ => [(0, v25047), (1, (.int .u32 (s.1))), (2, (.int .i64 x25050)), (7, (.int .i64 (s.2)))]) (fun s _ w' => Hp ⟨w0, I0, []⟩ I0 [] w' ∧ RepS (dI .u32) w' I0 v25047 x25046 ∧ At w' I0 ⟨0, 0, none⟩ (tab32.map (.int .u8))) () (.c rfl (.c rfl (.c rfl (.c rfl .n)))) ⟨hp, r25048, tb⟩ ?_
      rintro ⟨x25124, x25125⟩ ⟨⟩ w25143 y25144 ⟨hp, r25048, tb⟩ q25145 q25146
      unfold clique_graph_count_L1 at q25145
      apply go
      apply go
      apply go
      obtain ⟨x25147, q25148, q25145⟩ := bind_some q25145
      refine ev_call rfl rfl C40 (((clique_set_size_ok n) _ _  x25124 hp.imm _ q25148).mono ?_)
      rintro _ w25149 ⟨rfl, hc⟩
      have hs := hp.stp hc
      replace hp := hp.ext hc
      replace r25048 := r25048.step hs
      replace tb := tb.step hs
      apply go
      refine sel_of (fun hc => ?_) (fun hc => ?_)
      ·
        have q25145 := cond_t q25145 hc
        apply go
        apply go
        apply go
        apply go
        apply go
        obtain ⟨x25150, q25151, q25145⟩ := bind_some q25145
        refine ev_call rfl rfl C35 (((bits_TrailingZeros32_ok n) _ _ tb x25124 hp.imm _ q25151).mono ?_)
        rintro _ w25152 ⟨rfl, hc⟩
        have hs := hp.stp hc
        replace hp := hp.ext hc
        replace r25048 := r25048.step hs
        replace tb := tb.step hs
        apply go
        obtain ⟨x25153, q25154, q25145⟩ := bind_some q25145
        refine ev_index rfl rfl rfl Tryd.underlying46 T50 r25048 q25154 ?_
        intro p25155 c25156 d25157 a25158
        obtain rfl : c25156 = [(.int .u32 x25153)] := d25157
        refine ev (rn_load rfl rfl (run_loadVar1 T50 (a25158.2 0 _ rfl))) ?_
        obtain ⟨x25159, q25160, q25145⟩ := bind_some q25145
        refine ev_call rfl rfl C38 ((ih _ _ tb x25046 v25047 r25048 (ib .and .u32 (ib .and .u32 x25124 (IntKind.u32.wrap (x25124 - 1))) x25153) (IntKind.i64.wrap (x25050 - 1)) hp.imm _ q25160).mono ?_)
        rintro _ w25161 ⟨rfl, hc⟩
        have hs := hp.stp hc
        replace hp := hp.ext hc
        replace r25048 := r25048.step hs
        replace tb := tb.step hs
        apply go
        exact ⟨_, (Option.some.inj q25145).symm, (), (.c rfl (.c rfl (.c rfl (.c rfl .n)))), ⟨hp, r25048, tb⟩⟩
      ·
        have q25145 := cond_f q25145 hc
        apply go
        have q25162 := congrArg some (q25146 _ (Option.some.inj q25145).symm)
        obtain rfl := Option.some.inj q25162
        exact ⟨x25125, (.c rfl .n), rfl, hp, tb⟩
    ·
      rintro x25105 w25106 ⟨hy, hp, tb⟩
      replace hy := hy.symm
      subst hy
      apply go
      apply go
      apply go
      obtain rfl := Option.some.inj h
      exact ⟨rfl, hp.ch⟩
theorem clique_graph_count_ok : ∀ n, clique_graph_count_S (clique_graph_count n)
  | 0 => by intro w0 I0 tb x25046 v25047 r25048 x25049 x25050 hI r h; cases h
  | n + 1 => clique_graph_count_F_ok n _ (clique_graph_count_ok n)

end Go.Proofs.YtminclnaelbolaaDoor

namespace Go.Proofs.YtminclnaelbolaaDoor
open Go Go.Proofs.YtminclnaelbolaaDoor.Gw Go.RowKit
set_option linter.unusedVariables false
attribute [local irreducible] Ev EvQ EvS EvH
def clique_Count_S (f : Int → (List Pair) → Int → Option (Int × Int)) : Prop := ∀ (w0 : World) (I0 : Nat → Prop) (tb : At w0 I0 ⟨0, 0, none⟩ (tab32.map (.int .u8))) (x25163 : Int) (x25164 : (List Pair)) (v25165 : Value) (r25166 : RepS dPair w0 I0 v25165 x25164) (x25167 : Int) (hI : ∀ g, I0 g → g < w0.heap.size) (r : (Int × Int)), f x25163 x25164 x25167 = some r →
    Ret Tryd.prog 23 #[(.int .i64 x25163), v25165, (.int .i64 x25167)] w0 fun v w1 => v = (.tuple #[(.int .i64 r.1), (.int .i64 r.2)]) ∧ Ch [] w0 w1
theorem clique_Count_ok (n : Nat) : clique_Count_S (clique_Count n) := by
  intro w0 I0 tb x25163 x25164 v25165 r25166 x25167 hI r h
  unfold clique_Count at h
  refine enter Tryd.func23 rfl (Nat.le_of_ble_eq_true rfl) ?_
  have hp : Hp ⟨w0, I0, []⟩ I0 [] w0 := Hp.start hI
  apply go
  apply go
  apply go
  apply go
  obtain ⟨⟨x25168, x25169⟩, q25170, h⟩ := bind_some h
  refine ev_call rfl rfl C30 (((clique_build_ok n) _ _  x25163 x25164 v25165 r25166 hp.imm _ q25170).mono ?_)
  rintro _ w25171 ⟨I25172, v25173, hv, hq, r25174⟩
  replace hv := hv.symm
  subst hv
  have hs := hq.st
  have hp := hp.join0 hq
  replace tb := tb.step hs
  apply go
  apply go
  apply go
  apply go
  refine sel_of (fun hc => ?_) (fun hc => ?_)
  ·
    have h := cond_t h hc
    apply go
    apply go
    apply go
    obtain rfl := Option.some.inj h
    exact ⟨rfl, hp.ch⟩
  ·
    have h := cond_f h hc
    apply go
    apply go
    obtain ⟨y25176, q25177, h⟩ := bind_some h
    refine W.cut (γ := Bool) (fun g => [(0, (.int .i64 x25163)), (2, (.int .i64 x25167)), (8, v25173), (24, (.bool (g)))]) (fun g w' => y25176 = (g) ∧ w25171 = w') ?_ ?_
    ·
      apply go
      refine sel_of (fun hc => ?_) (fun hc => ?_)
      ·
        have q25177 := cond_t q25177 hc
        obtain rfl := Option.some.inj q25177
        exact ⟨true, (.c rfl (.c rfl (.c rfl (.c rfl .n)))), rfl, rfl⟩
      ·
        have q25177 := cond_f q25177 hc
        obtain rfl := Option.some.inj q25177
        exact ⟨(decide (x25167 > x25163)), (.c rfl (.c rfl (.c rfl (.c rfl .n)))), rfl, rfl⟩
    ·
      rintro x25175 _ ⟨hy, rfl⟩
      replace hy := hy.symm
      subst hy
      apply go
      refine sel_of (fun hc => ?_) (fun hc => ?_)
      ·
        have h := cond_t h hc
        apply go
        apply go
        apply go
        obtain rfl := Option.some.inj h
        exact ⟨rfl, hp.ch⟩
      ·
        have h := cond_f h hc
        apply go
        apply go
        apply go
        obtain ⟨q25178, _, h⟩ := need_some h
        refine ⟨q25178, ?_⟩
        obtain ⟨x25179, q25180, h⟩ := bind_some h
        refine ev_call rfl rfl C38 (((clique_graph_count_ok n) _ _ tb x25168 v25173 r25174 (IntKind.u32.wrap ((IntKind.u32.wrap ((1 : Int) * 2 ^ min x25163.toNat (IntKind.u32).bits)) - 1)) x25167 hp.imm _ q25180).mono ?_)
        rintro _ w25181 ⟨rfl, hc⟩
        have hs := hp.stp hc
        replace hp := hp.ext hc
        replace tb := tb.step hs
        apply go
        obtain rfl := Option.some.inj h
        exact ⟨rfl, hp.ch⟩

end Go.Proofs.YtminclnaelbolaaDoor

namespace Go.Proofs.YtminclnaelbolaaDoor
open Go Go.Proofs.YtminclnaelbolaaDoor.Gw Go.RowKit
set_option linter.unusedVariables false
attribute [local irreducible] Ev EvQ EvS EvH
def clique_Maximal_S (f : Int → (List Pair) → (List Int) → Option Bool) : Prop := ∀ (w0 : World) (I0 : Nat → Prop) (x29147 : Int) (x29148 : (List Pair)) (v29149 : Value) (r29150 : RepS dPair w0 I0 v29149 x29148) (x29151 : (List Int)) (v29152 : Value) (r29153 : RepS (dI .i64) w0 I0 v29152 x29151) (hI : ∀ g, I0 g → g < w0.heap.size) (r : Bool), f x29147 x29148 x29151 = some r →
    Ret Tryd.prog 28 #[(.int .i64 x29147), v29149, v29152] w0 fun v w1 => v = (.bool r) ∧ Ch [] w0 w1
theorem clique_Maximal_ok (n : Nat) : clique_Maximal_S (clique_Maximal n) := by
  intro w0 I0 x29147 x29148 v29149 r29150 x29151 v29152 r29153 hI r h
  unfold clique_Maximal at h
  refine enter Tryd.func28 rfl (Nat.le_of_ble_eq_true rfl) ?_
  have hp : Hp ⟨w0, I0, []⟩ I0 [] w0 := Hp.start hI
  apply go
  apply go
  apply go
  apply go
  obtain ⟨⟨x29154, x29155⟩, q29156, h⟩ := bind_some h
  refine ev_call rfl rfl C30 (((clique_build_ok n) _ _  x29147 x29148 v29149 r29150 hp.imm _ q29156).mono ?_)
  rintro _ w29157 ⟨I29158, v29159, hv, hq, r29160⟩
  replace hv := hv.symm
  subst hv
  have hs := hq.st
  have hp := hp.join0 hq
  replace r29153 := r29153.step hs
  apply go
  apply go
  apply go
  apply go
  refine sel_of (fun hc => ?_) (fun hc => ?_)
  ·
    have h := cond_t h hc
    apply go
    apply go
    apply go
    obtain rfl := Option.some.inj h
    exact ⟨rfl, hp.ch⟩
  ·
    have h := cond_f h hc
    apply go
    apply go
    apply go
    obtain ⟨⟨x29161, x29162⟩, q29163, h⟩ := bind_some h
    refine ev_call rfl rfl C37 (((clique_graph_common_ok n) _ _  x29154 v29159 r29160 x29151 v29152 r29153 hp.imm _ q29163).mono ?_)
    rintro _ w29164 ⟨rfl, hc⟩
    have hs := hp.stp hc
    replace hp := hp.ext hc
    obtain ⟨y29166, q29167, h⟩ := bind_some h
    refine W.cut (γ := Bool) (fun g => [(6, (.bool (g)))]) (fun g w' => y29166 = (g) ∧ w29164 = w') ?_ ?_
    ·
      apply go
      refine sel_of (fun hc => ?_) (fun hc => ?_)
      ·
        have q29167 := cond_t q29167 hc
        obtain rfl := Option.some.inj q29167
        exact ⟨(x29161 == 0), (.c rfl .n), rfl, rfl⟩
      ·
        have q29167 := cond_f q29167 hc
        obtain rfl := Option.some.inj q29167
        exact ⟨false, (.c rfl .n), rfl, rfl⟩
    ·
      rintro x29165 _ ⟨hy, rfl⟩
      replace hy := hy.symm
      subst hy
      apply go
      obtain rfl := Option.some.inj h
      exact ⟨rfl, hp.ch⟩

end Go.Proofs.YtminclnaelbolaaDoor

namespace Go.Proofs.YtminclnaelbolaaDoor
open Go Go.Proofs.YtminclnaelbolaaDoor.Gw Go.RowKit
set_option linter.unusedVariables false
attribute [local irreducible] Ev EvQ EvS EvH
def law29_CliqueGreatest_S (f : Graph → (List Int) → Option Bool) : Prop := ∀ (w0 : World) (I0 : Nat → Prop) (tb : At w0 I0 ⟨0, 0, none⟩ (tab32.map (.int .u8))) (x32218 : Graph) (v32219 : Value) (r32220 : RepS dPair w0 I0 v32219 x32218.E) (x32221 : (List Int)) (v32222 : Value) (r32223 : RepS (dI .i64) w0 I0 v32222 x32221) (hI : ∀ g, I0 g → g < w0.heap.size) (r : Bool), f x32218 x32221 = some r →
    Ret Tryd.prog 11 #[(.agg #[(.int .i64 x32218.N), v32219]), v32222] w0 fun v w1 => v = (.bool r) ∧ Ch [] w0 w1
theorem law29_CliqueGreatest_ok (n : Nat) : law29_CliqueGreatest_S (law29_CliqueGreatest n) := by
  intro w0 I0 tb x32218 v32219 r32220 x32221 v32222 r32223 hI r h
  unfold law29_CliqueGreatest at h
  refine enter Tryd.func11 rfl (Nat.le_of_ble_eq_true rfl) ?_
  have hp : Hp ⟨w0, I0, []⟩ I0 [] w0 := Hp.start hI
  apply go
  apply go
  refine ev_boxI hp rfl rfl ?_
  intro p32226 I32227 w32225 hp hs a32228
  replace r32223 := r32223.step hs
  replace r32220 := r32220.step hs
  replace tb := tb.step hs
  apply go
  obtain ⟨y32237, q32238, h⟩ := bind_some h
  refine W.cut (γ := Bool) (fun g => [(1, v32222), (2, (.pointer (some (p32226)))), (22, (.bool (g)))]) (fun g w' => y32237 = (g) ∧ Hp ⟨w0, I0, []⟩ I32227 [] w' ∧ RepS (dI .i64) w' I32227 v32222 x32221 ∧ RepS dPair w' I32227 v32219 x32218.E ∧ At w' I32227 p32226 [(.int .i64 x32218.N), v32219] ∧ At w' I32227 ⟨0, 0, none⟩ (tab32.map (.int .u8))) ?_ ?_
  ·
    apply go
    obtain ⟨x32239, q32240, q32238⟩ := bind_some q32238
    refine ev_call rfl rfl C12 (((law29_awake_ok n) _ _ tb  hp.imm _ q32240).mono ?_)
    rintro _ w32241 ⟨rfl, hc⟩
    have hs := hp.stp hc
    replace hp := hp.ext hc
    replace r32223 := r32223.step hs
    replace a32228 := a32228.step hs
    replace r32220 := r32220.step hs
    replace tb := tb.step hs
    refine sel_of (fun hc => ?_) (fun hc => ?_)
    ·
      have q32238 := cond_t q32238 hc
      obtain rfl := Option.some.inj q32238
      exact ⟨true, (.c rfl (.c rfl (.c rfl .n))), rfl, hp, r32223, r32220, a32228, tb⟩
    ·
      have q32238 := cond_f q32238 hc
      refine ev (rn_load rfl rfl (run_loadVarA T24 rfl a32228)) ?_
      obtain ⟨x32242, q32243, q32238⟩ := bind_some q32238
      refine ev_call rfl rfl C13 (((law29_few_ok n) _ _  (Graph.mk x32218.N x32218.E) v32219 r32220 hp.imm _ q32243).mono ?_)
      rintro _ w32244 ⟨rfl, hc⟩
      have hs := hp.stp hc
      replace hp := hp.ext hc
      replace r32223 := r32223.step hs
      replace a32228 := a32228.step hs
      replace r32220 := r32220.step hs
      replace tb := tb.step hs
      refine sel_of (fun hc => ?_) (fun hc => ?_)
      ·
        have q32238 := cond_t q32238 hc
        obtain rfl := Option.some.inj q32238
        exact ⟨true, (.c rfl (.c rfl (.c rfl .n))), rfl, hp, r32223, r32220, a32228, tb⟩
      ·
        have q32238 := cond_f q32238 hc
        refine ev0 (rn_len rfl rfl Tryd.underlying27 r32223) ?_
        obtain rfl := Option.some.inj q32238
        exact ⟨(decide ((x32221.length : Int) > 100)), (.c rfl (.c rfl (.c rfl .n))), rfl, hp, r32223, r32220, a32228, tb⟩
  ·
    rintro x32235 w32236 ⟨hy, hp, r32223, r32220, a32228, tb⟩
    replace hy := hy.symm
    subst hy
    apply go
    refine sel_of (fun hc => ?_) (fun hc => ?_)
    ·
      have h := cond_t h hc
      apply go
      apply go
      obtain ⟨x32245, q32246, h⟩ := bind_some h
      refine ev_call rfl rfl C12 (((law29_awake_ok n) _ _ tb  hp.imm _ q32246).mono ?_)
      rintro _ w32247 ⟨rfl, hc⟩
      have hs := hp.stp hc
      replace hp := hp.ext hc
      replace tb := tb.step hs
      apply go
      obtain rfl := Option.some.inj h
      exact ⟨rfl, hp.ch⟩
    ·
      have h := cond_f h hc
      apply go
      apply go
      apply go
      refine ev0 (rn_field rfl rfl FO24_0) ?_
      refine ev (rn_load rfl rfl (run_loadVar1 T3 (a32228.2 0 _ rfl))) ?_
      refine ev0 (rn_field rfl rfl FO24_1) ?_
      refine ev (rn_load rfl rfl (run_loadVar1 T22 (a32228.2 1 _ rfl))) ?_
      obtain ⟨⟨x32248, x32249⟩, q32250, h⟩ := bind_some h
      refine ev_call rfl rfl C14 (((clique_Max_ok n) _ _ tb x32218.N x32218.E v32219 r32220 hp.imm _ q32250).mono ?_)
      rintro _ w32251 ⟨I32252, v32253, hv, hq, r32254⟩
      replace hv := hv.symm
      subst hv
      have hs := hq.st
      have hp := hp.join0 hq
      replace r32223 := r32223.step hs
      replace a32228 := a32228.step hs
      replace r32220 := r32220.step hs
      replace tb := tb.step hs
      apply go
      apply go
      apply go
      apply go
      refine sel_of (fun hc => ?_) (fun hc => ?_)
      ·
        have h := cond_t h hc
        obtain ⟨y32263, q32264, h⟩ := bind_some h
        refine W.cut (γ := Bool) (fun g => [(4, (.bool (g)))]) (fun g w' => y32263 = (g) ∧ Hp ⟨w0, I0, []⟩ I32252 [] w' ∧ At w' I32252 ⟨0, 0, none⟩ (tab32.map (.int .u8))) ?_ ?_
        ·
          apply go
          refine ev0 (rn_field rfl rfl FO24_0) ?_
          refine ev (rn_load rfl rfl (run_loadVar1 T3 (a32228.2 0 _ rfl))) ?_
          refine ev0 (rn_field rfl rfl FO24_1) ?_
          refine ev (rn_load rfl rfl (run_loadVar1 T22 (a32228.2 1 _ rfl))) ?_
          obtain ⟨x32265, q32266, q32264⟩ := bind_some q32264
          refine ev_call rfl rfl C22 (((clique_Is_ok n) _ _  x32218.N x32218.E v32219 r32220 x32221 v32222 r32223 hp.imm _ q32266).mono ?_)
          rintro _ w32267 ⟨rfl, hc⟩
          have hs := hp.stp hc
          replace hp := hp.ext hc
          replace a32228 := a32228.step hs
          replace r32220 := r32220.step hs
          replace tb := tb.step hs
          refine sel_of (fun hc => ?_) (fun hc => ?_)
          ·
            have q32264 := cond_t q32264 hc
            refine ev0 (rn_field rfl rfl FO24_0) ?_
            refine ev (rn_load rfl rfl (run_loadVar1 T3 (a32228.2 0 _ rfl))) ?_
            refine ev0 (rn_field rfl rfl FO24_1) ?_
            refine ev (rn_load rfl rfl (run_loadVar1 T22 (a32228.2 1 _ rfl))) ?_
            obtain ⟨x32268, q32269, q32264⟩ := bind_some q32264
            refine ev_call rfl rfl C22 (((clique_Is_ok n) _ _  x32218.N x32218.E v32219 r32220 [] (.slice none 0 0) (RepS.nil _ _ _) hp.imm _ q32269).mono ?_)
            rintro _ w32270 ⟨rfl, hc⟩
            have hs := hp.stp hc
            replace hp := hp.ext hc
            replace tb := tb.step hs
            obtain rfl := Option.some.inj q32264
            exact ⟨(!x32268), (.c rfl .n), rfl, hp, tb⟩
          ·
            have q32264 := cond_f q32264 hc
            obtain rfl := Option.some.inj q32264
            exact ⟨false, (.c rfl .n), rfl, hp, tb⟩
        ·
          rintro x32261 w32262 ⟨hy, hp, tb⟩
          replace hy := hy.symm
          subst hy
          apply go
          obtain rfl := Option.some.inj h
          exact ⟨rfl, hp.ch⟩
      ·
        have h := cond_f h hc
        apply go
        apply go
        obtain ⟨y32282, q32283, h⟩ := bind_some h
        refine W.cut (γ := Bool) (fun g => [(2, (.pointer (some (p32226)))), (5, v32253), (79, (.bool (g)))]) (fun g w' => y32282 = (g) ∧ Hp ⟨w0, I0, []⟩ I32252 [] w' ∧ RepS dPair w' I32252 v32219 x32218.E ∧ At w' I32252 p32226 [(.int .i64 x32218.N), v32219] ∧ RepS (dI .i64) w' I32252 v32253 x32248 ∧ At w' I32252 ⟨0, 0, none⟩ (tab32.map (.int .u8))) ?_ ?_
        ·
          apply go
          refine ev0 (rn_field rfl rfl FO24_0) ?_
          refine ev (rn_load rfl rfl (run_loadVar1 T3 (a32228.2 0 _ rfl))) ?_
          refine ev0 (rn_field rfl rfl FO24_1) ?_
          refine ev (rn_load rfl rfl (run_loadVar1 T22 (a32228.2 1 _ rfl))) ?_
          obtain ⟨x32284, q32285, q32283⟩ := bind_some q32283
          refine ev_call rfl rfl C22 (((clique_Is_ok n) _ _  x32218.N x32218.E v32219 r32220 x32248 v32253 r32254 hp.imm _ q32285).mono ?_)
          rintro _ w32286 ⟨rfl, hc⟩
          have hs := hp.stp hc
          replace hp := hp.ext hc
          replace r32223 := r32223.step hs
          replace a32228 := a32228.step hs
          replace r32220 := r32220.step hs
          replace r32254 := r32254.step hs
          replace tb := tb.step hs
          refine sel_of (fun hc => ?_) (fun hc => ?_)
          ·
            have q32283 := cond_t q32283 hc
            obtain rfl := Option.some.inj q32283
            exact ⟨true, (.c rfl (.c rfl (.c rfl .n))), rfl, hp, r32220, a32228, r32254, tb⟩
          ·
            have q32283 := cond_f q32283 hc
            refine ev0 (rn_field rfl rfl FO24_0) ?_
            refine ev (rn_load rfl rfl (run_loadVar1 T3 (a32228.2 0 _ rfl))) ?_
            refine ev0 (rn_field rfl rfl FO24_1) ?_
            refine ev (rn_load rfl rfl (run_loadVar1 T22 (a32228.2 1 _ rfl))) ?_
            obtain ⟨x32287, q32288, q32283⟩ := bind_some q32283
            refine ev_call rfl rfl C28 (((clique_Maximal_ok n) _ _  x32218.N x32218.E v32219 r32220 x32248 v32253 r32254 hp.imm _ q32288).mono ?_)
            rintro _ w32289 ⟨rfl, hc⟩
            have hs := hp.stp hc
            replace hp := hp.ext hc
            replace r32223 := r32223.step hs
            replace a32228 := a32228.step hs
            replace r32220 := r32220.step hs
            replace r32254 := r32254.step hs
            replace tb := tb.step hs
            refine sel_of (fun hc => ?_) (fun hc => ?_)
            ·
              have q32283 := cond_t q32283 hc
              obtain rfl := Option.some.inj q32283
              exact ⟨true, (.c rfl (.c rfl (.c rfl .n))), rfl, hp, r32220, a32228, r32254, tb⟩
            ·
              have q32283 := cond_f q32283 hc
              refine ev0 (rn_field rfl rfl FO24_0) ?_
              refine ev (rn_load rfl rfl (run_loadVar1 T3 (a32228.2 0 _ rfl))) ?_
              refine ev0 (rn_field rfl rfl FO24_1) ?_
              refine ev (rn_load rfl rfl (run_loadVar1 T22 (a32228.2 1 _ rfl))) ?_
              obtain ⟨x32290, q32291, q32283⟩ := bind_some q32283
              refine ev_call rfl rfl C22 (((clique_Is_ok n) _ _  x32218.N x32218.E v32219 r32220 x32221 v32222 r32223 hp.imm _ q32291).mono ?_)
              rintro _ w32292 ⟨rfl, hc⟩
              have hs := hp.stp hc
              replace hp := hp.ext hc
              replace r32223 := r32223.step hs
              replace a32228 := a32228.step hs
              replace r32220 := r32220.step hs
              replace r32254 := r32254.step hs
              replace tb := tb.step hs
              refine sel_of (fun hc => ?_) (fun hc => ?_)
              ·
                have q32283 := cond_t q32283 hc
                refine ev0 (rn_len rfl rfl Tryd.underlying27 r32223) ?_
                refine ev0 (rn_len rfl rfl Tryd.underlying27 r32254) ?_
                obtain rfl := Option.some.inj q32283
                exact ⟨(decide ((x32221.length : Int) > (x32248.length : Int))), (.c rfl (.c rfl (.c rfl .n))), rfl, hp, r32220, a32228, r32254, tb⟩
              ·
                have q32283 := cond_f q32283 hc
                obtain rfl := Option.some.inj q32283
                exact ⟨false, (.c rfl (.c rfl (.c rfl .n))), rfl, hp, r32220, a32228, r32254, tb⟩
        ·
          rintro x32280 w32281 ⟨hy, hp, r32220, a32228, r32254, tb⟩
          replace hy := hy.symm
          subst hy
          apply go
          refine sel_of (fun hc => ?_) (fun hc => ?_)
          ·
            have h := cond_t h hc
            apply go
            apply go
            apply go
            obtain rfl := Option.some.inj h
            exact ⟨rfl, hp.ch⟩
          ·
            have h := cond_f h hc
            apply go
            apply go
            apply go
            refine ev0 (rn_field rfl rfl FO24_0) ?_
            refine ev (rn_load rfl rfl (run_loadVar1 T3 (a32228.2 0 _ rfl))) ?_
            refine ev0 (rn_field rfl rfl FO24_1) ?_
            refine ev (rn_load rfl rfl (run_loadVar1 T22 (a32228.2 1 _ rfl))) ?_
            refine ev0 (rn_len rfl rfl Tryd.underlying27 r32254) ?_
            obtain ⟨⟨x32293, x32294⟩, q32295, h⟩ := bind_some h
            refine ev_call rfl rfl C23 (((clique_Count_ok n) _ _ tb x32218.N x32218.E v32219 r32220 (x32248.length : Int) hp.imm _ q32295).mono ?_)
            rintro _ w32296 ⟨rfl, hc⟩
            have hs := hp.stp hc
            replace hp := hp.ext hc
            replace a32228 := a32228.step hs
            replace r32220 := r32220.step hs
            replace r32254 := r32254.step hs
            replace tb := tb.step hs
            apply go
            apply go
            refine ev0 (rn_field rfl rfl FO24_0) ?_
            refine ev (rn_load rfl rfl (run_loadVar1 T3 (a32228.2 0 _ rfl))) ?_
            refine ev0 (rn_field rfl rfl FO24_1) ?_
            refine ev (rn_load rfl rfl (run_loadVar1 T22 (a32228.2 1 _ rfl))) ?_
            refine ev0 (rn_len rfl rfl Tryd.underlying27 r32254) ?_
            obtain ⟨⟨x32297, x32298⟩, q32299, h⟩ := bind_some h
            refine ev_call rfl rfl C23 (((clique_Count_ok n) _ _ tb x32218.N x32218.E v32219 r32220 (IntKind.i64.wrap ((x32248.length : Int) + 1)) hp.imm _ q32299).mono ?_)
            rintro _ w32300 ⟨rfl, hc⟩
            have hs := hp.stp hc
            replace hp := hp.ext hc
            replace tb := tb.step hs
            obtain ⟨y32302, q32303, h⟩ := bind_some h
            refine W.cut (γ := Bool) (fun g => [(4, (.bool (g)))]) (fun g w' => y32302 = (g) ∧ w32300 = w') ?_ ?_
            ·
              apply go
              refine sel_of (fun hc => ?_) (fun hc => ?_)
              ·
                have q32303 := cond_t q32303 hc
                refine sel_of (fun hc => ?_) (fun hc => ?_)
                ·
                  have q32303 := cond_t q32303 hc
                  refine sel_of (fun hc => ?_) (fun hc => ?_)
                  ·
                    have q32303 := cond_t q32303 hc
                    obtain rfl := Option.some.inj q32303
                    exact ⟨(x32297 == 0), (.c rfl .n), rfl, rfl⟩
                  ·
                    have q32303 := cond_f q32303 hc
                    obtain rfl := Option.some.inj q32303
                    exact ⟨false, (.c rfl .n), rfl, rfl⟩
                ·
                  have q32303 := cond_f q32303 hc
                  obtain rfl := Option.some.inj q32303
                  exact ⟨false, (.c rfl .n), rfl, rfl⟩
              ·
                have q32303 := cond_f q32303 hc
                obtain rfl := Option.some.inj q32303
                exact ⟨false, (.c rfl .n), rfl, rfl⟩
            ·
              rintro x32301 _ ⟨hy, rfl⟩
              replace hy := hy.symm
              subst hy
              apply go
              obtain rfl := Option.some.inj h
              exact ⟨rfl, hp.ch⟩

end Go.Proofs.YtminclnaelbolaaDoor
