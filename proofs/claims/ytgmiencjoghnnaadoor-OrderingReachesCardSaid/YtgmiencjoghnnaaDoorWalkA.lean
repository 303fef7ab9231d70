/-
  Each function of the program computes the plain function of its name.
-/
import Derived.Test.YtgmiencjoghnnaaDoorFactsA
import Derived.Test.YtgmiencjoghnnaaDoorCoreA
namespace Go.Proofs.YtgmiencjoghnnaaDoor
open Go Go.Proofs.YtgmiencjoghnnaaDoor.Gw Go.RowKit
set_option linter.unusedVariables false
attribute [local irreducible] Ev EvQ EvS EvH
def ordering_Valid_S (f : Int → (List Pair) → Option Bool) : Prop := ∀ (w0 : World) (I0 : Nat → Prop) (x1 : Int) (x2 : (List Pair)) (v3 : Value) (r4 : RepS dPair w0 I0 v3 x2) (hI : ∀ g, I0 g → g < w0.heap.size) (r : Bool), f x1 x2 = some r →
    Ret Tryd.prog 34 #[(.int .i64 x1), v3] w0 fun v w1 => v = (.bool r) ∧ Ch [] w0 w1
theorem ordering_Valid_ok (n : Nat) : ordering_Valid_S (ordering_Valid n) := by
  intro w0 I0 x1 x2 v3 r4 hI r h
  unfold ordering_Valid at h
  refine enter Tryd.func34 rfl (Nat.le_of_ble_eq_true rfl) ?_
  have hp : Hp ⟨w0, I0, []⟩ I0 [] w0 := Hp.start hI
  apply go
  apply go
  apply go
  obtain ⟨y6, q7, h⟩ := bind_some h
  refine W.cut (γ := Bool) (fun g => [(0, (.int .i64 x1)), (1, v3), (12, (.bool (g)))]) (fun g w' => y6 = (g) ∧ w0 = w') ?_ ?_
  ·
    apply go
    refine sel_of (fun hc => ?_) (fun hc => ?_)
    ·
      have q7 := cond_t q7 hc
      obtain rfl := Option.some.inj q7
      exact ⟨true, (.c rfl (.c rfl (.c rfl .n))), rfl, rfl⟩
    ·
      have q7 := cond_f q7 hc
      obtain rfl := Option.some.inj q7
      exact ⟨(decide (x1 > 64)), (.c rfl (.c rfl (.c rfl .n))), rfl, rfl⟩
  ·
    rintro x5 _ ⟨hy, rfl⟩
    replace hy := hy.symm
    subst hy
    apply go
    refine sel_of (fun hc => ?_) (fun hc => ?_)
    ·
      have h := cond_t h hc
      apply go
      apply go
      apply go
      obtain rfl := Option.some.inj h
      exact ⟨rfl, hp.ch⟩
    ·
      have h := cond_f h hc
      apply go
      obtain ⟨y198, q199, h⟩ := bind_some h
      refine W.cut (γ := Unit) (fun _ => []) (fun _ w' => y198 = .go () ∧ Hp ⟨w0, I0, []⟩ I0 [] w') ?_ ?_
      ·
        apply go
        apply go
        refine ev0 (rn_len rfl rfl Tryd.underlying22 r4) ?_
        apply go
        refine W.loop q199 (γ := Unit) (fun s _ => [(0, (.int .i64 x1)), (1, v3), (13, v3), (14, (.int .i64 (x2.length : Int))), (15, (.int .i64 (s)))]) (fun s _ w' => Hp ⟨w0, I0, []⟩ I0 [] w' ∧ RepS dPair w' I0 v3 x2) () (.c rfl (.c rfl (.c rfl (.c rfl (.c rfl .n))))) ⟨hp, r4⟩ ?_
        rintro x260 ⟨⟩ w322 y323 ⟨hp, r4⟩ q324 q325
        unfold ordering_Valid_L1 at q324
        apply go
        apply go
        apply go
        apply go
        refine sel_of (fun hc => ?_) (fun hc => ?_)
        ·
          have q324 := cond_t q324 hc
          apply go
          apply go
          apply go
          apply go
          apply go
          obtain ⟨x326, q327, q324⟩ := bind_some q324
          refine ev_index rfl rfl rfl Tryd.underlying22 T47 r4 q327 ?_
          intro p328 c329 d330 a331
          obtain rfl := dPair_o d330
          refine ev (rn_load rfl rfl (run_loadVarA T47 rfl a331)) ?_
          refine ev_alloc hp rfl T47 ?_
          intro g332 w333 hp hs
          replace r4 := r4.step hs
          refine ev_storeA hp (i := 0) (off := 0) (vs := [(.int .i64 x326.A), (.int .i64 x326.B)]) rfl rfl rfl rfl T47 rfl (Nat.le_of_ble_eq_true rfl) (ones_of rfl) ?_
          intro w334 hp hs
          replace r4 := r4.step hs
          apply go
          obtain ⟨y336, q337, q324⟩ := bind_some q324
          refine W.cut (γ := Bool) (fun g => [(0, (.int .i64 x1)), (1, v3), (5, (.int .i64 x260)), (6, (.pointer (some ⟨g332, 0, none⟩))), (13, v3), (14, (.int .i64 (x2.length : Int))), (15, (.int .i64 x260)), (35, (.bool (g)))]) (fun g w' => y336 = (g) ∧ w334 = w') ?_ ?_
          ·
            apply go
            refine ev0 (rn_field rfl rfl FO47_0) ?_
            refine ev (rn_load rfl rfl (run_loadVar1 T3 (hp.cell (i := 0) (off := 0) rfl rfl))) ?_
            refine sel_of (fun hc => ?_) (fun hc => ?_)
            ·
              have q337 := cond_t q337 hc
              obtain rfl := Option.some.inj q337
              exact ⟨true, (.c rfl (.c rfl (.c rfl (.c rfl (.c rfl (.c rfl (.c rfl (.c rfl .n)))))))), rfl, rfl⟩
            ·
              have q337 := cond_f q337 hc
              refine ev0 (rn_field rfl rfl FO47_0) ?_
              refine ev (rn_load rfl rfl (run_loadVar1 T3 (hp.cell (i := 0) (off := 0) rfl rfl))) ?_
              refine ev0 (rn_field rfl rfl FO47_1) ?_
              refine ev (rn_load rfl rfl (run_loadVar1 T3 (hp.cell (i := 0) (off := 1) rfl rfl))) ?_
              refine sel_of (fun hc => ?_) (fun hc => ?_)
              ·
                have q337 := cond_t q337 hc
                obtain rfl := Option.some.inj q337
                exact ⟨true, (.c rfl (.c rfl (.c rfl (.c rfl (.c rfl (.c rfl (.c rfl (.c rfl .n)))))))), rfl, rfl⟩
              ·
                have q337 := cond_f q337 hc
                refine ev0 (rn_field rfl rfl FO47_1) ?_
                refine ev (rn_load rfl rfl (run_loadVar1 T3 (hp.cell (i := 0) (off := 1) rfl rfl))) ?_
                obtain rfl := Option.some.inj q337
                exact ⟨(decide (x326.B ≥ x1)), (.c rfl (.c rfl (.c rfl (.c rfl (.c rfl (.c rfl (.c rfl (.c rfl .n)))))))), rfl, rfl⟩
          ·
            rintro x335 _ ⟨hy, rfl⟩
            replace hy := hy.symm
            subst hy
            apply go
            refine sel_of (fun hc => ?_) (fun hc => ?_)
            ·
              have q324 := cond_t q324 hc
              apply go
              apply go
              apply go
              have q338 := congrArg some (q325 _ (Option.some.inj q324).symm)
              obtain rfl := Option.some.inj q338
              obtain rfl := Option.some.inj h
              exact ⟨rfl, hp.ch⟩
            ·
              have q324 := cond_f q324 hc
              apply go
              obtain ⟨y363, q364, q324⟩ := bind_some q324
              refine W.cut (γ := Bool) (fun g => [(0, (.int .i64 x1)), (1, v3), (13, v3), (14, (.int .i64 (x2.length : Int))), (15, (.int .i64 x260)), (70, (.bool (g)))]) (fun g w' => y363 = (g) ∧ Hp ⟨w0, I0, []⟩ I0 [] w' ∧ RepS dPair w' I0 v3 x2) ?_ ?_
              ·
                refine W.quiet (fun w' => Ch [] w334 w') MX (by kernel_rfl) (Ch.drew [] w334) ?_
                refine sel_of (fun hc => ?_) (fun hc => ?_)
                ·
                  have q364 := cond_t q364 hc
                  obtain ⟨x365, q366, q364⟩ := bind_some q364
                  refine evq_index rfl rfl rfl Tryd.underlying22 T47 r4 q366 ?_
                  intro p367 c368 d369 a370
                  obtain rfl := dPair_o d369
                  refine evq0 (rn_field rfl rfl FO47_0) ?_
                  refine evq (fun w' hw => rn_load rfl rfl (run_loadVar1 T3 ((a370.step (hp.stp hw)).2 0 _ rfl))) ?_
                  refine evq0 (rn_field rfl rfl FO47_0) ?_
                  refine evq (fun w' hw => rn_load rfl rfl (run_loadVar1 T3 ((hp.ext hw).cell (i := 0) (off := 0) rfl rfl))) ?_
                  refine sel_of (fun hc => ?_) (fun hc => ?_)
                  ·
                    have q364 := cond_t q364 hc
                    intro w371 hc
                    have hs := hp.stp hc
                    replace hp := hp.ext hc
                    replace r4 := r4.step hs
                    replace a370 := a370.step hs
                    obtain rfl := Option.some.inj q364
                    have hp := hp.sel [] (by decide)
                    exact ⟨true, (.c rfl (.c rfl (.c rfl (.c rfl (.c rfl (.c rfl .n)))))), rfl, hp, r4⟩
                  ·
                    have q364 := cond_f q364 hc
                    obtain ⟨x372, q373, q364⟩ := bind_some q364
                    refine evq_index rfl rfl rfl Tryd.underlying22 T47 r4 q373 ?_
                    intro p374 c375 d376 a377
                    obtain rfl := dPair_o d376
                    refine evq0 (rn_field rfl rfl FO47_0) ?_
                    refine evq (fun w' hw => rn_load rfl rfl (run_loadVar1 T3 ((a377.step (hp.stp hw)).2 0 _ rfl))) ?_
                    refine evq0 (rn_field rfl rfl FO47_0) ?_
                    refine evq (fun w' hw => rn_load rfl rfl (run_loadVar1 T3 ((hp.ext hw).cell (i := 0) (off := 0) rfl rfl))) ?_
                    refine sel_of (fun hc => ?_) (fun hc => ?_)
                    ·
                      have q364 := cond_t q364 hc
                      obtain ⟨x378, q379, q364⟩ := bind_some q364
                      refine evq_index rfl rfl rfl Tryd.underlying22 T47 r4 q379 ?_
                      intro p380 c381 d382 a383
                      obtain rfl := dPair_o d382
                      refine evq0 (rn_field rfl rfl FO47_1) ?_
                      refine evq (fun w' hw => rn_load rfl rfl (run_loadVar1 T3 ((a383.step (hp.stp hw)).2 1 _ rfl))) ?_
                      refine evq0 (rn_field rfl rfl FO47_1) ?_
                      refine evq (fun w' hw => rn_load rfl rfl (run_loadVar1 T3 ((hp.ext hw).cell (i := 0) (off := 1) rfl rfl))) ?_
                      intro w384 hc
                      have hs := hp.stp hc
                      replace hp := hp.ext hc
                      replace r4 := r4.step hs
                      replace a370 := a370.step hs
                      replace a377 := a377.step hs
                      replace a383 := a383.step hs
                      obtain rfl := Option.some.inj q364
                      have hp := hp.sel [] (by decide)
                      exact ⟨(decide (x378.B ≥ x326.B)), (.c rfl (.c rfl (.c rfl (.c rfl (.c rfl (.c rfl .n)))))), rfl, hp, r4⟩
                    ·
                      have q364 := cond_f q364 hc
                      intro w385 hc
                      have hs := hp.stp hc
                      replace hp := hp.ext hc
                      replace r4 := r4.step hs
                      replace a370 := a370.step hs
                      replace a377 := a377.step hs
                      obtain rfl := Option.some.inj q364
                      have hp := hp.sel [] (by decide)
                      exact ⟨false, (.c rfl (.c rfl (.c rfl (.c rfl (.c rfl (.c rfl .n)))))), rfl, hp, r4⟩
                ·
                  have q364 := cond_f q364 hc
                  intro w386 hc
                  have hs := hp.stp hc
                  replace hp := hp.ext hc
                  replace r4 := r4.step hs
                  obtain rfl := Option.some.inj q364
                  have hp := hp.sel [] (by decide)
                  exact ⟨false, (.c rfl (.c rfl (.c rfl (.c rfl (.c rfl (.c rfl .n)))))), rfl, hp, r4⟩
              ·
                rintro x361 w362 ⟨hy, hp, r4⟩
                replace hy := hy.symm
                subst hy
                apply go
                refine sel_of (fun hc => ?_) (fun hc => ?_)
                ·
                  have q324 := cond_t q324 hc
                  apply go
                  apply go
                  apply go
                  have q387 := congrArg some (q325 _ (Option.some.inj q324).symm)
                  obtain rfl := Option.some.inj q387
                  obtain rfl := Option.some.inj h
                  exact ⟨rfl, hp.ch⟩
                ·
                  have q324 := cond_f q324 hc
                  apply go
                  apply go
                  exact ⟨_, (Option.some.inj q324).symm, (), (.c rfl (.c rfl (.c rfl (.c rfl (.c rfl .n))))), ⟨hp, r4⟩⟩
        ·
          have q324 := cond_f q324 hc
          apply go
          have q388 := congrArg some (q325 _ (Option.some.inj q324).symm)
          obtain rfl := Option.some.inj q388
          exact ⟨(), .n, rfl, hp⟩
      ·
        rintro ⟨⟩ w197 ⟨hy, hp⟩
        replace hy := hy.symm
        subst hy
        apply go
        apply go
        apply go
        obtain rfl := Option.some.inj h
        exact ⟨rfl, hp.ch⟩

end Go.Proofs.YtgmiencjoghnnaaDoor

namespace Go.Proofs.YtgmiencjoghnnaaDoor
open Go Go.Proofs.YtgmiencjoghnnaaDoor.Gw Go.RowKit
set_option linter.unusedVariables false
attribute [local irreducible] Ev EvQ EvS EvH
def ordering_build_S (f : Int → (List Pair) → Option (List Int)) : Prop := ∀ (w0 : World) (I0 : Nat → Prop) (x389 : Int) (x390 : (List Pair)) (v391 : Value) (r392 : RepS dPair w0 I0 v391 x390) (hI : ∀ g, I0 g → g < w0.heap.size) (r : (List Int)), f x389 x390 = some r →
    Ret Tryd.prog 36 #[(.int .i64 x389), v391] w0 fun v w1 => ∃ (I1 : Nat → Prop) (u393 : Value) (u394 : Ent), v = u393 ∧ Hp ⟨w0, I0, []⟩ I1 [u394] w1 ∧ OwnS (dI .u64) 52 w1 I1 u393 u394 r
theorem ordering_build_ok (n : Nat) : ordering_build_S (ordering_build n) := by
  intro w0 I0 x389 x390 v391 r392 hI r h
  unfold ordering_build at h
  refine enter Tryd.func36 rfl (Nat.le_of_ble_eq_true rfl) ?_
  have hp : Hp ⟨w0, I0, []⟩ I0 [] w0 := Hp.start hI
  apply go
  apply go
  apply go
  apply go
  obtain ⟨x395, q396, h⟩ := bind_some h
  refine ev_make (d := (dI .u64)) (x0 := 0) hp rfl rfl rfl Tryd.underlying50 T52 (fun _ _ => rfl) (Nat.le_of_ble_eq_true rfl) q396 ?_
  intro v397 e398 w399 hp hs o400
  replace r392 := r392.step hs
  obtain ⟨y586, q587, h⟩ := bind_some h
  refine W.cut (γ := ((List Int) × Ent)) (fun g => [(5, v397)]) (fun g w' => y586 = (g.1) ∧ Hp ⟨w0, I0, []⟩ I0 [(g.2)] w' ∧ OwnS (dI .u64) 52 w' I0 v397 (g.2) (g.1)) ?_ ?_
  ·
    apply go
    apply go
    refine ev0 (rn_len rfl rfl Tryd.underlying22 r392) ?_
    apply go
    refine W.loop q587 (γ := Ent) (fun s g => [(5, v397), (10, v391), (11, (.int .i64 (x390.length : Int))), (12, (.int .i64 (s.2)))]) (fun s g w' => Hp ⟨w0, I0, []⟩ I0 [(g)] w' ∧ OwnS (dI .u64) 52 w' I0 v397 (g) (s.1) ∧ RepS dPair w' I0 v391 x390) e398 (.c rfl (.c rfl (.c rfl (.c rfl .n)))) ⟨hp, o400, r392⟩ ?_
    rintro ⟨x643, x647⟩ e645 w708 y709 ⟨hp, o646, r392⟩ q710 q711
    unfold ordering_build_L1 at q710
    apply go
    apply go
    apply go
    apply go
    refine sel_of (fun hc => ?_) (fun hc => ?_)
    ·
      have q710 := cond_t q710 hc
      apply go
      apply go
      apply go
      apply go
      apply go
      obtain ⟨x712, q713, q710⟩ := bind_some q710
      refine ev_index rfl rfl rfl Tryd.underlying22 T47 r392 q713 ?_
      intro p714 c715 d716 a717
      obtain rfl := dPair_o d716
      refine ev (rn_load rfl rfl (run_loadVarA T47 rfl a717)) ?_
      refine ev_alloc hp rfl T47 ?_
      intro g718 w719 hp hs
      replace o646 := o646.step hs
      replace r392 := r392.step hs
      refine ev_storeA hp (i := 0) (off := 0) (vs := [(.int .i64 x712.A), (.int .i64 x712.B)]) rfl rfl rfl rfl T47 rfl (Nat.le_of_ble_eq_true rfl) (ones_of rfl) ?_
      intro w720 hp hs
      replace o646 := o646.step hs
      replace r392 := r392.step hs
      apply go
      have hs := hp.stp (Ch.drew [] w720)
      have hp := hp.drew
      replace o646 := o646.step hs
      replace r392 := r392.step hs
      refine W.tail 10 MX (by kernel_rfl) ?_
      refine evs0 (rn_field rfl rfl FO47_0) ?_
      refine evs (rn_load rfl rfl (run_loadVar1 T3 (hp.cell (i := 0) (off := 0) rfl rfl))) ?_
      obtain ⟨x722, q723, q710⟩ := bind_some q710
      refine evs_indexO rfl rfl rfl Tryd.underlying50 T52 o646 q723 ?_
      intro g724 c725 h728 d726 l727
      refine evs (rn_load rfl rfl (run_loadVar1 T52 (hp.cellE (i := 1) rfl h728 d726 (j := 0) rfl))) ?_
      refine evs0 (rn_field rfl rfl FO47_1) ?_
      refine evs (rn_load rfl rfl (run_loadVar1 T3 (hp.cell (i := 0) (off := 1) rfl rfl))) ?_
      obtain ⟨q730, _, q710⟩ := need_some q710
      refine ⟨q730, ?_⟩
      obtain ⟨x731, q732, q710⟩ := bind_some q710
      refine evs_indexO rfl rfl rfl Tryd.underlying50 T52 o646 q732 ?_
      intro g733 c734 h737 d735 l736
      refine ev_storeE hp (i := 1) rfl h737 rfl rfl rfl T52 o646 q732 (x0 := (ib .or .u64 x722 (IntKind.u64.wrap ((1 : Int) * 2 ^ min x712.B.toNat (IntKind.u64).bits)))) rfl ?_
      intro e740 w739 hp hs o741
      replace r392 := r392.step hs
      have hs := hp.stp (Ch.drew [] w739)
      have hp := hp.drew
      replace o741 := o741.step hs
      replace r392 := r392.step hs
      refine W.tail 10 MX (by kernel_rfl) ?_
      refine evs0 (rn_field rfl rfl FO47_1) ?_
      refine evs (rn_load rfl rfl (run_loadVar1 T3 (hp.cell (i := 0) (off := 1) rfl rfl))) ?_
      obtain ⟨x745, q746, q710⟩ := bind_some q710
      refine evs_indexO rfl rfl rfl Tryd.underlying50 T52 o741 q746 ?_
      intro g747 c748 h751 d749 l750
      refine evs (rn_load rfl rfl (run_loadVar1 T52 (hp.cellE (i := 1) rfl h751 d749 (j := 0) rfl))) ?_
      refine evs0 (rn_field rfl rfl FO47_0) ?_
      refine evs (rn_load rfl rfl (run_loadVar1 T3 (hp.cell (i := 0) (off := 0) rfl rfl))) ?_
      obtain ⟨q753, _, q710⟩ := need_some q710
      refine ⟨q753, ?_⟩
      obtain ⟨x754, q755, q710⟩ := bind_some q710
      refine evs_indexO rfl rfl rfl Tryd.underlying50 T52 o741 q755 ?_
      intro g756 c757 h760 d758 l759
      refine ev_storeE hp (i := 1) rfl h760 rfl rfl rfl T52 o741 q755 (x0 := (ib .or .u64 x745 (IntKind.u64.wrap ((1 : Int) * 2 ^ min x712.A.toNat (IntKind.u64).bits)))) rfl ?_
      intro e763 w762 hp hs o764
      replace r392 := r392.step hs
      apply go
      have hp := hp.sel [1] (by decide)
      exact ⟨_, (Option.some.inj q710).symm, e763, (.c rfl (.c rfl (.c rfl (.c rfl .n)))), ⟨hp, o764, r392⟩⟩
    ·
      have q710 := cond_f q710 hc
      apply go
      have q767 := congrArg some (q711 _ (Option.some.inj q710).symm)
      obtain rfl := Option.some.inj q767
      exact ⟨(x643, e645), (.c rfl .n), rfl, hp, o646⟩
  ·
    rintro ⟨x581, e583⟩ w585 ⟨hy, hp, o584⟩
    replace hy := hy.symm
    subst hy
    apply go
    apply go
    apply go
    obtain rfl := Option.some.inj h
    exact ⟨I0, v397, e583, rfl, hp, o584⟩

end Go.Proofs.YtgmiencjoghnnaaDoor

namespace Go.Proofs.YtgmiencjoghnnaaDoor
open Go Go.Proofs.YtgmiencjoghnnaaDoor.Gw Go.RowKit
set_option linter.unusedVariables false
attribute [local irreducible] Ev EvQ EvS EvH
def ordering_all_S (f : Int → Option Int) : Prop := ∀ (w0 : World) (I0 : Nat → Prop) (x768 : Int) (hI : ∀ g, I0 g → g < w0.heap.size) (r : Int), f x768 = some r →
    Ret Tryd.prog 37 #[(.int .i64 x768)] w0 fun v w1 => v = (.int .u64 r) ∧ Ch [] w0 w1
theorem ordering_all_ok (n : Nat) : ordering_all_S (ordering_all n) := by
  intro w0 I0 x768 hI r h
  unfold ordering_all at h
  refine enter Tryd.func37 rfl (Nat.le_of_ble_eq_true rfl) ?_
  have hp : Hp ⟨w0, I0, []⟩ I0 [] w0 := Hp.start hI
  apply go
  apply go
  apply go
  apply go
  apply go
  apply go
  refine sel_of (fun hc => ?_) (fun hc => ?_)
  ·
    have h := cond_t h hc
    apply go
    apply go
    apply go
    obtain rfl := Option.some.inj h
    exact ⟨rfl, hp.ch⟩
  ·
    have h := cond_f h hc
    apply go
    apply go
    apply go
    obtain ⟨q769, _, h⟩ := need_some h
    refine ⟨q769, ?_⟩
    apply go
    obtain rfl := Option.some.inj h
    exact ⟨rfl, hp.ch⟩

end Go.Proofs.YtgmiencjoghnnaaDoor

namespace Go.Proofs.YtgmiencjoghnnaaDoor
open Go Go.Proofs.YtgmiencjoghnnaaDoor.Gw Go.RowKit
set_option linter.unusedVariables false
attribute [local irreducible] Ev EvQ EvS EvH
def bits_TrailingZeros64_S (f : Int → Option Int) : Prop := ∀ (w0 : World) (I0 : Nat → Prop) (tb : At w0 I0 ⟨0, 0, none⟩ (tab64.map (.int .u8))) (x770 : Int) (hI : ∀ g, I0 g → g < w0.heap.size) (r : Int), f x770 = some r →
    Ret Tryd.prog 38 #[(.int .u64 x770)] w0 fun v w1 => v = (.int .i64 r) ∧ Ch [] w0 w1
theorem bits_TrailingZeros64_ok (n : Nat) : bits_TrailingZeros64_S (bits_TrailingZeros64 n) := by
  intro w0 I0 tb x770 hI r h
  unfold bits_TrailingZeros64 at h
  refine enter Tryd.func38 rfl (Nat.le_of_ble_eq_true rfl) ?_
  have hp : Hp ⟨w0, I0, []⟩ I0 [] w0 := Hp.start hI
  apply go
  apply go
  apply go
  apply go
  apply go
  apply go
  refine sel_of (fun hc => ?_) (fun hc => ?_)
  ·
    have h := cond_t h hc
    apply go
    apply go
    apply go
    obtain rfl := Option.some.inj h
    exact ⟨rfl, hp.ch⟩
  ·
    have h := cond_f h hc
    apply go
    apply go
    apply go
    refine ⟨by decide, ?_⟩
    obtain ⟨x771, q772, h⟩ := bind_some h
    refine ev0 (rn_indexG rfl rfl rfl Tryd.underlying67 T5 (idx_some q772).1 (idx_some q772).2.1) ?_
    refine ev (rn_load rfl rfl (run_loadVar1 T5 (tab_cell tb q772))) ?_
    refine ev0 (rn_conv rfl rfl U5 Tryd.underlying3) ?_
    apply go
    obtain rfl := Option.some.inj h
    exact ⟨rfl, hp.ch⟩

end Go.Proofs.YtgmiencjoghnnaaDoor

namespace Go.Proofs.YtgmiencjoghnnaaDoor
open Go Go.Proofs.YtgmiencjoghnnaaDoor.Gw Go.RowKit
set_option linter.unusedVariables false
attribute [local irreducible] Ev EvQ EvS EvH
def bits_OnesCount64_S (f : Int → Option Int) : Prop := ∀ (w0 : World) (I0 : Nat → Prop) (x773 : Int) (hI : ∀ g, I0 g → g < w0.heap.size) (r : Int), f x773 = some r →
    Ret Tryd.prog 39 #[(.int .u64 x773)] w0 fun v w1 => v = (.int .i64 r) ∧ Ch [] w0 w1
theorem bits_OnesCount64_ok (n : Nat) : bits_OnesCount64_S (bits_OnesCount64 n) := by
  intro w0 I0 x773 hI r h
  unfold bits_OnesCount64 at h
  refine enter Tryd.func39 rfl (Nat.le_of_ble_eq_true rfl) ?_
  have hp : Hp ⟨w0, I0, []⟩ I0 [] w0 := Hp.start hI
  apply go
  apply go
  apply go
  apply go
  refine ⟨by decide, ?_⟩
  apply go
  apply go
  refine ⟨by decide, ?_⟩
  apply go
  apply go
  refine ⟨by decide, ?_⟩
  apply go
  apply go
  refine ⟨by decide, ?_⟩
  apply go
  apply go
  refine ⟨by decide, ?_⟩
  apply go
  apply go
  refine ⟨by decide, ?_⟩
  apply go
  apply go
  refine ev0 (rn_conv rfl rfl U52 Tryd.underlying3) ?_
  apply go
  obtain rfl := Option.some.inj h
  exact ⟨rfl, hp.ch⟩

end Go.Proofs.YtgmiencjoghnnaaDoor

namespace Go.Proofs.YtgmiencjoghnnaaDoor
open Go Go.Proofs.YtgmiencjoghnnaaDoor.Gw Go.RowKit
set_option linter.unusedVariables false
attribute [local irreducible] Ev EvQ EvS EvH
def ordering_graph_eliminate_S (f : (List Int) → Int → Int → Option (List Int)) : Prop := ∀ (w0 : World) (I0 : Nat → Prop) (tb : At w0 I0 ⟨0, 0, none⟩ (tab64.map (.int .u8))) (x774 : (List Int)) (v775 : Value) (e776 : Ent) (o777 : OwnS (dI .u64) 52 w0 I0 v775 e776 x774) (x778 : Int) (x779 : Int) (hp : Hp ⟨w0, I0, (blk e776)⟩ I0 [e776] w0) (r : (List Int)), f x774 x778 x779 = some r →
    Ret Tryd.prog 40 #[v775, (.int .i64 x778), (.int .u64 x779)] w0 fun v w1 => ∃ (I1 : Nat → Prop) (u780 : Ent), v = (.tuple #[]) ∧ Hp ⟨w0, I0, (blk e776)⟩ I1 [u780] w1 ∧ OwnS (dI .u64) 52 w1 I1 v775 u780 r ∧ blk u780 = blk e776
theorem ordering_graph_eliminate_ok (n : Nat) : ordering_graph_eliminate_S (ordering_graph_eliminate n) := by
  intro w0 I0 tb x774 v775 e776 o777 x778 x779 hp r h
  unfold ordering_graph_eliminate at h
  refine enter Tryd.func40 rfl (Nat.le_of_ble_eq_true rfl) ?_
  have o777z := o777
  apply go
  apply go
  obtain ⟨x781, q782, h⟩ := bind_some h
  refine ev_indexO rfl rfl rfl Tryd.underlying50 T52 o777 q782 ?_
  intro g783 c784 h787 d785 l786
  refine ev (rn_load rfl rfl (run_loadVar1 T52 (hp.cellE (i := 0) rfl h787 d785 (j := 0) rfl))) ?_
  apply go
  apply go
  apply go
  refine W.loop h (γ := Ent) (fun s g => [(0, v775), (6, (.int .u64 (ib .and .u64 x781 x779))), (7, (.int .u64 (s.2)))]) (fun s g w' => Hp ⟨w0, I0, (blk e776)⟩ I0 [(g)] w' ∧ OwnS (dI .u64) 52 w' I0 v775 (g) (s.1) ∧ At w' I0 ⟨0, 0, none⟩ (tab64.map (.int .u8))) e776 (.c rfl (.c rfl (.c rfl .n))) ⟨hp, o777, tb⟩ ?_
  rintro ⟨x815, x819⟩ e817 w851 y852 ⟨hp, o818, tb⟩ q853 q854
  unfold ordering_graph_eliminate_L0 at q853
  apply go
  apply go
  apply go
  apply go
  refine sel_of (fun hc => ?_) (fun hc => ?_)
  ·
    have q853 := cond_t q853 hc
    apply go
    apply go
    apply go
    apply go
    apply go
    obtain ⟨x855, q856, q853⟩ := bind_some q853
    refine ev_call rfl rfl C38 (((bits_TrailingZeros64_ok n) _ _ tb x819 hp.imm _ q856).mono ?_)
    rintro _ w857 ⟨rfl, hc⟩
    have hs := hp.stp hc
    replace hp := hp.ext hc
    replace o818 := o818.step hs
    replace tb := tb.step hs
    have hs := hp.stp (Ch.drew [] w857)
    have hp := hp.drew
    replace o818 := o818.step hs
    replace tb := tb.step hs
    refine W.tail 10 MX (by kernel_rfl) ?_
    obtain ⟨x859, q860, q853⟩ := bind_some q853
    refine evs_indexO rfl rfl rfl Tryd.underlying50 T52 o818 q860 ?_
    intro g861 c862 h865 d863 l864
    refine evs (rn_load rfl rfl (run_loadVar1 T52 (hp.cellE (i := 0) rfl h865 d863 (j := 0) rfl))) ?_
    obtain ⟨q867, _, q853⟩ := need_some q853
    refine ⟨q867, ?_⟩
    obtain ⟨x868, q869, q853⟩ := bind_some q853
    refine evs_indexO rfl rfl rfl Tryd.underlying50 T52 o818 q869 ?_
    intro g870 c871 h874 d872 l873
    refine ev_storeE hp (i := 0) rfl h874 rfl rfl rfl T52 o818 q869 (x0 := (ib .or .u64 x859 (ib .andNot .u64 (ib .and .u64 x781 x779) (IntKind.u64.wrap ((1 : Int) * 2 ^ min x855.toNat (IntKind.u64).bits))))) rfl ?_
    intro e877 w876 hp hs o878
    replace tb := tb.step hs
    apply go
    exact ⟨_, (Option.some.inj q853).symm, e877, (.c rfl (.c rfl (.c rfl .n))), ⟨hp, o878, tb⟩⟩
  ·
    have q853 := cond_f q853 hc
    apply go
    have q881 := congrArg some (q854 _ (Option.some.inj q853).symm)
    obtain rfl := Option.some.inj q881
    exact ⟨I0, e817, rfl, hp, o818, (OwnS.blk o777z o818)⟩

end Go.Proofs.YtgmiencjoghnnaaDoor

namespace Go.Proofs.YtgmiencjoghnnaaDoor
open Go Go.Proofs.YtgmiencjoghnnaaDoor.Gw Go.RowKit
set_option linter.unusedVariables false
attribute [local irreducible] Ev EvQ EvS EvH
def ordering_MinDegree_S (f : Int → (List Pair) → Option ((List Int) × Int)) : Prop := ∀ (w0 : World) (I0 : Nat → Prop) (tb : At w0 I0 ⟨0, 0, none⟩ (tab64.map (.int .u8))) (x882 : Int) (x883 : (List Pair)) (v884 : Value) (r885 : RepS dPair w0 I0 v884 x883) (hI : ∀ g, I0 g → g < w0.heap.size) (r : ((List Int) × Int)), f x882 x883 = some r →
    Ret Tryd.prog 14 #[(.int .i64 x882), v884] w0 fun v w1 => ∃ (I1 : Nat → Prop) (u886 : Value), v = (.tuple #[u886, (.int .i64 r.2)]) ∧ Hp ⟨w0, I0, []⟩ I1 [] w1 ∧ RepS (dI .i64) w1 I1 u886 r.1
theorem ordering_MinDegree_ok (n : Nat) : ordering_MinDegree_S (ordering_MinDegree n) := by
  intro w0 I0 tb x882 x883 v884 r885 hI r h
  unfold ordering_MinDegree at h
  refine enter Tryd.func14 rfl (Nat.le_of_ble_eq_true rfl) ?_
  have hp : Hp ⟨w0, I0, []⟩ I0 [] w0 := Hp.start hI
  apply go
  apply go
  apply go
  apply go
  apply go
  obtain ⟨x887, q888, h⟩ := bind_some h
  refine ev_call rfl rfl C34 (((ordering_Valid_ok n) _ _  x882 x883 v884 r885 hp.imm _ q888).mono ?_)
  rintro _ w889 ⟨rfl, hc⟩
  have hs := hp.stp hc
  replace hp := hp.ext hc
  replace r885 := r885.step hs
  replace tb := tb.step hs
  apply go
  refine sel_of (fun hc => ?_) (fun hc => ?_)
  ·
    have h := cond_t h hc
    apply go
    apply go
    apply go
    obtain rfl := Option.some.inj h
    exact ⟨I0, .slice none 0 0, rfl, hp, RepS.nil _ _ _⟩
  ·
    have h := cond_f h hc
    apply go
    apply go
    apply go
    obtain ⟨x890, q891, h⟩ := bind_some h
    refine ev_call rfl rfl C36 (((ordering_build_ok n) _ _  x882 x883 v884 r885 hp.imm _ q891).mono ?_)
    rintro _ w892 ⟨I893, v894, e895, hv, hq, o896⟩
    replace hv := hv.symm
    subst hv
    have hs := hq.st
    have hp := hp.join0 hq
    replace tb := tb.step hs
    obtain ⟨x897, q898, h⟩ := bind_some h
    refine ev_call rfl rfl C37 (((ordering_all_ok n) _ _  x882 hp.imm _ q898).mono ?_)
    rintro _ w899 ⟨rfl, hc⟩
    have hs := hp.stp hc
    replace hp := hp.ext hc
    replace o896 := o896.step hs
    replace tb := tb.step hs
    apply go
    apply go
    obtain ⟨y1764, q1765, h⟩ := bind_some h
    refine W.cut (γ := ((List Int) × Value × Ent × (Nat → Prop))) (fun g => [(8, (g.2.1))]) (fun g w' => y1764 = (g.1) ∧ Hp ⟨w0, I0, []⟩ (g.2.2.2) [(g.2.2.1)] w' ∧ OwnS (dI .i64) 3 w' (g.2.2.2) (g.2.1) (g.2.2.1) (g.1) ∧ At w' (g.2.2.2) ⟨0, 0, none⟩ (tab64.map (.int .u8))) ?_ ?_
    ·
      apply go
      have hp := hp.none_
      have o2342 := OwnS.nil (dI .i64) 3 w899 I893
      have hp := hp.perm [1, 0] (by decide)
      refine W.loop q1765 (γ := (Ent × Value × Ent × (Nat → Prop))) (fun s g => [(0, (.int .i64 x882)), (6, v894), (7, (.int .u64 (s.2.1))), (8, (g.2.1))]) (fun s g w' => Hp ⟨w0, I0, []⟩ (g.2.2.2) [(g.1), (g.2.2.1)] w' ∧ OwnS (dI .u64) 52 w' (g.2.2.2) v894 (g.1) (s.1) ∧ OwnS (dI .i64) 3 w' (g.2.2.2) (g.2.1) (g.2.2.1) (s.2.2) ∧ At w' (g.2.2.2) ⟨0, 0, none⟩ (tab64.map (.int .u8))) (e895, (.slice none 0 0), none, I893) (.c rfl (.c rfl (.c rfl (.c rfl .n)))) ⟨hp, o896, o2342, tb⟩ ?_
      rintro ⟨x2044, x2048, x2049⟩ ⟨e2046, v2050, e2051, I2053⟩ w2341 y2343 ⟨hp, o2047, o2052, tb⟩ q2344 q2345
      unfold ordering_MinDegree_L11 at q2344
      apply go
      apply go
      apply go
      refine ev0 (x_lenO rfl rfl Tryd.underlying27 o2052) ?_
      apply go
      refine sel_of (fun hc => ?_) (fun hc => ?_)
      ·
        have q2344 := cond_t q2344 hc
        apply go
        apply go
        apply go
        apply go
        obtain ⟨y2476, q2477, q2344⟩ := bind_some q2344
        refine W.cut (γ := Int) (fun g => [(0, (.int .i64 x882)), (6, v894), (7, (.int .u64 x2048)), (8, v2050), (9, (.int .i64 (g)))]) (fun g w' => y2476 = (g) ∧ Hp ⟨w0, I0, []⟩ I2053 [e2046, e2051] w' ∧ OwnS (dI .u64) 52 w' I2053 v894 e2046 x2044 ∧ OwnS (dI .i64) 3 w' I2053 v2050 e2051 x2049 ∧ At w' I2053 ⟨0, 0, none⟩ (tab64.map (.int .u8))) ?_ ?_
        ·
          apply go
          apply go
          apply go
          refine W.loop q2477 (γ := Unit) (fun s _ => [(0, (.int .i64 x882)), (6, v894), (7, (.int .u64 x2048)), (8, v2050), (9, (.int .i64 (s.1))), (10, (.int .i64 (s.2.1))), (11, (.int .u64 (s.2.2)))]) (fun s _ w' => Hp ⟨w0, I0, []⟩ I2053 [e2046, e2051] w' ∧ OwnS (dI .u64) 52 w' I2053 v894 e2046 x2044 ∧ OwnS (dI .i64) 3 w' I2053 v2050 e2051 x2049 ∧ At w' I2053 ⟨0, 0, none⟩ (tab64.map (.int .u8))) () (.c rfl (.c rfl (.c rfl (.c rfl (.c rfl (.c rfl (.c rfl .n))))))) ⟨hp, o2047, o2052, tb⟩ ?_
          rintro ⟨x2517, x2518, x2519⟩ ⟨⟩ w2562 y2563 ⟨hp, o2047, o2052, tb⟩ q2564 q2565
          unfold ordering_MinDegree_L13 at q2564
          apply go
          apply go
          apply go
          apply go
          refine sel_of (fun hc => ?_) (fun hc => ?_)
          ·
            have q2564 := cond_t q2564 hc
            apply go
            obtain ⟨y2586, q2587, q2564⟩ := bind_some q2564
            refine W.cut (γ := (Int × Int)) (fun g => [(0, (.int .i64 x882)), (6, v894), (7, (.int .u64 x2048)), (8, v2050), (9, (.int .i64 (g.1))), (10, (.int .i64 (g.2))), (11, (.int .u64 x2519))]) (fun g w' => y2586 = ((g.1), (g.2)) ∧ Hp ⟨w0, I0, []⟩ I2053 [e2046, e2051] w' ∧ OwnS (dI .u64) 52 w' I2053 v894 e2046 x2044 ∧ OwnS (dI .i64) 3 w' I2053 v2050 e2051 x2049 ∧ At w' I2053 ⟨0, 0, none⟩ (tab64.map (.int .u8))) ?_ ?_
            ·
              apply go
              apply go
              apply go
              obtain ⟨x2588, q2589, q2587⟩ := bind_some q2587
              refine ev_call rfl rfl C38 (((bits_TrailingZeros64_ok n) _ _ tb x2519 hp.imm _ q2589).mono ?_)
              rintro _ w2590 ⟨rfl, hc⟩
              have hs := hp.stp hc
              replace hp := hp.ext hc
              replace o2047 := o2047.step hs
              replace o2052 := o2052.step hs
              replace tb := tb.step hs
              apply go
              apply go
              obtain ⟨x2591, q2592, q2587⟩ := bind_some q2587
              refine ev_indexO rfl rfl rfl Tryd.underlying50 T52 o2047 q2592 ?_
              intro g2593 c2594 h2597 d2595 l2596
              refine ev (rn_load rfl rfl (run_loadVar1 T52 (hp.cellE (i := 0) rfl h2597 d2595 (j := 0) rfl))) ?_
              obtain ⟨x2599, q2600, q2587⟩ := bind_some q2587
              refine ev_call rfl rfl C39 (((bits_OnesCount64_ok n) _ _  (ib .and .u64 x2591 x2048) hp.imm _ q2600).mono ?_)
              rintro _ w2601 ⟨rfl, hc⟩
              have hs := hp.stp hc
              replace hp := hp.ext hc
              replace o2047 := o2047.step hs
              replace o2052 := o2052.step hs
              replace tb := tb.step hs
              obtain ⟨y2603, q2604, q2587⟩ := bind_some q2587
              refine W.cut (γ := Bool) (fun g => [(0, (.int .i64 x882)), (6, v894), (7, (.int .u64 x2048)), (8, v2050), (9, (.int .i64 x2517)), (10, (.int .i64 x2518)), (11, (.int .u64 x2519)), (12, (.int .i64 x2588)), (13, (.int .i64 x2599)), (49, (.bool (g)))]) (fun g w' => y2603 = (g) ∧ w2601 = w') ?_ ?_
              ·
                apply go
                refine sel_of (fun hc => ?_) (fun hc => ?_)
                ·
                  have q2604 := cond_t q2604 hc
                  obtain rfl := Option.some.inj q2604
                  exact ⟨true, (.c rfl (.c rfl (.c rfl (.c rfl (.c rfl (.c rfl (.c rfl (.c rfl (.c rfl (.c rfl .n)))))))))), rfl, rfl⟩
                ·
                  have q2604 := cond_f q2604 hc
                  obtain rfl := Option.some.inj q2604
                  exact ⟨(decide (x2599 < x2518)), (.c rfl (.c rfl (.c rfl (.c rfl (.c rfl (.c rfl (.c rfl (.c rfl (.c rfl (.c rfl .n)))))))))), rfl, rfl⟩
              ·
                rintro x2602 _ ⟨hy, rfl⟩
                replace hy := hy.symm
                subst hy
                apply go
                refine sel_of (fun hc => ?_) (fun hc => ?_)
                ·
                  have q2587 := cond_t q2587 hc
                  apply go
                  obtain rfl := Option.some.inj q2587
                  exact ⟨(x2588, x2599), (.c rfl (.c rfl (.c rfl (.c rfl (.c rfl (.c rfl (.c rfl .n))))))), rfl, hp, o2047, o2052, tb⟩
                ·
                  have q2587 := cond_f q2587 hc
                  apply go
                  obtain rfl := Option.some.inj q2587
                  exact ⟨(x2517, x2518), (.c rfl (.c rfl (.c rfl (.c rfl (.c rfl (.c rfl (.c rfl .n))))))), rfl, hp, o2047, o2052, tb⟩
            ·
              rintro ⟨x2583, x2584⟩ w2585 ⟨hy, hp, o2047, o2052, tb⟩
              replace hy := hy.symm
              subst hy
              apply go
              exact ⟨_, (Option.some.inj q2564).symm, (), (.c rfl (.c rfl (.c rfl (.c rfl (.c rfl (.c rfl (.c rfl .n))))))), ⟨hp, o2047, o2052, tb⟩⟩
          ·
            have q2564 := cond_f q2564 hc
            apply go
            have q2605 := congrArg some (q2565 _ (Option.some.inj q2564).symm)
            obtain rfl := Option.some.inj q2605
            exact ⟨x2517, (.c rfl (.c rfl (.c rfl (.c rfl (.c rfl .n))))), rfl, hp, o2047, o2052, tb⟩
        ·
          rintro x2474 w2475 ⟨hy, hp, o2047, o2052, tb⟩
          replace hy := hy.symm
          subst hy
          apply go
          apply go
          obtain ⟨q2606, _, q2344⟩ := need_some q2344
          refine ⟨q2606, ?_⟩
          apply go
          apply go
          obtain ⟨x2607, q2608, q2344⟩ := bind_some q2344
          refine ev_call rfl rfl C40 (((ordering_graph_eliminate_ok n) _ _ tb x2044 v894 e2046 o2047 x2474 (ib .andNot .u64 x2048 (IntKind.u64.wrap ((1 : Int) * 2 ^ min x2474.toNat (IntKind.u64).bits))) (hp.lend (i := 0) rfl) _ q2608).mono ?_)
          rintro _ w2609 ⟨I2610, e2611, hv, hq, o2612, hsame⟩
          replace hv := hv.symm
          subst hv
          have hs := hq.st
          have hp := hp.backO (i := 0) rfl hq hsame
          replace o2052 := o2052.step hs
          replace tb := tb.step hs
          apply go
          refine ev_litN (d := (dI .i64)) (xs := [x2474]) (cs := [(.int .i64 x2474)]) hp rfl rfl Tryd.underlying27 T3 (by decide) rfl rfl (Elems.cons (d := (dI .i64)) (xs := _) rfl (Elems.nil _ _ _ _)) ?_
          intro v2613 I2615 w2614 hp hs r2616
          replace o2612 := o2612.step hs
          replace o2052 := o2052.step hs
          replace tb := tb.step hs
          obtain ⟨x2617, q2618, q2344⟩ := bind_some q2344
          refine ev_append hp (i := 1) rfl rfl rfl rfl Tryd.underlying27 T3 rfl rfl o2052 r2616 q2618 ?_
          rintro v2619 e2620 w2621 hp hs o2622
          replace o2612 := o2612.step hs
          replace tb := tb.step hs
          exact ⟨_, (Option.some.inj q2344).symm, (e2611, v2619, e2620, I2615), (.c rfl (.c rfl (.c rfl (.c rfl .n)))), ⟨hp, o2612, o2622, tb⟩⟩
      ·
        have q2344 := cond_f q2344 hc
        apply go
        have q2623 := congrArg some (q2345 _ (Option.some.inj q2344).symm)
        obtain rfl := Option.some.inj q2623
        have hp := hp.sel [1] (by decide)
        exact ⟨(x2049, v2050, e2051, I2053), (.c rfl .n), rfl, hp, o2052, tb⟩
    ·
      rintro ⟨x1758, v1759, e1760, I1762⟩ w1763 ⟨hy, hp, o1761, tb⟩
      replace hy := hy.symm
      subst hy
      apply go
      apply go
      apply go
      obtain rfl := Option.some.inj h
      have r2624 := o1761.frz hp (i := 0) rfl
      obtain ⟨hp, hs⟩ := freeze_hp hp (i := 0) rfl
      replace tb := tb.step hs
      have hp := hp.sel [] (by decide)
      exact ⟨(Ad I1762 e1760), v1759, rfl, hp, r2624⟩

end Go.Proofs.YtgmiencjoghnnaaDoor

namespace Go.Proofs.YtgmiencjoghnnaaDoor
open Go Go.Proofs.YtgmiencjoghnnaaDoor.Gw Go.RowKit
set_option linter.unusedVariables false
attribute [local irreducible] Ev EvQ EvS EvH
def base_Ints_S (f : (List Int) → (List Int) → Option Bool) : Prop := ∀ (w0 : World) (I0 : Nat → Prop) (x5512 : (List Int)) (v5513 : Value) (r5514 : RepS (dI .i64) w0 I0 v5513 x5512) (x5515 : (List Int)) (v5516 : Value) (r5517 : RepS (dI .i64) w0 I0 v5516 x5515) (hI : ∀ g, I0 g → g < w0.heap.size) (r : Bool), f x5512 x5515 = some r →
    Ret Tryd.prog 16 #[v5513, v5516] w0 fun v w1 => v = (.bool r) ∧ Ch [] w0 w1
theorem base_Ints_ok (n : Nat) : base_Ints_S (base_Ints n) := by
  intro w0 I0 x5512 v5513 r5514 x5515 v5516 r5517 hI r h
  unfold base_Ints at h
  refine enter Tryd.func16 rfl (Nat.le_of_ble_eq_true rfl) ?_
  have hp : Hp ⟨w0, I0, []⟩ I0 [] w0 := Hp.start hI
  apply go
  apply go
  apply go
  apply go
  apply go
  refine ev0 (rn_len rfl rfl Tryd.underlying27 r5514) ?_
  refine ev0 (rn_len rfl rfl Tryd.underlying27 r5517) ?_
  apply go
  refine sel_of (fun hc => ?_) (fun hc => ?_)
  ·
    have h := cond_t h hc
    apply go
    apply go
    apply go
    obtain rfl := Option.some.inj h
    exact ⟨rfl, hp.ch⟩
  ·
    have h := cond_f h hc
    apply go
    obtain ⟨y5566, q5567, h⟩ := bind_some h
    refine W.cut (γ := Unit) (fun _ => []) (fun _ w' => y5566 = .go () ∧ Hp ⟨w0, I0, []⟩ I0 [] w') ?_ ?_
    ·
      apply go
      apply go
      apply go
      refine W.loop q5567 (γ := Unit) (fun s _ => [(0, v5513), (1, v5516), (5, (.int .i64 (s)))]) (fun s _ w' => Hp ⟨w0, I0, []⟩ I0 [] w' ∧ RepS (dI .i64) w' I0 v5513 x5512 ∧ RepS (dI .i64) w' I0 v5516 x5515) () (.c rfl (.c rfl (.c rfl .n))) ⟨hp, r5514, r5517⟩ ?_
      rintro x5581 ⟨⟩ w5596 y5597 ⟨hp, r5514, r5517⟩ q5598 q5599
      unfold base_Ints_L1 at q5598
      apply go
      apply go
      apply go
      refine ev0 (rn_len rfl rfl Tryd.underlying27 r5514) ?_
      apply go
      refine sel_of (fun hc => ?_) (fun hc => ?_)
      ·
        have q5598 := cond_t q5598 hc
        apply go
        apply go
        apply go
        apply go
        refine W.quiet (fun w' => Ch [] w5596 w') MX (by kernel_rfl) (Ch.drew [] w5596) ?_
        obtain ⟨x5600, q5601, q5598⟩ := bind_some q5598
        refine evq_index rfl rfl rfl Tryd.underlying27 T3 r5514 q5601 ?_
        intro p5602 c5603 d5604 a5605
        obtain rfl : c5603 = [(.int .i64 x5600)] := d5604
        refine evq (fun w' hw => rn_load rfl rfl (run_loadVar1 T3 ((a5605.step (hp.stp hw)).2 0 _ rfl))) ?_
        obtain ⟨x5606, q5607, q5598⟩ := bind_some q5598
        refine evq_index rfl rfl rfl Tryd.underlying27 T3 r5517 q5607 ?_
        intro p5608 c5609 d5610 a5611
        obtain rfl : c5609 = [(.int .i64 x5606)] := d5610
        refine evq (fun w' hw => rn_load rfl rfl (run_loadVar1 T3 ((a5611.step (hp.stp hw)).2 0 _ rfl))) ?_
        intro w5612 hc
        have hs := hp.stp hc
        replace hp := hp.ext hc
        replace r5514 := r5514.step hs
        replace r5517 := r5517.step hs
        apply go
        refine sel_of (fun hc => ?_) (fun hc => ?_)
        ·
          have q5598 := cond_t q5598 hc
          apply go
          apply go
          apply go
          have q5613 := congrArg some (q5599 _ (Option.some.inj q5598).symm)
          obtain rfl := Option.some.inj q5613
          obtain rfl := Option.some.inj h
          exact ⟨rfl, hp.ch⟩
        ·
          have q5598 := cond_f q5598 hc
          apply go
          apply go
          exact ⟨_, (Option.some.inj q5598).symm, (), (.c rfl (.c rfl (.c rfl .n))), ⟨hp, r5514, r5517⟩⟩
      ·
        have q5598 := cond_f q5598 hc
        apply go
        have q5614 := congrArg some (q5599 _ (Option.some.inj q5598).symm)
        obtain rfl := Option.some.inj q5614
        exact ⟨(), .n, rfl, hp⟩
    ·
      rintro ⟨⟩ w5565 ⟨hy, hp⟩
      replace hy := hy.symm
      subst hy
      apply go
      apply go
      apply go
      obtain rfl := Option.some.inj h
      exact ⟨rfl, hp.ch⟩

end Go.Proofs.YtgmiencjoghnnaaDoor

namespace Go.Proofs.YtgmiencjoghnnaaDoor
open Go Go.Proofs.YtgmiencjoghnnaaDoor.Gw Go.RowKit
set_option linter.unusedVariables false
attribute [local irreducible] Ev EvQ EvS EvH
def ordering_permutation_S (f : Int → (List Int) → Option Bool) : Prop := ∀ (w0 : World) (I0 : Nat → Prop) (x2625 : Int) (x2626 : (List Int)) (v2627 : Value) (r2628 : RepS (dI .i64) w0 I0 v2627 x2626) (hI : ∀ g, I0 g → g < w0.heap.size) (r : Bool), f x2625 x2626 = some r →
    Ret Tryd.prog 47 #[(.int .i64 x2625), v2627] w0 fun v w1 => v = (.bool r) ∧ Ch [] w0 w1
theorem ordering_permutation_ok (n : Nat) : ordering_permutation_S (ordering_permutation n) := by
  intro w0 I0 x2625 x2626 v2627 r2628 hI r h
  unfold ordering_permutation at h
  refine enter Tryd.func47 rfl (Nat.le_of_ble_eq_true rfl) ?_
  have hp : Hp ⟨w0, I0, []⟩ I0 [] w0 := Hp.start hI
  apply go
  apply go
  apply go
  apply go
  apply go
  refine ev0 (rn_len rfl rfl Tryd.underlying27 r2628) ?_
  apply go
  refine sel_of (fun hc => ?_) (fun hc => ?_)
  ·
    have h := cond_t h hc
    apply go
    apply go
    apply go
    obtain rfl := Option.some.inj h
    exact ⟨rfl, hp.ch⟩
  ·
    have h := cond_f h hc
    apply go
    apply go
    apply go
    obtain ⟨y2674, q2675, h⟩ := bind_some h
    refine W.cut (γ := Unit) (fun _ => []) (fun _ w' => y2674 = .go () ∧ w0 = w') ?_ ?_
    ·
      apply go
      apply go
      refine ev0 (rn_len rfl rfl Tryd.underlying27 r2628) ?_
      apply go
      refine W.loop q2675 (γ := Unit) (fun s _ => [(0, (.int .i64 x2625)), (5, (.int .u64 (s.1))), (12, v2627), (13, (.int .i64 (x2626.length : Int))), (14, (.int .i64 (s.2)))]) (fun s _ w' => w0 = w') () (.c rfl (.c rfl (.c rfl (.c rfl (.c rfl .n))))) rfl ?_
      rintro ⟨x2688, x2689⟩ ⟨⟩ _ y2704 rfl q2705 q2706
      unfold ordering_permutation_L1 at q2705
      apply go
      apply go
      apply go
      apply go
      refine sel_of (fun hc => ?_) (fun hc => ?_)
      ·
        have q2705 := cond_t q2705 hc
        apply go
        apply go
        apply go
        apply go
        apply go
        obtain ⟨x2707, q2708, q2705⟩ := bind_some q2705
        refine ev_index rfl rfl rfl Tryd.underlying27 T3 r2628 q2708 ?_
        intro p2709 c2710 d2711 a2712
        obtain rfl : c2710 = [(.int .i64 x2707)] := d2711
        refine ev (rn_load rfl rfl (run_loadVar1 T3 (a2712.2 0 _ rfl))) ?_
        apply go
        obtain ⟨y2715, q2716, q2705⟩ := bind_some q2705
        refine W.cut (γ := Bool) (fun g => [(0, (.int .i64 x2625)), (5, (.int .u64 x2688)), (7, (.int .i64 x2707)), (12, v2627), (13, (.int .i64 (x2626.length : Int))), (14, (.int .i64 x2689)), (31, (.bool (g)))]) (fun g w' => y2715 = (g) ∧ w0 = w') ?_ ?_
        ·
          apply go
          refine sel_of (fun hc => ?_) (fun hc => ?_)
          ·
            have q2716 := cond_t q2716 hc
            obtain rfl := Option.some.inj q2716
            exact ⟨true, (.c rfl (.c rfl (.c rfl (.c rfl (.c rfl (.c rfl (.c rfl .n))))))), rfl, rfl⟩
          ·
            have q2716 := cond_f q2716 hc
            refine sel_of (fun hc => ?_) (fun hc => ?_)
            ·
              have q2716 := cond_t q2716 hc
              obtain rfl := Option.some.inj q2716
              exact ⟨true, (.c rfl (.c rfl (.c rfl (.c rfl (.c rfl (.c rfl (.c rfl .n))))))), rfl, rfl⟩
            ·
              have q2716 := cond_f q2716 hc
              obtain ⟨q2717, _, q2716⟩ := need_some q2716
              refine ⟨q2717, ?_⟩
              obtain rfl := Option.some.inj q2716
              exact ⟨((ib .and .u64 (x2688.fdiv (2 ^ min x2707.toNat (IntKind.u64).bits)) 1) != 0), (.c rfl (.c rfl (.c rfl (.c rfl (.c rfl (.c rfl (.c rfl .n))))))), rfl, rfl⟩
        ·
          rintro x2714 _ ⟨hy, rfl⟩
          replace hy := hy.symm
          subst hy
          apply go
          refine sel_of (fun hc => ?_) (fun hc => ?_)
          ·
            have q2705 := cond_t q2705 hc
            apply go
            apply go
            apply go
            have q2718 := congrArg some (q2706 _ (Option.some.inj q2705).symm)
            obtain rfl := Option.some.inj q2718
            obtain rfl := Option.some.inj h
            exact ⟨rfl, hp.ch⟩
          ·
            have q2705 := cond_f q2705 hc
            apply go
            apply go
            obtain ⟨q2719, _, q2705⟩ := need_some q2705
            refine ⟨q2719, ?_⟩
            apply go
            exact ⟨_, (Option.some.inj q2705).symm, (), (.c rfl (.c rfl (.c rfl (.c rfl (.c rfl .n))))), rfl⟩
      ·
        have q2705 := cond_f q2705 hc
        apply go
        have q2720 := congrArg some (q2706 _ (Option.some.inj q2705).symm)
        obtain rfl := Option.some.inj q2720
        exact ⟨(), .n, rfl, rfl⟩
    ·
      rintro ⟨⟩ _ ⟨hy, rfl⟩
      replace hy := hy.symm
      subst hy
      apply go
      apply go
      apply go
      obtain rfl := Option.some.inj h
      exact ⟨rfl, hp.ch⟩

end Go.Proofs.YtgmiencjoghnnaaDoor

namespace Go.Proofs.YtgmiencjoghnnaaDoor
open Go Go.Proofs.YtgmiencjoghnnaaDoor.Gw Go.RowKit
set_option linter.unusedVariables false
attribute [local irreducible] Ev EvQ EvS EvH
def ordering_filled_S (f : Int → (List Pair) → (List Int) → Option ((List Int) × Int)) : Prop := ∀ (w0 : World) (I0 : Nat → Prop) (tb : At w0 I0 ⟨0, 0, none⟩ (tab64.map (.int .u8))) (x2721 : Int) (x2722 : (List Pair)) (v2723 : Value) (r2724 : RepS dPair w0 I0 v2723 x2722) (x2725 : (List Int)) (v2726 : Value) (r2727 : RepS (dI .i64) w0 I0 v2726 x2725) (hI : ∀ g, I0 g → g < w0.heap.size) (r : ((List Int) × Int)), f x2721 x2722 x2725 = some r →
    Ret Tryd.prog 43 #[(.int .i64 x2721), v2723, v2726] w0 fun v w1 => ∃ (I1 : Nat → Prop) (u2728 : Value) (u2729 : Ent), v = (.tuple #[u2728, (.int .i64 r.2)]) ∧ Hp ⟨w0, I0, []⟩ I1 [u2729] w1 ∧ OwnS (dI .u64) 52 w1 I1 u2728 u2729 r.1
theorem ordering_filled_ok (n : Nat) : ordering_filled_S (ordering_filled n) := by
  intro w0 I0 tb x2721 x2722 v2723 r2724 x2725 v2726 r2727 hI r h
  unfold ordering_filled at h
  refine enter Tryd.func43 rfl (Nat.le_of_ble_eq_true rfl) ?_
  have hp : Hp ⟨w0, I0, []⟩ I0 [] w0 := Hp.start hI
  apply go
  apply go
  apply go
  apply go
  apply go
  obtain ⟨x2730, q2731, h⟩ := bind_some h
  refine ev_call rfl rfl C34 (((ordering_Valid_ok n) _ _  x2721 x2722 v2723 r2724 hp.imm _ q2731).mono ?_)
  rintro _ w2732 ⟨rfl, hc⟩
  have hs := hp.stp hc
  replace hp := hp.ext hc
  replace r2724 := r2724.step hs
  replace r2727 := r2727.step hs
  replace tb := tb.step hs
  apply go
  refine sel_of (fun hc => ?_) (fun hc => ?_)
  ·
    have h := cond_t h hc
    apply go
    apply go
    apply go
    obtain rfl := Option.some.inj h
    have hp := hp.none_
    have o2733 := OwnS.nil (dI .u64) 52 w2732 I0
    exact ⟨I0, (.slice none 0 0), none, rfl, hp, o2733⟩
  ·
    have h := cond_f h hc
    apply go
    apply go
    apply go
    apply go
    obtain ⟨x2734, q2735, h⟩ := bind_some h
    refine ev_call rfl rfl C47 (((ordering_permutation_ok n) _ _  x2721 x2725 v2726 r2727 hp.imm _ q2735).mono ?_)
    rintro _ w2736 ⟨rfl, hc⟩
    have hs := hp.stp hc
    replace hp := hp.ext hc
    replace r2724 := r2724.step hs
    replace r2727 := r2727.step hs
    replace tb := tb.step hs
    apply go
    refine sel_of (fun hc => ?_) (fun hc => ?_)
    ·
      have h := cond_t h hc
      apply go
      apply go
      apply go
      obtain rfl := Option.some.inj h
      have hp := hp.none_
      have o2737 := OwnS.nil (dI .u64) 52 w2736 I0
      exact ⟨I0, (.slice none 0 0), none, rfl, hp, o2737⟩
    ·
      have h := cond_f h hc
      apply go
      apply go
      apply go
      obtain ⟨x2738, q2739, h⟩ := bind_some h
      refine ev_call rfl rfl C36 (((ordering_build_ok n) _ _  x2721 x2722 v2723 r2724 hp.imm _ q2739).mono ?_)
      rintro _ w2740 ⟨I2741, v2742, e2743, hv, hq, o2744⟩
      replace hv := hv.symm
      subst hv
      have hs := hq.st
      have hp := hp.join0 hq
      replace r2727 := r2727.step hs
      replace tb := tb.step hs
      obtain ⟨x2745, q2746, h⟩ := bind_some h
      refine ev_call rfl rfl C37 (((ordering_all_ok n) _ _  x2721 hp.imm _ q2746).mono ?_)
      rintro _ w2747 ⟨rfl, hc⟩
      have hs := hp.stp hc
      replace hp := hp.ext hc
      replace r2727 := r2727.step hs
      replace o2744 := o2744.step hs
      replace tb := tb.step hs
      obtain ⟨y2812, q2813, h⟩ := bind_some h
      refine W.cut (γ := ((List Int) × Ent × (Nat → Prop))) (fun g => [(8, v2742)]) (fun g w' => y2812 = (g.1) ∧ Hp ⟨w0, I0, []⟩ (g.2.2) [(g.2.1)] w' ∧ OwnS (dI .u64) 52 w' (g.2.2) v2742 (g.2.1) (g.1) ∧ At w' (g.2.2) ⟨0, 0, none⟩ (tab64.map (.int .u8))) ?_ ?_
      ·
        apply go
        apply go
        refine ev0 (rn_len rfl rfl Tryd.underlying27 r2727) ?_
        apply go
        refine W.loop q2813 (γ := (Ent × (Nat → Prop))) (fun s g => [(8, v2742), (9, (.int .u64 (s.2.1))), (25, v2726), (26, (.int .i64 (x2725.length : Int))), (27, (.int .i64 (s.2.2)))]) (fun s g w' => Hp ⟨w0, I0, []⟩ (g.2) [(g.1)] w' ∧ OwnS (dI .u64) 52 w' (g.2) v2742 (g.1) (s.1) ∧ RepS (dI .i64) w' (g.2) v2726 x2725 ∧ At w' (g.2) ⟨0, 0, none⟩ (tab64.map (.int .u8))) (e2743, I2741) (.c rfl (.c rfl (.c rfl (.c rfl (.c rfl .n))))) ⟨hp, o2744, r2727, tb⟩ ?_
        rintro ⟨x2827, x2831, x2832⟩ ⟨e2829, I2833⟩ w2854 y2855 ⟨hp, o2830, r2727, tb⟩ q2856 q2857
        unfold ordering_filled_L1 at q2856
        apply go
        apply go
        apply go
        apply go
        refine sel_of (fun hc => ?_) (fun hc => ?_)
        ·
          have q2856 := cond_t q2856 hc
          apply go
          apply go
          apply go
          apply go
          apply go
          obtain ⟨x2858, q2859, q2856⟩ := bind_some q2856
          refine ev_index rfl rfl rfl Tryd.underlying27 T3 r2727 q2859 ?_
          intro p2860 c2861 d2862 a2863
          obtain rfl : c2861 = [(.int .i64 x2858)] := d2862
          refine ev (rn_load rfl rfl (run_loadVar1 T3 (a2863.2 0 _ rfl))) ?_
          apply go
          apply go
          obtain ⟨q2864, _, q2856⟩ := need_some q2856
          refine ⟨q2864, ?_⟩
          apply go
          obtain ⟨x2865, q2866, q2856⟩ := bind_some q2856
          refine ev_call rfl rfl C40 (((ordering_graph_eliminate_ok n) _ _ tb x2827 v2742 e2829 o2830 x2858 (ib .andNot .u64 x2831 (IntKind.u64.wrap ((1 : Int) * 2 ^ min x2858.toNat (IntKind.u64).bits))) (hp.lend (i := 0) rfl) _ q2866).mono ?_)
          rintro _ w2867 ⟨I2868, e2869, hv, hq, o2870, hsame⟩
          replace hv := hv.symm
          subst hv
          have hs := hq.st
          have hp := hp.backO (i := 0) rfl hq hsame
          replace r2727 := r2727.step hs
          replace tb := tb.step hs
          apply go
          exact ⟨_, (Option.some.inj q2856).symm, (e2869, I2868), (.c rfl (.c rfl (.c rfl (.c rfl (.c rfl .n))))), ⟨hp, o2870, r2727, tb⟩⟩
        ·
          have q2856 := cond_f q2856 hc
          apply go
          have q2871 := congrArg some (q2857 _ (Option.some.inj q2856).symm)
          obtain rfl := Option.some.inj q2871
          exact ⟨(x2827, e2829, I2833), (.c rfl .n), rfl, hp, o2830, tb⟩
      ·
        rintro ⟨x2806, e2808, I2810⟩ w2811 ⟨hy, hp, o2809, tb⟩
        replace hy := hy.symm
        subst hy
        apply go
        apply go
        apply go
        obtain rfl := Option.some.inj h
        exact ⟨I2810, v2742, e2808, rfl, hp, o2809⟩

end Go.Proofs.YtgmiencjoghnnaaDoor

namespace Go.Proofs.YtgmiencjoghnnaaDoor
open Go Go.Proofs.YtgmiencjoghnnaaDoor.Gw Go.RowKit
set_option linter.unusedVariables false
attribute [local irreducible] Ev EvQ EvS EvH
def ordering_Fill_S (f : Int → (List Pair) → (List Int) → Option ((List Pair) × Int)) : Prop := ∀ (w0 : World) (I0 : Nat → Prop) (tb : At w0 I0 ⟨0, 0, none⟩ (tab64.map (.int .u8))) (x2872 : Int) (x2873 : (List Pair)) (v2874 : Value) (r2875 : RepS dPair w0 I0 v2874 x2873) (x2876 : (List Int)) (v2877 : Value) (r2878 : RepS (dI .i64) w0 I0 v2877 x2876) (hI : ∀ g, I0 g → g < w0.heap.size) (r : ((List Pair) × Int)), f x2872 x2873 x2876 = some r →
    Ret Tryd.prog 17 #[(.int .i64 x2872), v2874, v2877] w0 fun v w1 => ∃ (I1 : Nat → Prop) (u2879 : Value), v = (.tuple #[u2879, (.int .i64 r.2)]) ∧ Hp ⟨w0, I0, []⟩ I1 [] w1 ∧ RepS dPair w1 I1 u2879 r.1
theorem ordering_Fill_ok (n : Nat) : ordering_Fill_S (ordering_Fill n) := by
  intro w0 I0 tb x2872 x2873 v2874 r2875 x2876 v2877 r2878 hI r h
  unfold ordering_Fill at h
  refine enter Tryd.func17 rfl (Nat.le_of_ble_eq_true rfl) ?_
  have hp : Hp ⟨w0, I0, []⟩ I0 [] w0 := Hp.start hI
  apply go
  apply go
  apply go
  apply go
  obtain ⟨⟨x2880, x2881⟩, q2882, h⟩ := bind_some h
  refine ev_call rfl rfl C43 (((ordering_filled_ok n) _ _ tb x2872 x2873 v2874 r2875 x2876 v2877 r2878 hp.imm _ q2882).mono ?_)
  rintro _ w2883 ⟨I2884, v2885, e2886, hv, hq, o2887⟩
  replace hv := hv.symm
  subst hv
  have hs := hq.st
  have hp := hp.join0 hq
  replace r2875 := r2875.step hs
  replace tb := tb.step hs
  apply go
  apply go
  apply go
  apply go
  refine sel_of (fun hc => ?_) (fun hc => ?_)
  ·
    have h := cond_t h hc
    apply go
    apply go
    apply go
    obtain rfl := Option.some.inj h
    have hp := hp.sel [] (by decide)
    exact ⟨I2884, .slice none 0 0, rfl, hp, RepS.nil _ _ _⟩
  ·
    have h := cond_f h hc
    apply go
    apply go
    apply go
    obtain ⟨x2888, q2889, h⟩ := bind_some h
    refine ev_call rfl rfl C36 (((ordering_build_ok n) _ _  x2872 x2873 v2874 r2875 hp.imm _ q2889).mono ?_)
    rintro _ w2890 ⟨I2891, v2892, e2893, hv, hq, o2894⟩
    replace hv := hv.symm
    subst hv
    have hs := hq.st
    have hp := hp.join0 hq
    replace o2887 := o2887.step hs
    replace tb := tb.step hs
    apply go
    apply go
    obtain ⟨y4205, q4206, h⟩ := bind_some h
    refine W.cut (γ := ((List Pair) × Value × Ent × (Nat → Prop))) (fun g => [(11, (g.2.1))]) (fun g w' => y4205 = (g.1) ∧ Hp ⟨w0, I0, []⟩ (g.2.2.2) [(g.2.2.1)] w' ∧ OwnS dPair 47 w' (g.2.2.2) (g.2.1) (g.2.2.1) (g.1) ∧ At w' (g.2.2.2) ⟨0, 0, none⟩ (tab64.map (.int .u8))) ?_ ?_
    ·
      apply go
      apply go
      apply go
      have hp := hp.none_
      have o5080 := OwnS.nil dPair 47 w2890 I2891
      have hp := hp.perm [2, 1, 0] (by decide)
      refine W.loop q4206 (γ := (Value × Ent × (Nat → Prop))) (fun s g => [(0, (.int .i64 x2872)), (8, v2885), (10, v2892), (11, (g.1)), (27, (.int .i64 x2872)), (28, (.int .i64 (s.2)))]) (fun s g w' => Hp ⟨w0, I0, []⟩ (g.2.2) [e2886, e2893, (g.2.1)] w' ∧ OwnS (dI .u64) 52 w' (g.2.2) v2885 e2886 x2880 ∧ OwnS (dI .u64) 52 w' (g.2.2) v2892 e2893 x2888 ∧ OwnS dPair 47 w' (g.2.2) (g.1) (g.2.1) (s.1) ∧ At w' (g.2.2) ⟨0, 0, none⟩ (tab64.map (.int .u8))) ((.slice none 0 0), none, I2891) (.c rfl (.c rfl (.c rfl (.c rfl (.c rfl (.c rfl .n)))))) ⟨hp, o2887, o2894, o5080, tb⟩ ?_
      rintro ⟨x4641, x4645⟩ ⟨v4642, e4643, I4646⟩ w5079 y5081 ⟨hp, o2887, o2894, o4644, tb⟩ q5082 q5083
      unfold ordering_Fill_L11 at q5082
      apply go
      apply go
      apply go
      apply go
      refine sel_of (fun hc => ?_) (fun hc => ?_)
      ·
        have q5082 := cond_t q5082 hc
        apply go
        obtain ⟨y5299, q5300, q5082⟩ := bind_some q5082
        refine W.cut (γ := ((List Pair) × Value × Ent × (Nat → Prop))) (fun g => [(0, (.int .i64 x2872)), (8, v2885), (10, v2892), (11, (g.2.1)), (27, (.int .i64 x2872)), (28, (.int .i64 x4645))]) (fun g w' => y5299 = (g.1) ∧ Hp ⟨w0, I0, []⟩ (g.2.2.2) [e2886, e2893, (g.2.2.1)] w' ∧ OwnS (dI .u64) 52 w' (g.2.2.2) v2885 e2886 x2880 ∧ OwnS (dI .u64) 52 w' (g.2.2.2) v2892 e2893 x2888 ∧ OwnS dPair 47 w' (g.2.2.2) (g.2.1) (g.2.2.1) (g.1) ∧ At w' (g.2.2.2) ⟨0, 0, none⟩ (tab64.map (.int .u8))) ?_ ?_
        ·
          apply go
          apply go
          apply go
          apply go
          apply go
          apply go
          refine W.loop q5300 (γ := (Value × Ent × (Nat → Prop))) (fun s g => [(0, (.int .i64 x2872)), (8, v2885), (10, v2892), (11, (g.1)), (12, (.int .i64 x4645)), (13, (.int .i64 (s.2))), (27, (.int .i64 x2872)), (28, (.int .i64 x4645))]) (fun s g w' => Hp ⟨w0, I0, []⟩ (g.2.2) [e2886, e2893, (g.2.1)] w' ∧ OwnS (dI .u64) 52 w' (g.2.2) v2885 e2886 x2880 ∧ OwnS (dI .u64) 52 w' (g.2.2) v2892 e2893 x2888 ∧ OwnS dPair 47 w' (g.2.2) (g.1) (g.2.1) (s.1) ∧ At w' (g.2.2) ⟨0, 0, none⟩ (tab64.map (.int .u8))) (v4642, e4643, I4646) (.c rfl (.c rfl (.c rfl (.c rfl (.c rfl (.c rfl (.c rfl (.c rfl .n)))))))) ⟨hp, o2887, o2894, o4644, tb⟩ ?_
          rintro ⟨x5365, x5369⟩ ⟨v5366, e5367, I5370⟩ w5441 y5442 ⟨hp, o2887, o2894, o5368, tb⟩ q5443 q5444
          unfold ordering_Fill_L13 at q5443
          apply go
          apply go
          apply go
          apply go
          refine sel_of (fun hc => ?_) (fun hc => ?_)
          ·
            have q5443 := cond_t q5443 hc
            apply go
            obtain ⟨y5479, q5480, q5443⟩ := bind_some q5443
            refine W.cut (γ := ((List Pair) × Value × Ent × (Nat → Prop))) (fun g => [(0, (.int .i64 x2872)), (8, v2885), (10, v2892), (11, (g.2.1)), (12, (.int .i64 x4645)), (13, (.int .i64 x5369)), (27, (.int .i64 x2872)), (28, (.int .i64 x4645))]) (fun g w' => y5479 = (g.1) ∧ Hp ⟨w0, I0, []⟩ (g.2.2.2) [e2886, e2893, (g.2.2.1)] w' ∧ OwnS (dI .u64) 52 w' (g.2.2.2) v2885 e2886 x2880 ∧ OwnS (dI .u64) 52 w' (g.2.2.2) v2892 e2893 x2888 ∧ OwnS dPair 47 w' (g.2.2.2) (g.2.1) (g.2.2.1) (g.1) ∧ At w' (g.2.2.2) ⟨0, 0, none⟩ (tab64.map (.int .u8))) ?_ ?_
            ·
              apply go
              apply go
              refine W.quiet (fun w' => Ch [] w5441 w') MX (by kernel_rfl) (Ch.drew [] w5441) ?_
              obtain ⟨x5481, q5482, q5480⟩ := bind_some q5480
              refine evq_indexO rfl rfl rfl Tryd.underlying50 T52 o2887 q5482 ?_
              intro g5483 c5484 h5487 d5485 l5486
              refine evq (fun w' hw => rn_load rfl rfl (run_loadVar1 T52 ((hp.ext hw).cellE (i := 0) rfl h5487 d5485 (j := 0) rfl))) ?_
              obtain ⟨x5489, q5490, q5480⟩ := bind_some q5480
              refine evq_indexO rfl rfl rfl Tryd.underlying50 T52 o2894 q5490 ?_
              intro g5491 c5492 h5495 d5493 l5494
              refine evq (fun w' hw => rn_load rfl rfl (run_loadVar1 T52 ((hp.ext hw).cellE (i := 1) rfl h5495 d5493 (j := 0) rfl))) ?_
              obtain ⟨q5497, _, q5480⟩ := need_some q5480
              refine ⟨q5497, ?_⟩
              intro w5498 hc
              have hs := hp.stp hc
              replace hp := hp.ext hc
              replace o2887 := o2887.step hs
              replace o2894 := o2894.step hs
              replace o5368 := o5368.step hs
              replace tb := tb.step hs
              apply go
              refine sel_of (fun hc => ?_) (fun hc => ?_)
              ·
                have q5480 := cond_t q5480 hc
                apply go
                refine ev0 (fun w => rn_build (cs := [(.int .i64 x4645), (.int .i64 x5369)]) rfl rfl T47 PL47 rfl) ?_
                refine ev_litN (d := dPair) (xs := [(Pair.mk x4645 x5369)]) (cs := [(.int .i64 x4645), (.int .i64 x5369)]) hp rfl rfl Tryd.underlying22 T47 (by decide) rfl rfl (Elems.cons (d := dPair) (xs := _) dPair_m (Elems.nil _ _ _ _)) ?_
                intro v5499 I5501 w5500 hp hs r5502
                replace o2887 := o2887.step hs
                replace o2894 := o2894.step hs
                replace o5368 := o5368.step hs
                replace tb := tb.step hs
                obtain ⟨x5503, q5504, q5480⟩ := bind_some q5480
                refine ev_append hp (i := 2) rfl rfl rfl rfl Tryd.underlying22 T47 rfl rfl o5368 r5502 q5504 ?_
                rintro v5505 e5506 w5507 hp hs o5508
                replace o2887 := o2887.step hs
                replace o2894 := o2894.step hs
                replace tb := tb.step hs
                obtain rfl := Option.some.inj q5480
                exact ⟨(x5503, v5505, e5506, I5501), (.c rfl (.c rfl (.c rfl (.c rfl (.c rfl (.c rfl (.c rfl (.c rfl .n)))))))), rfl, hp, o2887, o2894, o5508, tb⟩
              ·
                have q5480 := cond_f q5480 hc
                apply go
                obtain rfl := Option.some.inj q5480
                exact ⟨(x5365, v5366, e5367, I5370), (.c rfl (.c rfl (.c rfl (.c rfl (.c rfl (.c rfl (.c rfl (.c rfl .n)))))))), rfl, hp, o2887, o2894, o5368, tb⟩
            ·
              rintro ⟨x5473, v5474, e5475, I5477⟩ w5478 ⟨hy, hp, o2887, o2894, o5476, tb⟩
              replace hy := hy.symm
              subst hy
              apply go
              exact ⟨_, (Option.some.inj q5443).symm, (v5474, e5475, I5477), (.c rfl (.c rfl (.c rfl (.c rfl (.c rfl (.c rfl (.c rfl (.c rfl .n)))))))), ⟨hp, o2887, o2894, o5476, tb⟩⟩
          ·
            have q5443 := cond_f q5443 hc
            apply go
            have q5509 := congrArg some (q5444 _ (Option.some.inj q5443).symm)
            obtain rfl := Option.some.inj q5509
            exact ⟨(x5365, v5366, e5367, I5370), (.c rfl (.c rfl (.c rfl (.c rfl (.c rfl (.c rfl .n)))))), rfl, hp, o2887, o2894, o5368, tb⟩
        ·
          rintro ⟨x5293, v5294, e5295, I5297⟩ w5298 ⟨hy, hp, o2887, o2894, o5296, tb⟩
          replace hy := hy.symm
          subst hy
          apply go
          exact ⟨_, (Option.some.inj q5082).symm, (v5294, e5295, I5297), (.c rfl (.c rfl (.c rfl (.c rfl (.c rfl (.c rfl .n)))))), ⟨hp, o2887, o2894, o5296, tb⟩⟩
      ·
        have q5082 := cond_f q5082 hc
        apply go
        have q5510 := congrArg some (q5083 _ (Option.some.inj q5082).symm)
        obtain rfl := Option.some.inj q5510
        have hp := hp.sel [2] (by decide)
        exact ⟨(x4641, v4642, e4643, I4646), (.c rfl .n), rfl, hp, o4644, tb⟩
    ·
      rintro ⟨x4199, v4200, e4201, I4203⟩ w4204 ⟨hy, hp, o4202, tb⟩
      replace hy := hy.symm
      subst hy
      apply go
      apply go
      apply go
      obtain rfl := Option.some.inj h
      have r5511 := o4202.frz hp (i := 0) rfl
      obtain ⟨hp, hs⟩ := freeze_hp hp (i := 0) rfl
      replace tb := tb.step hs
      have hp := hp.sel [] (by decide)
      exact ⟨(Ad I4203 e4201), v4200, rfl, hp, r5511⟩

end Go.Proofs.YtgmiencjoghnnaaDoor

namespace Go.Proofs.YtgmiencjoghnnaaDoor
open Go Go.Proofs.YtgmiencjoghnnaaDoor.Gw Go.RowKit
set_option linter.unusedVariables false
attribute [local irreducible] Ev EvQ EvS EvH
def base_Pairs_S (f : (List Pair) → (List Pair) → Option Bool) : Prop := ∀ (w0 : World) (I0 : Nat → Prop) (x5615 : (List Pair)) (v5616 : Value) (r5617 : RepS dPair w0 I0 v5616 x5615) (x5618 : (List Pair)) (v5619 : Value) (r5620 : RepS dPair w0 I0 v5619 x5618) (hI : ∀ g, I0 g → g < w0.heap.size) (r : Bool), f x5615 x5618 = some r →
    Ret Tryd.prog 19 #[v5616, v5619] w0 fun v w1 => v = (.bool r) ∧ Ch [] w0 w1
theorem base_Pairs_ok (n : Nat) : base_Pairs_S (base_Pairs n) := by
  intro w0 I0 x5615 v5616 r5617 x5618 v5619 r5620 hI r h
  unfold base_Pairs at h
  refine enter Tryd.func19 rfl (Nat.le_of_ble_eq_true rfl) ?_
  have hp : Hp ⟨w0, I0, []⟩ I0 [] w0 := Hp.start hI
  apply go
  apply go
  apply go
  apply go
  apply go
  refine ev0 (rn_len rfl rfl Tryd.underlying22 r5617) ?_
  refine ev0 (rn_len rfl rfl Tryd.underlying22 r5620) ?_
  apply go
  refine sel_of (fun hc => ?_) (fun hc => ?_)
  ·
    have h := cond_t h hc
    apply go
    apply go
    apply go
    obtain rfl := Option.some.inj h
    exact ⟨rfl, hp.ch⟩
  ·
    have h := cond_f h hc
    apply go
    obtain ⟨y5669, q5670, h⟩ := bind_some h
    refine W.cut (γ := Unit) (fun _ => []) (fun _ w' => y5669 = .go () ∧ Hp ⟨w0, I0, []⟩ I0 [] w') ?_ ?_
    ·
      apply go
      apply go
      apply go
      refine W.loop q5670 (γ := Unit) (fun s _ => [(0, v5616), (1, v5619), (5, (.int .i64 (s)))]) (fun s _ w' => Hp ⟨w0, I0, []⟩ I0 [] w' ∧ RepS dPair w' I0 v5616 x5615 ∧ RepS dPair w' I0 v5619 x5618) () (.c rfl (.c rfl (.c rfl .n))) ⟨hp, r5617, r5620⟩ ?_
      rintro x5684 ⟨⟩ w5699 y5700 ⟨hp, r5617, r5620⟩ q5701 q5702
      unfold base_Pairs_L1 at q5701
      apply go
      apply go
      apply go
      refine ev0 (rn_len rfl rfl Tryd.underlying22 r5617) ?_
      apply go
      refine sel_of (fun hc => ?_) (fun hc => ?_)
      ·
        have q5701 := cond_t q5701 hc
        apply go
        apply go
        apply go
        apply go
        refine W.quiet (fun w' => Ch [] w5699 w') MX (by kernel_rfl) (Ch.drew [] w5699) ?_
        obtain ⟨x5703, q5704, q5701⟩ := bind_some q5701
        refine evq_index rfl rfl rfl Tryd.underlying22 T47 r5617 q5704 ?_
        intro p5705 c5706 d5707 a5708
        obtain rfl := dPair_o d5707
        refine evq (fun w' hw => rn_load rfl rfl (run_loadVarA T47 rfl (a5708.step (hp.stp hw)))) ?_
        obtain ⟨x5709, q5710, q5701⟩ := bind_some q5701
        refine evq_index rfl rfl rfl Tryd.underlying22 T47 r5620 q5710 ?_
        intro p5711 c5712 d5713 a5714
        obtain rfl := dPair_o d5713
        refine evq (fun w' hw => rn_load rfl rfl (run_loadVarA T47 rfl (a5714.step (hp.stp hw)))) ?_
        refine evq0 (rn_neA rfl rfl rfl (EQ47 x5703.A x5703.B x5709.A x5709.B)) ?_
        intro w5715 hc
        have hs := hp.stp hc
        replace hp := hp.ext hc
        replace r5617 := r5617.step hs
        replace r5620 := r5620.step hs
        apply go
        refine sel_of (fun hc => ?_) (fun hc => ?_)
        ·
          have q5701 := cond_t q5701 hc
          apply go
          apply go
          apply go
          have q5716 := congrArg some (q5702 _ (Option.some.inj q5701).symm)
          obtain rfl := Option.some.inj q5716
          obtain rfl := Option.some.inj h
          exact ⟨rfl, hp.ch⟩
        ·
          have q5701 := cond_f q5701 hc
          apply go
          apply go
          exact ⟨_, (Option.some.inj q5701).symm, (), (.c rfl (.c rfl (.c rfl .n))), ⟨hp, r5617, r5620⟩⟩
      ·
        have q5701 := cond_f q5701 hc
        apply go
        have q5717 := congrArg some (q5702 _ (Option.some.inj q5701).symm)
        obtain rfl := Option.some.inj q5717
        exact ⟨(), .n, rfl, hp⟩
    ·
      rintro ⟨⟩ w5668 ⟨hy, hp⟩
      replace hy := hy.symm
      subst hy
      apply go
      apply go
      apply go
      obtain rfl := Option.some.inj h
      exact ⟨rfl, hp.ch⟩

end Go.Proofs.YtgmiencjoghnnaaDoor

namespace Go.Proofs.YtgmiencjoghnnaaDoor
open Go Go.Proofs.YtgmiencjoghnnaaDoor.Gw Go.RowKit
set_option linter.unusedVariables false
attribute [local irreducible] Ev EvQ EvS EvH
def law26_awake_S (f : Option Bool) : Prop := ∀ (w0 : World) (I0 : Nat → Prop) (tb : At w0 I0 ⟨0, 0, none⟩ (tab64.map (.int .u8)))  (hI : ∀ g, I0 g → g < w0.heap.size) (r : Bool), f  = some r →
    Ret Tryd.prog 12 #[] w0 fun v w1 => v = (.bool r) ∧ Ch [] w0 w1
theorem law26_awake_ok (n : Nat) : law26_awake_S (law26_awake n) := by
  intro w0 I0 tb hI r h
  unfold law26_awake at h
  refine enter Tryd.func12 rfl (Nat.le_of_ble_eq_true rfl) ?_
  have hp : Hp ⟨w0, I0, []⟩ I0 [] w0 := Hp.start hI
  apply go
  apply go
  apply go
  apply go
  refine ev0 (fun w => rn_build (cs := [(.int .i64 0), (.int .i64 1)]) rfl rfl T47 PL47 rfl) ?_
  refine ev0 (fun w => rn_build (cs := [(.int .i64 0), (.int .i64 3)]) rfl rfl T47 PL47 rfl) ?_
  refine ev0 (fun w => rn_build (cs := [(.int .i64 1), (.int .i64 2)]) rfl rfl T47 PL47 rfl) ?_
  refine ev0 (fun w => rn_build (cs := [(.int .i64 2), (.int .i64 3)]) rfl rfl T47 PL47 rfl) ?_
  refine ev_litN (d := dPair) (xs := [(Pair.mk 0 1), (Pair.mk 0 3), (Pair.mk 1 2), (Pair.mk 2 3)]) (cs := [(.int .i64 0), (.int .i64 1), (.int .i64 0), (.int .i64 3), (.int .i64 1), (.int .i64 2), (.int .i64 2), (.int .i64 3)]) hp rfl rfl Tryd.underlying22 T47 (by decide) rfl rfl (Elems.cons (d := dPair) (xs := _) dPair_m (Elems.cons (d := dPair) (xs := _) dPair_m (Elems.cons (d := dPair) (xs := _) dPair_m (Elems.cons (d := dPair) (xs := _) dPair_m (Elems.nil _ _ _ _))))) ?_
  intro v5718 I5720 w5719 hp hs r5721
  replace tb := tb.step hs
  apply go
  apply go
  obtain ⟨⟨x5722, x5723⟩, q5724, h⟩ := bind_some h
  refine ev_call rfl rfl C14 (((ordering_MinDegree_ok n) _ _ tb 4 [(Pair.mk 0 1), (Pair.mk 0 3), (Pair.mk 1 2), (Pair.mk 2 3)] v5718 r5721 hp.imm _ q5724).mono ?_)
  rintro _ w5725 ⟨I5726, v5727, hv, hq, r5728⟩
  replace hv := hv.symm
  subst hv
  have hs := hq.st
  have hp := hp.join0 hq
  replace r5721 := r5721.step hs
  replace tb := tb.step hs
  apply go
  apply go
  refine ev_litN (d := (dI .i64)) (xs := [0, 1, 2, 3]) (cs := [(.int .i64 0), (.int .i64 1), (.int .i64 2), (.int .i64 3)]) hp rfl rfl Tryd.underlying27 T3 (by decide) rfl rfl (Elems.cons (d := (dI .i64)) (xs := _) rfl (Elems.cons (d := (dI .i64)) (xs := _) rfl (Elems.cons (d := (dI .i64)) (xs := _) rfl (Elems.cons (d := (dI .i64)) (xs := _) rfl (Elems.nil _ _ _ _))))) ?_
  intro v5729 I5731 w5730 hp hs r5732
  replace r5728 := r5728.step hs
  replace r5721 := r5721.step hs
  replace tb := tb.step hs
  obtain ⟨⟨x5733, x5734⟩, q5735, h⟩ := bind_some h
  refine ev_call rfl rfl C17 (((ordering_Fill_ok n) _ _ tb 4 [(Pair.mk 0 1), (Pair.mk 0 3), (Pair.mk 1 2), (Pair.mk 2 3)] v5718 r5721 [0, 1, 2, 3] v5729 r5732 hp.imm _ q5735).mono ?_)
  rintro _ w5736 ⟨I5737, v5738, hv, hq, r5739⟩
  replace hv := hv.symm
  subst hv
  have hs := hq.st
  have hp := hp.join0 hq
  replace r5728 := r5728.step hs
  replace tb := tb.step hs
  obtain ⟨y5757, q5758, h⟩ := bind_some h
  refine W.cut (γ := (Bool × (Nat → Prop))) (fun g => [(0, (.bool (g.1)))]) (fun g w' => y5757 = (g.1) ∧ Hp ⟨w0, I0, []⟩ (g.2) [] w' ∧ At w' (g.2) ⟨0, 0, none⟩ (tab64.map (.int .u8))) ?_ ?_
  ·
    apply go
    refine sel_of (fun hc => ?_) (fun hc => ?_)
    ·
      have q5758 := cond_t q5758 hc
      refine ev_litN (d := (dI .i64)) (xs := [0, 1, 2, 3]) (cs := [(.int .i64 0), (.int .i64 1), (.int .i64 2), (.int .i64 3)]) hp rfl rfl Tryd.underlying27 T3 (by decide) rfl rfl (Elems.cons (d := (dI .i64)) (xs := _) rfl (Elems.cons (d := (dI .i64)) (xs := _) rfl (Elems.cons (d := (dI .i64)) (xs := _) rfl (Elems.cons (d := (dI .i64)) (xs := _) rfl (Elems.nil _ _ _ _))))) ?_
      intro v5759 I5761 w5760 hp hs r5762
      replace r5739 := r5739.step hs
      replace r5728 := r5728.step hs
      replace tb := tb.step hs
      obtain ⟨x5763, q5764, q5758⟩ := bind_some q5758
      refine ev_call rfl rfl C16 (((base_Ints_ok n) _ _  x5722 v5727 r5728 [0, 1, 2, 3] v5759 r5762 hp.imm _ q5764).mono ?_)
      rintro _ w5765 ⟨rfl, hc⟩
      have hs := hp.stp hc
      replace hp := hp.ext hc
      replace r5739 := r5739.step hs
      replace tb := tb.step hs
      refine sel_of (fun hc => ?_) (fun hc => ?_)
      ·
        have q5758 := cond_t q5758 hc
        refine sel_of (fun hc => ?_) (fun hc => ?_)
        ·
          have q5758 := cond_t q5758 hc
          refine ev0 (fun w => rn_build (cs := [(.int .i64 1), (.int .i64 3)]) rfl rfl T47 PL47 rfl) ?_
          refine ev_litN (d := dPair) (xs := [(Pair.mk 1 3)]) (cs := [(.int .i64 1), (.int .i64 3)]) hp rfl rfl Tryd.underlying22 T47 (by decide) rfl rfl (Elems.cons (d := dPair) (xs := _) dPair_m (Elems.nil _ _ _ _)) ?_
          intro v5766 I5768 w5767 hp hs r5769
          replace r5739 := r5739.step hs
          replace tb := tb.step hs
          obtain ⟨x5770, q5771, q5758⟩ := bind_some q5758
          refine ev_call rfl rfl C19 (((base_Pairs_ok n) _ _  x5733 v5738 r5739 [(Pair.mk 1 3)] v5766 r5769 hp.imm _ q5771).mono ?_)
          rintro _ w5772 ⟨rfl, hc⟩
          have hs := hp.stp hc
          replace hp := hp.ext hc
          replace tb := tb.step hs
          obtain rfl := Option.some.inj q5758
          exact ⟨(x5770, I5768), (.c rfl .n), rfl, hp, tb⟩
        ·
          have q5758 := cond_f q5758 hc
          obtain rfl := Option.some.inj q5758
          exact ⟨(false, I5761), (.c rfl .n), rfl, hp, tb⟩
      ·
        have q5758 := cond_f q5758 hc
        obtain rfl := Option.some.inj q5758
        exact ⟨(false, I5761), (.c rfl .n), rfl, hp, tb⟩
    ·
      have q5758 := cond_f q5758 hc
      obtain rfl := Option.some.inj q5758
      exact ⟨(false, I5737), (.c rfl .n), rfl, hp, tb⟩
  ·
    rintro ⟨x5754, I5755⟩ w5756 ⟨hy, hp, tb⟩
    replace hy := hy.symm
    subst hy
    apply go
    obtain rfl := Option.some.inj h
    exact ⟨rfl, hp.ch⟩

end Go.Proofs.YtgmiencjoghnnaaDoor

namespace Go.Proofs.YtgmiencjoghnnaaDoor
open Go Go.Proofs.YtgmiencjoghnnaaDoor.Gw Go.RowKit
set_option linter.unusedVariables false
attribute [local irreducible] Ev EvQ EvS EvH
def law26_few_S (f : Graph → Option Bool) : Prop := ∀ (w0 : World) (I0 : Nat → Prop) (x5773 : Graph) (v5774 : Value) (r5775 : RepS dPair w0 I0 v5774 x5773.E) (hI : ∀ g, I0 g → g < w0.heap.size) (r : Bool), f x5773 = some r →
    Ret Tryd.prog 13 #[(.agg #[(.int .i64 x5773.N), v5774])] w0 fun v w1 => v = (.bool r) ∧ Ch [] w0 w1
theorem law26_few_ok (n : Nat) : law26_few_S (law26_few n) := by
  intro w0 I0 x5773 v5774 r5775 hI r h
  unfold law26_few at h
  refine enter Tryd.func13 rfl (Nat.le_of_ble_eq_true rfl) ?_
  have hp : Hp ⟨w0, I0, []⟩ I0 [] w0 := Hp.start hI
  apply go
  apply go
  refine ev_boxI hp rfl rfl ?_
  intro p5778 I5779 w5777 hp hs a5780
  replace r5775 := r5775.step hs
  obtain ⟨y5782, q5783, h⟩ := bind_some h
  refine W.cut (γ := Bool) (fun g => [(2, (.bool (g)))]) (fun g w' => y5782 = (g) ∧ w5777 = w') ?_ ?_
  ·
    apply go
    refine ev0 (rn_field rfl rfl FO24_1) ?_
    refine ev (rn_load rfl rfl (run_loadVar1 T22 (a5780.2 1 _ rfl))) ?_
    refine ev0 (rn_len rfl rfl Tryd.underlying22 r5775) ?_
    refine sel_of (fun hc => ?_) (fun hc => ?_)
    ·
      have q5783 := cond_t q5783 hc
      refine ev0 (rn_field rfl rfl FO24_0) ?_
      refine ev (rn_load rfl rfl (run_loadVar1 T3 (a5780.2 0 _ rfl))) ?_
      obtain rfl := Option.some.inj q5783
      exact ⟨(decide (x5773.N ≤ 24)), (.c rfl .n), rfl, rfl⟩
    ·
      have q5783 := cond_f q5783 hc
      obtain rfl := Option.some.inj q5783
      exact ⟨false, (.c rfl .n), rfl, rfl⟩
  ·
    rintro x5781 _ ⟨hy, rfl⟩
    replace hy := hy.symm
    subst hy
    apply go
    obtain rfl := Option.some.inj h
    exact ⟨rfl, hp.ch⟩

end Go.Proofs.YtgmiencjoghnnaaDoor

namespace Go.Proofs.YtgmiencjoghnnaaDoor
open Go Go.Proofs.YtgmiencjoghnnaaDoor.Gw Go.RowKit
set_option linter.unusedVariables false
attribute [local irreducible] Ev EvQ EvS EvH
def ref26_Table_S (f : Int → (List Pair) → Option (List (List Bool))) : Prop := ∀ (w0 : World) (I0 : Nat → Prop) (x6664 : Int) (x6665 : (List Pair)) (v6666 : Value) (r6667 : RepS dPair w0 I0 v6666 x6665) (hI : ∀ g, I0 g → g < w0.heap.size) (r : (List (List Bool))), f x6664 x6665 = some r →
    Ret Tryd.prog 41 #[(.int .i64 x6664), v6666] w0 fun v w1 => ∃ (I1 : Nat → Prop) (u6668 : List Value), v = (.agg u6668.toArray) ∧ Hp ⟨w0, I0, []⟩ I1 [] w1 ∧ (dA 64 (dA 64 dB)).rep w1 I1 u6668 r
theorem ref26_Table_ok (n : Nat) : ref26_Table_S (ref26_Table n) := by
  intro w0 I0 x6664 x6665 v6666 r6667 hI r h
  unfold ref26_Table at h
  refine enter Tryd.func41 rfl (Nat.le_of_ble_eq_true rfl) ?_
  have hp : Hp ⟨w0, I0, []⟩ I0 [] w0 := Hp.start hI
  apply go
  apply go
  refine ev_allocA (d := (dA 64 (dA 64 dB))) (x0 := (List.replicate 64 (List.replicate 64 false))) hp rfl T57 (fun _ _ => (rep_zero 64 (rep_zero 64 rfl))) ?_
  intro g6669 c6672 w6670 hp hs r6671
  replace r6667 := r6667.step hs
  apply go
  apply go
  refine ev_allocA (d := (dA 64 (dA 64 dB))) (x0 := (List.replicate 64 (List.replicate 64 false))) hp rfl T57 (fun _ _ => (rep_zero 64 (rep_zero 64 rfl))) ?_
  intro g6673 c6676 w6674 hp hs r6675
  replace r6667 := r6667.step hs
  replace r6671 := r6671.step hs
  obtain ⟨y6829, q6830, h⟩ := bind_some h
  refine W.cut (γ := ((List (List Bool)) × (List Value))) (fun g => [(4, (.pointer (some ⟨g6669, 0, none⟩))), (5, (.pointer (some ⟨g6673, 0, none⟩)))]) (fun g w' => y6829 = (g.1) ∧ Hp ⟨w0, I0, []⟩ I0 [some (g6669, c6672, 57), some (g6673, (g.2), 57)] w' ∧ (dA 64 (dA 64 dB)).rep w' I0 c6672 (List.replicate 64 (List.replicate 64 false)) ∧ (dA 64 (dA 64 dB)).rep w' I0 (g.2) (g.1)) ?_ ?_
  ·
    apply go
    apply go
    apply go
    have hp := hp.perm [1, 0] (by decide)
    refine W.loop q6830 (γ := (List Value)) (fun s g => [(0, (.int .i64 x6664)), (1, v6666), (4, (.pointer (some ⟨g6669, 0, none⟩))), (5, (.pointer (some ⟨g6673, 0, none⟩))), (6, (.int .i64 (s.2)))]) (fun s g w' => Hp ⟨w0, I0, []⟩ I0 [some (g6669, c6672, 57), some (g6673, (g), 57)] w' ∧ RepS dPair w' I0 v6666 x6665 ∧ (dA 64 (dA 64 dB)).rep w' I0 c6672 (List.replicate 64 (List.replicate 64 false)) ∧ (dA 64 (dA 64 dB)).rep w' I0 (g) (s.1)) c6676 (.c rfl (.c rfl (.c rfl (.c rfl (.c rfl .n))))) ⟨hp, r6667, r6671, r6675⟩ ?_
    rintro ⟨x6876, x6879⟩ c6877 w6929 y6930 ⟨hp, r6667, r6671, r6878⟩ q6931 q6932
    unfold ref26_Table_L1 at q6931
    apply go
    obtain ⟨y6934, q6935, q6931⟩ := bind_some q6931
    refine W.cut (γ := Bool) (fun g => [(0, (.int .i64 x6664)), (1, v6666), (4, (.pointer (some ⟨g6669, 0, none⟩))), (5, (.pointer (some ⟨g6673, 0, none⟩))), (6, (.int .i64 x6879)), (14, (.bool (g)))]) (fun g w' => y6934 = (g) ∧ w6929 = w') ?_ ?_
    ·
      apply go
      refine ev0 (rn_len rfl rfl Tryd.underlying22 r6667) ?_
      refine sel_of (fun hc => ?_) (fun hc => ?_)
      ·
        have q6935 := cond_t q6935 hc
        obtain rfl := Option.some.inj q6935
        exact ⟨(decide (x6664 > 0)), (.c rfl (.c rfl (.c rfl (.c rfl (.c rfl (.c rfl .n)))))), rfl, rfl⟩
      ·
        have q6935 := cond_f q6935 hc
        obtain rfl := Option.some.inj q6935
        exact ⟨false, (.c rfl (.c rfl (.c rfl (.c rfl (.c rfl (.c rfl .n)))))), rfl, rfl⟩
    ·
      rintro x6933 _ ⟨hy, rfl⟩
      replace hy := hy.symm
      subst hy
      apply go
      refine sel_of (fun hc => ?_) (fun hc => ?_)
      ·
        have q6931 := cond_t q6931 hc
        apply go
        apply go
        apply go
        apply go
        have hs := hp.stp (Ch.drew [] w6929)
        have hp := hp.drew
        replace r6667 := r6667.step hs
        replace r6671 := r6671.step hs
        replace r6878 := r6878.step hs
        refine W.tail 12 MX (by kernel_rfl) ?_
        obtain ⟨x6937, q6938, q6931⟩ := bind_some q6931
        refine evs_index rfl rfl rfl Tryd.underlying22 T47 r6667 q6938 ?_
        intro p6939 c6940 d6941 a6942
        obtain rfl := dPair_o d6941
        refine evs0 (rn_field rfl rfl FO47_0) ?_
        refine evs (rn_load rfl rfl (run_loadVar1 T3 (a6942.2 0 _ rfl))) ?_
        obtain ⟨x6943, q6944, q6931⟩ := bind_some q6931
        refine evs_index rfl rfl rfl Tryd.underlying22 T47 r6667 q6944 ?_
        intro p6945 c6946 d6947 a6948
        obtain rfl := dPair_o d6947
        refine evs0 (rn_field rfl rfl FO47_1) ?_
        refine evs (rn_load rfl rfl (run_loadVar1 T3 (a6948.2 1 _ rfl))) ?_
        obtain ⟨x6949, q6950, q6931⟩ := bind_some q6931
        refine evs_indexA rfl rfl rfl Tryd.underlying57 T56 (SubA.top r6878) q6950 ?_
        obtain ⟨x6951, q6952, q6931⟩ := bind_some q6931
        refine evs_indexA rfl rfl rfl Tryd.underlying56 T4 ((SubA.top r6878).el q6950) q6952 ?_
        refine ev_store1A hp (i := 1) rfl rfl rfl rfl T4 rfl (((SubA.top r6878).el q6950).el q6952).1 ?_
        intro c6955 w6953 q6956 hp hs
        have r6954 : ((dA 64 (dA 64 dB))).rep w6953 I0 c6955 (upd x6876 x6937.A (upd x6949 x6943.B true)) := by subst q6956; exact PutA.rep (Desc.len _ r6878) (PutA.up (SubA.top (r6878.step hs)) q6950 (PutA.up ((SubA.top (r6878.step hs)).el q6950) q6952 (PutA.leaf (((SubA.top r6878).el q6950).el q6952).1 rfl rfl)))
        clear q6956
        replace r6667 := r6667.step hs
        replace r6671 := r6671.step hs
        have hs := hp.stp (Ch.drew [] w6953)
        have hp := hp.drew
        replace r6667 := r6667.step hs
        replace r6671 := r6671.step hs
        replace r6954 := r6954.step hs
        refine W.tail 12 MX (by kernel_rfl) ?_
        obtain ⟨x6958, q6959, q6931⟩ := bind_some q6931
        refine evs_index rfl rfl rfl Tryd.underlying22 T47 r6667 q6959 ?_
        intro p6960 c6961 d6962 a6963
        obtain rfl := dPair_o d6962
        refine evs0 (rn_field rfl rfl FO47_1) ?_
        refine evs (rn_load rfl rfl (run_loadVar1 T3 (a6963.2 1 _ rfl))) ?_
        obtain ⟨x6964, q6965, q6931⟩ := bind_some q6931
        refine evs_index rfl rfl rfl Tryd.underlying22 T47 r6667 q6965 ?_
        intro p6966 c6967 d6968 a6969
        obtain rfl := dPair_o d6968
        refine evs0 (rn_field rfl rfl FO47_0) ?_
        refine evs (rn_load rfl rfl (run_loadVar1 T3 (a6969.2 0 _ rfl))) ?_
        obtain ⟨x6970, q6971, q6931⟩ := bind_some q6931
        refine evs_indexA rfl rfl rfl Tryd.underlying57 T56 (SubA.top r6954) q6971 ?_
        obtain ⟨x6972, q6973, q6931⟩ := bind_some q6931
        refine evs_indexA rfl rfl rfl Tryd.underlying56 T4 ((SubA.top r6954).el q6971) q6973 ?_
        refine ev_store1A hp (i := 1) rfl rfl rfl rfl T4 rfl (((SubA.top r6954).el q6971).el q6973).1 ?_
        intro c6976 w6974 q6977 hp hs
        have r6975 : ((dA 64 (dA 64 dB))).rep w6974 I0 c6976 (upd (upd x6876 x6937.A (upd x6949 x6943.B true)) x6958.B (upd x6970 x6964.A true)) := by subst q6977; exact PutA.rep (Desc.len _ r6954) (PutA.up (SubA.top (r6954.step hs)) q6971 (PutA.up ((SubA.top (r6954.step hs)).el q6971) q6973 (PutA.leaf (((SubA.top r6954).el q6971).el q6973).1 rfl rfl)))
        clear q6977
        replace r6667 := r6667.step hs
        replace r6671 := r6671.step hs
        apply go
        exact ⟨_, (Option.some.inj q6931).symm, c6976, (.c rfl (.c rfl (.c rfl (.c rfl (.c rfl .n))))), ⟨hp, r6667, r6671, r6975⟩⟩
      ·
        have q6931 := cond_f q6931 hc
        apply go
        have q6978 := congrArg some (q6932 _ (Option.some.inj q6931).symm)
        obtain rfl := Option.some.inj q6978
        exact ⟨(x6876, c6877), (.c rfl (.c rfl .n)), rfl, hp, r6671, r6878⟩
  ·
    rintro ⟨x6825, c6826⟩ w6828 ⟨hy, hp, r6671, r6827⟩
    replace hy := hy.symm
    subst hy
    apply go
    apply go
    refine ev (rn_load rfl rfl (run_loadVarA T57 (Desc.len _ r6827) (hp.at_ (i := 1) rfl))) ?_
    have r6979 := r6827
    refine ev_storeW (d := (dA 64 (dA 64 dB))) hp (i := 0) rfl rfl rfl rfl T57 rfl r6671 r6979 ?_
    intro w6980 hp hs r6981
    replace r6827 := r6827.step hs
    apply go
    obtain rfl := Option.some.inj h
    refine ⟨_, run_loadVarA T57 (Desc.len _ r6981) (hp.at_ (i := 0) rfl), ?_⟩
    have hp := hp.sel [] (by decide)
    exact ⟨I0, c6826, rfl, hp, r6981⟩

end Go.Proofs.YtgmiencjoghnnaaDoor

namespace Go.Proofs.YtgmiencjoghnnaaDoor
open Go Go.Proofs.YtgmiencjoghnnaaDoor.Gw Go.RowKit
set_option linter.unusedVariables false
attribute [local irreducible] Ev EvQ EvS EvH
def ref26_Valid_S (f : Int → (List Pair) → Option Bool) : Prop := ∀ (w0 : World) (I0 : Nat → Prop) (x5784 : Int) (x5785 : (List Pair)) (v5786 : Value) (r5787 : RepS dPair w0 I0 v5786 x5785) (hI : ∀ g, I0 g → g < w0.heap.size) (r : Bool), f x5784 x5785 = some r →
    Ret Tryd.prog 29 #[(.int .i64 x5784), v5786] w0 fun v w1 => v = (.bool r) ∧ Ch [] w0 w1
theorem ref26_Valid_ok (n : Nat) : ref26_Valid_S (ref26_Valid n) := by
  intro w0 I0 x5784 x5785 v5786 r5787 hI r h
  unfold ref26_Valid at h
  refine enter Tryd.func29 rfl (Nat.le_of_ble_eq_true rfl) ?_
  have hp : Hp ⟨w0, I0, []⟩ I0 [] w0 := Hp.start hI
  apply go
  apply go
  apply go
  obtain ⟨y5789, q5790, h⟩ := bind_some h
  refine W.cut (γ := Bool) (fun g => [(0, (.int .i64 x5784)), (1, v5786), (11, (.bool (g)))]) (fun g w' => y5789 = (g) ∧ w0 = w') ?_ ?_
  ·
    apply go
    refine sel_of (fun hc => ?_) (fun hc => ?_)
    ·
      have q5790 := cond_t q5790 hc
      obtain rfl := Option.some.inj q5790
      exact ⟨true, (.c rfl (.c rfl (.c rfl .n))), rfl, rfl⟩
    ·
      have q5790 := cond_f q5790 hc
      obtain rfl := Option.some.inj q5790
      exact ⟨(decide (x5784 > 64)), (.c rfl (.c rfl (.c rfl .n))), rfl, rfl⟩
  ·
    rintro x5788 _ ⟨hy, rfl⟩
    replace hy := hy.symm
    subst hy
    apply go
    refine sel_of (fun hc => ?_) (fun hc => ?_)
    ·
      have h := cond_t h hc
      apply go
      apply go
      apply go
      obtain rfl := Option.some.inj h
      exact ⟨rfl, hp.ch⟩
    ·
      have h := cond_f h hc
      apply go
      obtain ⟨y6227, q6228, h⟩ := bind_some h
      refine W.cut (γ := Unit) (fun _ => []) (fun _ w' => y6227 = .go () ∧ Hp ⟨w0, I0, []⟩ I0 [] w') ?_ ?_
      ·
        apply go
        apply go
        apply go
        refine W.loop q6228 (γ := Unit) (fun s _ => [(0, (.int .i64 x5784)), (1, v5786), (5, (.int .i64 (s)))]) (fun s _ w' => Hp ⟨w0, I0, []⟩ I0 [] w' ∧ RepS dPair w' I0 v5786 x5785) () (.c rfl (.c rfl (.c rfl .n))) ⟨hp, r5787⟩ ?_
        rintro x6371 ⟨⟩ w6515 y6516 ⟨hp, r5787⟩ q6517 q6518
        unfold ref26_Valid_L1 at q6517
        apply go
        apply go
        apply go
        refine ev0 (rn_len rfl rfl Tryd.underlying22 r5787) ?_
        apply go
        refine sel_of (fun hc => ?_) (fun hc => ?_)
        ·
          have q6517 := cond_t q6517 hc
          apply go
          apply go
          apply go
          apply go
          obtain ⟨y6548, q6549, q6517⟩ := bind_some q6517
          refine W.cut (γ := Bool) (fun g => [(0, (.int .i64 x5784)), (1, v5786), (5, (.int .i64 x6371)), (45, (.bool (g)))]) (fun g w' => y6548 = (g) ∧ Hp ⟨w0, I0, []⟩ I0 [] w' ∧ RepS dPair w' I0 v5786 x5785) ?_ ?_
          ·
            refine W.quiet (fun w' => Ch [] w6515 w') MX (by kernel_rfl) (Ch.drew [] w6515) ?_
            obtain ⟨x6550, q6551, q6549⟩ := bind_some q6549
            refine evq_index rfl rfl rfl Tryd.underlying22 T47 r5787 q6551 ?_
            intro p6552 c6553 d6554 a6555
            obtain rfl := dPair_o d6554
            refine evq0 (rn_field rfl rfl FO47_0) ?_
            refine evq (fun w' hw => rn_load rfl rfl (run_loadVar1 T3 ((a6555.step (hp.stp hw)).2 0 _ rfl))) ?_
            refine sel_of (fun hc => ?_) (fun hc => ?_)
            ·
              have q6549 := cond_t q6549 hc
              intro w6556 hc
              have hs := hp.stp hc
              replace hp := hp.ext hc
              replace r5787 := r5787.step hs
              obtain rfl := Option.some.inj q6549
              exact ⟨true, (.c rfl (.c rfl (.c rfl (.c rfl .n)))), rfl, hp, r5787⟩
            ·
              have q6549 := cond_f q6549 hc
              obtain ⟨x6557, q6558, q6549⟩ := bind_some q6549
              refine evq_index rfl rfl rfl Tryd.underlying22 T47 r5787 q6558 ?_
              intro p6559 c6560 d6561 a6562
              obtain rfl := dPair_o d6561
              refine evq0 (rn_field rfl rfl FO47_0) ?_
              refine evq (fun w' hw => rn_load rfl rfl (run_loadVar1 T3 ((a6562.step (hp.stp hw)).2 0 _ rfl))) ?_
              obtain ⟨x6563, q6564, q6549⟩ := bind_some q6549
              refine evq_index rfl rfl rfl Tryd.underlying22 T47 r5787 q6564 ?_
              intro p6565 c6566 d6567 a6568
              obtain rfl := dPair_o d6567
              refine evq0 (rn_field rfl rfl FO47_1) ?_
              refine evq (fun w' hw => rn_load rfl rfl (run_loadVar1 T3 ((a6568.step (hp.stp hw)).2 1 _ rfl))) ?_
              refine sel_of (fun hc => ?_) (fun hc => ?_)
              ·
                have q6549 := cond_t q6549 hc
                intro w6569 hc
                have hs := hp.stp hc
                replace hp := hp.ext hc
                replace r5787 := r5787.step hs
                replace a6562 := a6562.step hs
                replace a6568 := a6568.step hs
                obtain rfl := Option.some.inj q6549
                exact ⟨true, (.c rfl (.c rfl (.c rfl (.c rfl .n)))), rfl, hp, r5787⟩
              ·
                have q6549 := cond_f q6549 hc
                obtain ⟨x6570, q6571, q6549⟩ := bind_some q6549
                refine evq_index rfl rfl rfl Tryd.underlying22 T47 r5787 q6571 ?_
                intro p6572 c6573 d6574 a6575
                obtain rfl := dPair_o d6574
                refine evq0 (rn_field rfl rfl FO47_1) ?_
                refine evq (fun w' hw => rn_load rfl rfl (run_loadVar1 T3 ((a6575.step (hp.stp hw)).2 1 _ rfl))) ?_
                intro w6576 hc
                have hs := hp.stp hc
                replace hp := hp.ext hc
                replace r5787 := r5787.step hs
                replace a6562 := a6562.step hs
                replace a6568 := a6568.step hs
                replace a6575 := a6575.step hs
                obtain rfl := Option.some.inj q6549
                exact ⟨(decide (x6570.B ≥ x5784)), (.c rfl (.c rfl (.c rfl (.c rfl .n)))), rfl, hp, r5787⟩
          ·
            rintro x6546 w6547 ⟨hy, hp, r5787⟩
            replace hy := hy.symm
            subst hy
            apply go
            refine sel_of (fun hc => ?_) (fun hc => ?_)
            ·
              have q6517 := cond_t q6517 hc
              apply go
              apply go
              apply go
              have q6577 := congrArg some (q6518 _ (Option.some.inj q6517).symm)
              obtain rfl := Option.some.inj q6577
              obtain rfl := Option.some.inj h
              exact ⟨rfl, hp.ch⟩
            ·
              have q6517 := cond_f q6517 hc
              apply go
              obtain ⟨y6620, q6621, q6517⟩ := bind_some q6517
              refine W.cut (γ := Bool) (fun g => [(0, (.int .i64 x5784)), (1, v5786), (5, (.int .i64 x6371)), (89, (.bool (g)))]) (fun g w' => y6620 = (g) ∧ Hp ⟨w0, I0, []⟩ I0 [] w' ∧ RepS dPair w' I0 v5786 x5785) ?_ ?_
              ·
                refine W.quiet (fun w' => Ch [] w6547 w') MX (by kernel_rfl) (Ch.drew [] w6547) ?_
                refine sel_of (fun hc => ?_) (fun hc => ?_)
                ·
                  have q6621 := cond_t q6621 hc
                  obtain ⟨x6622, q6623, q6621⟩ := bind_some q6621
                  refine evq_index rfl rfl rfl Tryd.underlying22 T47 r5787 q6623 ?_
                  intro p6624 c6625 d6626 a6627
                  obtain rfl := dPair_o d6626
                  refine evq0 (rn_field rfl rfl FO47_0) ?_
                  refine evq (fun w' hw => rn_load rfl rfl (run_loadVar1 T3 ((a6627.step (hp.stp hw)).2 0 _ rfl))) ?_
                  obtain ⟨x6628, q6629, q6621⟩ := bind_some q6621
                  refine evq_index rfl rfl rfl Tryd.underlying22 T47 r5787 q6629 ?_
                  intro p6630 c6631 d6632 a6633
                  obtain rfl := dPair_o d6632
                  refine evq0 (rn_field rfl rfl FO47_0) ?_
                  refine evq (fun w' hw => rn_load rfl rfl (run_loadVar1 T3 ((a6633.step (hp.stp hw)).2 0 _ rfl))) ?_
                  refine sel_of (fun hc => ?_) (fun hc => ?_)
                  ·
                    have q6621 := cond_t q6621 hc
                    intro w6634 hc
                    have hs := hp.stp hc
                    replace hp := hp.ext hc
                    replace r5787 := r5787.step hs
                    replace a6627 := a6627.step hs
                    replace a6633 := a6633.step hs
                    obtain rfl := Option.some.inj q6621
                    exact ⟨true, (.c rfl (.c rfl (.c rfl (.c rfl .n)))), rfl, hp, r5787⟩
                  ·
                    have q6621 := cond_f q6621 hc
                    obtain ⟨x6635, q6636, q6621⟩ := bind_some q6621
                    refine evq_index rfl rfl rfl Tryd.underlying22 T47 r5787 q6636 ?_
                    intro p6637 c6638 d6639 a6640
                    obtain rfl := dPair_o d6639
                    refine evq0 (rn_field rfl rfl FO47_0) ?_
                    refine evq (fun w' hw => rn_load rfl rfl (run_loadVar1 T3 ((a6640.step (hp.stp hw)).2 0 _ rfl))) ?_
                    obtain ⟨x6641, q6642, q6621⟩ := bind_some q6621
                    refine evq_index rfl rfl rfl Tryd.underlying22 T47 r5787 q6642 ?_
                    intro p6643 c6644 d6645 a6646
                    obtain rfl := dPair_o d6645
                    refine evq0 (rn_field rfl rfl FO47_0) ?_
                    refine evq (fun w' hw => rn_load rfl rfl (run_loadVar1 T3 ((a6646.step (hp.stp hw)).2 0 _ rfl))) ?_
                    refine sel_of (fun hc => ?_) (fun hc => ?_)
                    ·
                      have q6621 := cond_t q6621 hc
                      obtain ⟨x6647, q6648, q6621⟩ := bind_some q6621
                      refine evq_index rfl rfl rfl Tryd.underlying22 T47 r5787 q6648 ?_
                      intro p6649 c6650 d6651 a6652
                      obtain rfl := dPair_o d6651
                      refine evq0 (rn_field rfl rfl FO47_1) ?_
                      refine evq (fun w' hw => rn_load rfl rfl (run_loadVar1 T3 ((a6652.step (hp.stp hw)).2 1 _ rfl))) ?_
                      obtain ⟨x6653, q6654, q6621⟩ := bind_some q6621
                      refine evq_index rfl rfl rfl Tryd.underlying22 T47 r5787 q6654 ?_
                      intro p6655 c6656 d6657 a6658
                      obtain rfl := dPair_o d6657
                      refine evq0 (rn_field rfl rfl FO47_1) ?_
                      refine evq (fun w' hw => rn_load rfl rfl (run_loadVar1 T3 ((a6658.step (hp.stp hw)).2 1 _ rfl))) ?_
                      intro w6659 hc
                      have hs := hp.stp hc
                      replace hp := hp.ext hc
                      replace r5787 := r5787.step hs
                      replace a6627 := a6627.step hs
                      replace a6633 := a6633.step hs
                      replace a6640 := a6640.step hs
                      replace a6646 := a6646.step hs
                      replace a6652 := a6652.step hs
                      replace a6658 := a6658.step hs
                      obtain rfl := Option.some.inj q6621
                      exact ⟨(decide (x6647.B ≤ x6653.B)), (.c rfl (.c rfl (.c rfl (.c rfl .n)))), rfl, hp, r5787⟩
                    ·
                      have q6621 := cond_f q6621 hc
                      intro w6660 hc
                      have hs := hp.stp hc
                      replace hp := hp.ext hc
                      replace r5787 := r5787.step hs
                      replace a6627 := a6627.step hs
                      replace a6633 := a6633.step hs
                      replace a6640 := a6640.step hs
                      replace a6646 := a6646.step hs
                      obtain rfl := Option.some.inj q6621
                      exact ⟨false, (.c rfl (.c rfl (.c rfl (.c rfl .n)))), rfl, hp, r5787⟩
                ·
                  have q6621 := cond_f q6621 hc
                  intro w6661 hc
                  have hs := hp.stp hc
                  replace hp := hp.ext hc
                  replace r5787 := r5787.step hs
                  obtain rfl := Option.some.inj q6621
                  exact ⟨false, (.c rfl (.c rfl (.c rfl (.c rfl .n)))), rfl, hp, r5787⟩
              ·
                rintro x6618 w6619 ⟨hy, hp, r5787⟩
                replace hy := hy.symm
                subst hy
                apply go
                refine sel_of (fun hc => ?_) (fun hc => ?_)
                ·
                  have q6517 := cond_t q6517 hc
                  apply go
                  apply go
                  apply go
                  have q6662 := congrArg some (q6518 _ (Option.some.inj q6517).symm)
                  obtain rfl := Option.some.inj q6662
                  obtain rfl := Option.some.inj h
                  exact ⟨rfl, hp.ch⟩
                ·
                  have q6517 := cond_f q6517 hc
                  apply go
                  apply go
                  exact ⟨_, (Option.some.inj q6517).symm, (), (.c rfl (.c rfl (.c rfl .n))), ⟨hp, r5787⟩⟩
        ·
          have q6517 := cond_f q6517 hc
          apply go
          have q6663 := congrArg some (q6518 _ (Option.some.inj q6517).symm)
          obtain rfl := Option.some.inj q6663
          exact ⟨(), .n, rfl, hp⟩
      ·
        rintro ⟨⟩ w6226 ⟨hy, hp⟩
        replace hy := hy.symm
        subst hy
        apply go
        apply go
        apply go
        obtain rfl := Option.some.inj h
        exact ⟨rfl, hp.ch⟩

end Go.Proofs.YtgmiencjoghnnaaDoor

namespace Go.Proofs.YtgmiencjoghnnaaDoor
open Go Go.Proofs.YtgmiencjoghnnaaDoor.Gw Go.RowKit
set_option linter.unusedVariables false
attribute [local irreducible] Ev EvQ EvS EvH
def ref26_Order_S (f : Int → (List Int) → Option Bool) : Prop := ∀ (w0 : World) (I0 : Nat → Prop) (x26530 : Int) (x26531 : (List Int)) (v26532 : Value) (r26533 : RepS (dI .i64) w0 I0 v26532 x26531) (hI : ∀ g, I0 g → g < w0.heap.size) (r : Bool), f x26530 x26531 = some r →
    Ret Tryd.prog 30 #[(.int .i64 x26530), v26532] w0 fun v w1 => v = (.bool r) ∧ Ch [] w0 w1
theorem ref26_Order_ok (n : Nat) : ref26_Order_S (ref26_Order n) := by
  intro w0 I0 x26530 x26531 v26532 r26533 hI r h
  unfold ref26_Order at h
  refine enter Tryd.func30 rfl (Nat.le_of_ble_eq_true rfl) ?_
  have hp : Hp ⟨w0, I0, []⟩ I0 [] w0 := Hp.start hI
  apply go
  apply go
  apply go
  apply go
  apply go
  refine ev0 (rn_len rfl rfl Tryd.underlying27 r26533) ?_
  apply go
  refine sel_of (fun hc => ?_) (fun hc => ?_)
  ·
    have h := cond_t h hc
    apply go
    apply go
    apply go
    obtain rfl := Option.some.inj h
    exact ⟨rfl, hp.ch⟩
  ·
    have h := cond_f h hc
    apply go
    obtain ⟨y27269, q27270, h⟩ := bind_some h
    refine W.cut (γ := Unit) (fun _ => []) (fun _ w' => y27269 = .go () ∧ w0 = w') ?_ ?_
    ·
      apply go
      apply go
      apply go
      refine W.loop q27270 (γ := Unit) (fun s _ => [(0, (.int .i64 x26530)), (1, v26532), (5, (.int .i64 (s)))]) (fun s _ w' => w0 = w') () (.c rfl (.c rfl (.c rfl .n))) rfl ?_
      rintro x27511 ⟨⟩ _ y27757 rfl q27758 q27759
      unfold ref26_Order_L21 at q27758
      apply go
      apply go
      apply go
      apply go
      refine sel_of (fun hc => ?_) (fun hc => ?_)
      ·
        have q27758 := cond_t q27758 hc
        apply go
        obtain ⟨y27881, q27882, q27758⟩ := bind_some q27758
        refine W.cut (γ := Unit) (fun _ => [(0, (.int .i64 x26530)), (1, v26532), (5, (.int .i64 x27511))]) (fun _ w' => y27881 = .go () ∧ w0 = w') ?_ ?_
        ·
          apply go
          apply go
          apply go
          obtain ⟨y27943, q27944, q27882⟩ := bind_some q27882
          refine W.cut (γ := Bool) (fun g => [(0, (.int .i64 x26530)), (1, v26532), (5, (.int .i64 x27511)), (6, (.bool (g)))]) (fun g w' => y27943 = (g) ∧ w0 = w') ?_ ?_
          ·
            apply go
            apply go
            apply go
            refine W.loop q27944 (γ := Unit) (fun s _ => [(0, (.int .i64 x26530)), (1, v26532), (5, (.int .i64 x27511)), (6, (.bool (s.1))), (7, (.int .i64 (s.2)))]) (fun s _ w' => w0 = w') () (.c rfl (.c rfl (.c rfl (.c rfl (.c rfl .n))))) rfl ?_
            rintro ⟨x27966, x27967⟩ ⟨⟩ _ y27985 rfl q27986 q27987
            unfold ref26_Order_L25 at q27986
            apply go
            apply go
            apply go
            apply go
            refine sel_of (fun hc => ?_) (fun hc => ?_)
            ·
              have q27986 := cond_t q27986 hc
              apply go
              obtain ⟨y27995, q27996, q27986⟩ := bind_some q27986
              refine W.cut (γ := Bool) (fun g => [(0, (.int .i64 x26530)), (1, v26532), (5, (.int .i64 x27511)), (6, (.bool (g))), (7, (.int .i64 x27967))]) (fun g w' => y27995 = (g) ∧ w0 = w') ?_ ?_
              ·
                apply go
                apply go
                refine sel_of (fun hc => ?_) (fun hc => ?_)
                ·
                  have q27996 := cond_t q27996 hc
                  obtain rfl := Option.some.inj q27996
                  exact ⟨true, (.c rfl (.c rfl (.c rfl (.c rfl (.c rfl .n))))), rfl, rfl⟩
                ·
                  have q27996 := cond_f q27996 hc
                  obtain ⟨x27997, q27998, q27996⟩ := bind_some q27996
                  refine ev_index rfl rfl rfl Tryd.underlying27 T3 r26533 q27998 ?_
                  intro p27999 c28000 d28001 a28002
                  obtain rfl : c28000 = [(.int .i64 x27997)] := d28001
                  refine ev (rn_load rfl rfl (run_loadVar1 T3 (a28002.2 0 _ rfl))) ?_
                  obtain rfl := Option.some.inj q27996
                  exact ⟨(x27997 == x27511), (.c rfl (.c rfl (.c rfl (.c rfl (.c rfl .n))))), rfl, rfl⟩
              ·
                rintro x27994 _ ⟨hy, rfl⟩
                replace hy := hy.symm
                subst hy
                apply go
                exact ⟨_, (Option.some.inj q27986).symm, (), (.c rfl (.c rfl (.c rfl (.c rfl (.c rfl .n))))), rfl⟩
            ·
              have q27986 := cond_f q27986 hc
              apply go
              have q28003 := congrArg some (q27987 _ (Option.some.inj q27986).symm)
              obtain rfl := Option.some.inj q28003
              exact ⟨x27966, (.c rfl (.c rfl (.c rfl (.c rfl .n)))), rfl, rfl⟩
          ·
            rintro x27942 _ ⟨hy, rfl⟩
            replace hy := hy.symm
            subst hy
            apply go
            apply go
            apply go
            refine sel_of (fun hc => ?_) (fun hc => ?_)
            ·
              have q27882 := cond_t q27882 hc
              apply go
              apply go
              apply go
              obtain rfl := Option.some.inj q27882
              have q28004 := congrArg some (q27759 _ (Option.some.inj q27758).symm)
              obtain rfl := Option.some.inj q28004
              obtain rfl := Option.some.inj h
              exact ⟨rfl, hp.ch⟩
            ·
              have q27882 := cond_f q27882 hc
              apply go
              obtain rfl := Option.some.inj q27882
              exact ⟨(), (.c rfl (.c rfl (.c rfl .n))), rfl, rfl⟩
        ·
          rintro ⟨⟩ _ ⟨hy, rfl⟩
          replace hy := hy.symm
          subst hy
          apply go
          exact ⟨_, (Option.some.inj q27758).symm, (), (.c rfl (.c rfl (.c rfl .n))), rfl⟩
      ·
        have q27758 := cond_f q27758 hc
        apply go
        have q28005 := congrArg some (q27759 _ (Option.some.inj q27758).symm)
        obtain rfl := Option.some.inj q28005
        exact ⟨(), .n, rfl, rfl⟩
    ·
      rintro ⟨⟩ _ ⟨hy, rfl⟩
      replace hy := hy.symm
      subst hy
      apply go
      apply go
      apply go
      obtain rfl := Option.some.inj h
      exact ⟨rfl, hp.ch⟩

end Go.Proofs.YtgmiencjoghnnaaDoor

namespace Go.Proofs.YtgmiencjoghnnaaDoor
open Go Go.Proofs.YtgmiencjoghnnaaDoor.Gw Go.RowKit
set_option linter.unusedVariables false
attribute [local irreducible] Ev EvQ EvS EvH
def ref26_check_S (f : Int → (List Pair) → (List Int) → Option Int) : Prop := ∀ (w0 : World) (I0 : Nat → Prop) (x28006 : Int) (x28007 : (List Pair)) (v28008 : Value) (r28009 : RepS dPair w0 I0 v28008 x28007) (x28010 : (List Int)) (v28011 : Value) (r28012 : RepS (dI .i64) w0 I0 v28011 x28010) (hI : ∀ g, I0 g → g < w0.heap.size) (r : Int), f x28006 x28007 x28010 = some r →
    Ret Tryd.prog 44 #[(.int .i64 x28006), v28008, v28011] w0 fun v w1 => v = (.int .i64 r) ∧ Ch [] w0 w1
theorem ref26_check_ok (n : Nat) : ref26_check_S (ref26_check n) := by
  intro w0 I0 x28006 x28007 v28008 r28009 x28010 v28011 r28012 hI r h
  unfold ref26_check at h
  refine enter Tryd.func44 rfl (Nat.le_of_ble_eq_true rfl) ?_
  have hp : Hp ⟨w0, I0, []⟩ I0 [] w0 := Hp.start hI
  apply go
  apply go
  apply go
  apply go
  apply go
  obtain ⟨x28013, q28014, h⟩ := bind_some h
  refine ev_call rfl rfl C29 (((ref26_Valid_ok n) _ _  x28006 x28007 v28008 r28009 hp.imm _ q28014).mono ?_)
  rintro _ w28015 ⟨rfl, hc⟩
  have hs := hp.stp hc
  replace hp := hp.ext hc
  replace r28012 := r28012.step hs
  apply go
  refine sel_of (fun hc => ?_) (fun hc => ?_)
  ·
    have h := cond_t h hc
    apply go
    apply go
    apply go
    obtain rfl := Option.some.inj h
    exact ⟨rfl, hp.ch⟩
  ·
    have h := cond_f h hc
    apply go
    apply go
    apply go
    apply go
    obtain ⟨x28016, q28017, h⟩ := bind_some h
    refine ev_call rfl rfl C30 (((ref26_Order_ok n) _ _  x28006 x28010 v28011 r28012 hp.imm _ q28017).mono ?_)
    rintro _ w28018 ⟨rfl, hc⟩
    have hs := hp.stp hc
    replace hp := hp.ext hc
    apply go
    refine sel_of (fun hc => ?_) (fun hc => ?_)
    ·
      have h := cond_t h hc
      apply go
      apply go
      apply go
      obtain rfl := Option.some.inj h
      exact ⟨rfl, hp.ch⟩
    ·
      have h := cond_f h hc
      apply go
      apply go
      apply go
      apply go
      obtain rfl := Option.some.inj h
      exact ⟨rfl, hp.ch⟩

end Go.Proofs.YtgmiencjoghnnaaDoor

namespace Go.Proofs.YtgmiencjoghnnaaDoor
open Go Go.Proofs.YtgmiencjoghnnaaDoor.Gw Go.RowKit
set_option linter.unusedVariables false
attribute [local irreducible] Ev EvQ EvS EvH
def ref26_place_S (f : (List Int) → Int → Option Int) : Prop := ∀ (w0 : World) (I0 : Nat → Prop) (x31104 : (List Int)) (v31105 : Value) (r31106 : RepS (dI .i64) w0 I0 v31105 x31104) (x31107 : Int) (hI : ∀ g, I0 g → g < w0.heap.size) (r : Int), f x31104 x31107 = some r →
    Ret Tryd.prog 46 #[v31105, (.int .i64 x31107)] w0 fun v w1 => v = (.int .i64 r) ∧ Ch [] w0 w1
theorem ref26_place_ok (n : Nat) : ref26_place_S (ref26_place n) := by
  intro w0 I0 x31104 v31105 r31106 x31107 hI r h
  unfold ref26_place at h
  refine enter Tryd.func46 rfl (Nat.le_of_ble_eq_true rfl) ?_
  have hp : Hp ⟨w0, I0, []⟩ I0 [] w0 := Hp.start hI
  apply go
  apply go
  obtain ⟨y31133, q31134, h⟩ := bind_some h
  refine W.cut (γ := Unit) (fun _ => []) (fun _ w' => y31133 = .go () ∧ w0 = w') ?_ ?_
  ·
    apply go
    apply go
    apply go
    refine W.loop q31134 (γ := Unit) (fun s _ => [(0, v31105), (1, (.int .i64 x31107)), (5, (.int .i64 (s)))]) (fun s _ w' => w0 = w') () (.c rfl (.c rfl (.c rfl .n))) rfl ?_
    rintro x31141 ⟨⟩ _ y31149 rfl q31150 q31151
    unfold ref26_place_L1 at q31150
    apply go
    apply go
    apply go
    refine ev0 (rn_len rfl rfl Tryd.underlying27 r31106) ?_
    apply go
    refine sel_of (fun hc => ?_) (fun hc => ?_)
    ·
      have q31150 := cond_t q31150 hc
      apply go
      apply go
      apply go
      apply go
      apply go
      obtain ⟨x31152, q31153, q31150⟩ := bind_some q31150
      refine ev_index rfl rfl rfl Tryd.underlying27 T3 r31106 q31153 ?_
      intro p31154 c31155 d31156 a31157
      obtain rfl : c31155 = [(.int .i64 x31152)] := d31156
      refine ev (rn_load rfl rfl (run_loadVar1 T3 (a31157.2 0 _ rfl))) ?_
      apply go
      refine sel_of (fun hc => ?_) (fun hc => ?_)
      ·
        have q31150 := cond_t q31150 hc
        apply go
        apply go
        apply go
        have q31158 := congrArg some (q31151 _ (Option.some.inj q31150).symm)
        obtain rfl := Option.some.inj q31158
        obtain rfl := Option.some.inj h
        exact ⟨rfl, hp.ch⟩
      ·
        have q31150 := cond_f q31150 hc
        apply go
        apply go
        exact ⟨_, (Option.some.inj q31150).symm, (), (.c rfl (.c rfl (.c rfl .n))), rfl⟩
    ·
      have q31150 := cond_f q31150 hc
      apply go
      have q31159 := congrArg some (q31151 _ (Option.some.inj q31150).symm)
      obtain rfl := Option.some.inj q31159
      exact ⟨(), .n, rfl, rfl⟩
  ·
    rintro ⟨⟩ _ ⟨hy, rfl⟩
    replace hy := hy.symm
    subst hy
    apply go
    apply go
    apply go
    obtain rfl := Option.some.inj h
    exact ⟨rfl, hp.ch⟩

end Go.Proofs.YtgmiencjoghnnaaDoor

namespace Go.Proofs.YtgmiencjoghnnaaDoor
open Go Go.Proofs.YtgmiencjoghnnaaDoor.Gw Go.RowKit
set_option linter.unusedVariables false
attribute [local irreducible] Ev EvQ EvS EvH
def ref26_Reaches_S (f : Int → (List Pair) → (List Int) → Int → Int → Option Bool) : Prop := ∀ (w0 : World) (I0 : Nat → Prop) (x31160 : Int) (x31161 : (List Pair)) (v31162 : Value) (r31163 : RepS dPair w0 I0 v31162 x31161) (x31164 : (List Int)) (v31165 : Value) (r31166 : RepS (dI .i64) w0 I0 v31165 x31164) (x31167 : Int) (x31168 : Int) (hI : ∀ g, I0 g → g < w0.heap.size) (r : Bool), f x31160 x31161 x31164 x31167 x31168 = some r →
    Ret Tryd.prog 20 #[(.int .i64 x31160), v31162, v31165, (.int .i64 x31167), (.int .i64 x31168)] w0 fun v w1 => v = (.bool r) ∧ Ch [] w0 w1
theorem ref26_Reaches_ok (n : Nat) : ref26_Reaches_S (ref26_Reaches n) := by
  intro w0 I0 x31160 x31161 v31162 r31163 x31164 v31165 r31166 x31167 x31168 hI r h
  unfold ref26_Reaches at h
  refine enter Tryd.func20 rfl (Nat.le_of_ble_eq_true rfl) ?_
  have hp : Hp ⟨w0, I0, []⟩ I0 [] w0 := Hp.start hI
  apply go
  apply go
  apply go
  obtain ⟨y31174, q31175, h⟩ := bind_some h
  refine W.cut (γ := Bool) (fun g => [(0, (.int .i64 x31160)), (1, v31162), (2, v31165), (3, (.int .i64 x31167)), (4, (.int .i64 x31168)), (44, (.bool (g)))]) (fun g w' => y31174 = (g) ∧ Hp ⟨w0, I0, []⟩ I0 [] w' ∧ RepS dPair w' I0 v31162 x31161 ∧ RepS (dI .i64) w' I0 v31165 x31164) ?_ ?_
  ·
    apply go
    obtain ⟨x31176, q31177, q31175⟩ := bind_some q31175
    refine ev_call rfl rfl C44 (((ref26_check_ok n) _ _  x31160 x31161 v31162 r31163 x31164 v31165 r31166 hp.imm _ q31177).mono ?_)
    rintro _ w31178 ⟨rfl, hc⟩
    have hs := hp.stp hc
    replace hp := hp.ext hc
    replace r31163 := r31163.step hs
    replace r31166 := r31166.step hs
    refine sel_of (fun hc => ?_) (fun hc => ?_)
    ·
      have q31175 := cond_t q31175 hc
      obtain rfl := Option.some.inj q31175
      exact ⟨true, (.c rfl (.c rfl (.c rfl (.c rfl (.c rfl (.c rfl .n)))))), rfl, hp, r31163, r31166⟩
    ·
      have q31175 := cond_f q31175 hc
      refine sel_of (fun hc => ?_) (fun hc => ?_)
      ·
        have q31175 := cond_t q31175 hc
        obtain rfl := Option.some.inj q31175
        exact ⟨true, (.c rfl (.c rfl (.c rfl (.c rfl (.c rfl (.c rfl .n)))))), rfl, hp, r31163, r31166⟩
      ·
        have q31175 := cond_f q31175 hc
        refine sel_of (fun hc => ?_) (fun hc => ?_)
        ·
          have q31175 := cond_t q31175 hc
          obtain rfl := Option.some.inj q31175
          exact ⟨true, (.c rfl (.c rfl (.c rfl (.c rfl (.c rfl (.c rfl .n)))))), rfl, hp, r31163, r31166⟩
        ·
          have q31175 := cond_f q31175 hc
          refine sel_of (fun hc => ?_) (fun hc => ?_)
          ·
            have q31175 := cond_t q31175 hc
            obtain rfl := Option.some.inj q31175
            exact ⟨true, (.c rfl (.c rfl (.c rfl (.c rfl (.c rfl (.c rfl .n)))))), rfl, hp, r31163, r31166⟩
          ·
            have q31175 := cond_f q31175 hc
            refine sel_of (fun hc => ?_) (fun hc => ?_)
            ·
              have q31175 := cond_t q31175 hc
              obtain rfl := Option.some.inj q31175
              exact ⟨true, (.c rfl (.c rfl (.c rfl (.c rfl (.c rfl (.c rfl .n)))))), rfl, hp, r31163, r31166⟩
            ·
              have q31175 := cond_f q31175 hc
              obtain rfl := Option.some.inj q31175
              exact ⟨(x31167 == x31168), (.c rfl (.c rfl (.c rfl (.c rfl (.c rfl (.c rfl .n)))))), rfl, hp, r31163, r31166⟩
  ·
    rintro x31172 w31173 ⟨hy, hp, r31163, r31166⟩
    replace hy := hy.symm
    subst hy
    apply go
    refine sel_of (fun hc => ?_) (fun hc => ?_)
    ·
      have h := cond_t h hc
      apply go
      apply go
      apply go
      obtain rfl := Option.some.inj h
      exact ⟨rfl, hp.ch⟩
    ·
      have h := cond_f h hc
      apply go
      apply go
      apply go
      obtain ⟨x31179, q31180, h⟩ := bind_some h
      refine ev_call rfl rfl C41 (((ref26_Table_ok n) _ _  x31160 x31161 v31162 r31163 hp.imm _ q31180).mono ?_)
      rintro _ w31181 ⟨I31182, v31183, hv, hq, r31184⟩
      replace hv := hv.symm
      subst hv
      have hs := hq.st
      have hp := hp.join0 hq
      replace r31166 := r31166.step hs
      refine ev_allocA (d := (dA 64 (dA 64 dB))) (x0 := (List.replicate 64 (List.replicate 64 false))) hp rfl T57 (fun _ _ => (rep_zero 64 (rep_zero 64 rfl))) ?_
      intro g31185 c31188 w31186 hp hs r31187
      replace r31166 := r31166.step hs
      replace r31184 := r31184.step hs
      refine ev_storeW (d := (dA 64 (dA 64 dB))) hp (i := 0) rfl rfl rfl rfl T57 rfl r31187 r31184 ?_
      intro w31189 hp hs r31190
      replace r31166 := r31166.step hs
      apply go
      apply go
      obtain ⟨x31191, q31192, h⟩ := bind_some h
      refine ev_call rfl rfl C46 (((ref26_place_ok n) _ _  x31164 v31165 r31166 x31167 hp.imm _ q31192).mono ?_)
      rintro _ w31193 ⟨rfl, hc⟩
      have hs := hp.stp hc
      replace hp := hp.ext hc
      replace r31166 := r31166.step hs
      replace r31190 := r31190.step hs
      obtain ⟨x31194, q31195, h⟩ := bind_some h
      refine ev_call rfl rfl C46 (((ref26_place_ok n) _ _  x31164 v31165 r31166 x31168 hp.imm _ q31195).mono ?_)
      rintro _ w31196 ⟨rfl, hc⟩
      have hs := hp.stp hc
      replace hp := hp.ext hc
      replace r31166 := r31166.step hs
      replace r31190 := r31190.step hs
      refine ev0 (rn_min rfl rfl rfl) ?_
      apply go
      apply go
      refine ev_allocA (d := (dA 64 dB)) (x0 := (List.replicate 64 false)) hp rfl T56 (fun _ _ => (rep_zero 64 rfl)) ?_
      intro g31197 c31200 w31198 hp hs r31199
      replace r31166 := r31166.step hs
      replace r31190 := r31190.step hs
      apply go
      apply go
      obtain ⟨x31201, q31202, h⟩ := bind_some h
      refine ev_indexA rfl rfl rfl Tryd.underlying56 T4 (SubA.top r31199) q31202 ?_
      refine ev_store1A hp (i := 0) rfl rfl rfl rfl T4 rfl ((SubA.top r31199).el q31202).1 ?_
      intro c31205 w31203 q31206 hp hs
      have r31204 : ((dA 64 dB)).rep w31203 I31182 c31205 (upd (List.replicate 64 false) x31167 true) := by subst q31206; exact PutA.rep (Desc.len _ r31199) (PutA.up (SubA.top (r31199.step hs)) q31202 (PutA.leaf ((SubA.top r31199).el q31202).1 rfl rfl))
      clear q31206
      replace r31166 := r31166.step hs
      replace r31190 := r31190.step hs
      apply go
      apply go
      refine ev_litON (d := (dI .i64)) (xs := [x31167]) (cs := [(.int .i64 x31167)]) hp rfl rfl Tryd.underlying27 T3 (by decide) (by decide) rfl rfl (Elems.cons (d := (dI .i64)) (xs := _) rfl (Elems.nil _ _ _ _)) ?_
      intro v31207 e31209 w31208 hp hs o31210
      replace o31210 := o31210.q
      replace r31166 := r31166.step hs
      replace r31204 := r31204.step hs
      replace r31190 := r31190.step hs
      obtain ⟨y32072, q32073, h⟩ := bind_some h
      refine W.cut (γ := (Nat → Prop)) (fun g => []) (fun g w' => y32072 = .go () ∧ Hp ⟨w0, I0, []⟩ (g) [] w') ?_ ?_
      ·
        apply go
        have hp := hp.perm [2, 1, 0] (by decide)
        refine W.loop q32073 (γ := ((List Value) × Value × Ent × (Nat → Prop))) (fun s g => [(0, (.int .i64 x31160)), (2, v31165), (4, (.int .i64 x31168)), (11, (.pointer (some ⟨g31185, 0, none⟩))), (12, (.int .i64 (if x31194 < x31191 then x31194 else x31191))), (13, (.pointer (some ⟨g31197, 0, none⟩))), (14, (g.2.1))]) (fun s g w' => Hp ⟨w0, I0, []⟩ (g.2.2.2) [some (g31185, v31183, 57), some (g31197, (g.1), 56), (g.2.2.1)] w' ∧ RepS (dI .i64) w' (g.2.2.2) v31165 x31164 ∧ (dA 64 (dA 64 dB)).rep w' (g.2.2.2) v31183 x31179 ∧ (dA 64 dB).rep w' (g.2.2.2) (g.1) (s.1) ∧ OwnQ (dI .i64) 3 w' (g.2.2.2) (g.2.1) (g.2.2.1) (s.2)) (c31205, v31207, e31209, I31182) (.c rfl (.c rfl (.c rfl (.c rfl (.c rfl (.c rfl (.c rfl .n))))))) ⟨hp, r31166, r31190, r31204, o31210⟩ ?_
        rintro ⟨x32353, x32356⟩ ⟨c32354, v32357, e32358, I32360⟩ w32648 y32649 ⟨hp, r31166, r31190, r32355, o32359⟩ q32650 q32651
        unfold ref26_Reaches_L6 at q32650
        apply go
        apply go
        apply go
        refine ev0 (x_lenQ rfl rfl Tryd.underlying27 o32359) ?_
        apply go
        refine sel_of (fun hc => ?_) (fun hc => ?_)
        ·
          have q32650 := cond_t q32650 hc
          apply go
          apply go
          apply go
          apply go
          obtain ⟨x32652, q32653, q32650⟩ := bind_some q32650
          refine ev_indexQ rfl rfl rfl Tryd.underlying27 T3 o32359 q32653 ?_
          intro g32654 c32655 l32657 h32658 d32656
          refine ev (rn_load rfl rfl (run_loadVar1 T3 (hp.cellE (i := 2) rfl h32658 d32656 (j := 0) rfl))) ?_
          apply go
          apply go
          obtain ⟨x32660, q32661, q32650⟩ := bind_some q32650
          refine ev_sliceQ (kl := .i64) (kh := .i64) rfl rfl rfl rfl Tryd.underlying27 T3 o32359 q32661 ?_
          intro v32662 o32663
          apply go
          apply go
          apply go
          refine W.loop q32650 (γ := ((List Value) × Value × Ent × (Nat → Prop))) (fun s g => [(0, (.int .i64 x31160)), (2, v31165), (4, (.int .i64 x31168)), (11, (.pointer (some ⟨g31185, 0, none⟩))), (12, (.int .i64 (if x31194 < x31191 then x31194 else x31191))), (13, (.pointer (some ⟨g31197, 0, none⟩))), (14, (g.2.1)), (15, (.int .i64 x32652)), (16, (.int .i64 (s.2.2)))]) (fun s g w' => Hp ⟨w0, I0, []⟩ (g.2.2.2) [some (g31185, v31183, 57), some (g31197, (g.1), 56), (g.2.2.1)] w' ∧ RepS (dI .i64) w' (g.2.2.2) v31165 x31164 ∧ (dA 64 (dA 64 dB)).rep w' (g.2.2.2) v31183 x31179 ∧ (dA 64 dB).rep w' (g.2.2.2) (g.1) (s.1) ∧ OwnQ (dI .i64) 3 w' (g.2.2.2) (g.2.1) (g.2.2.1) (s.2.1)) (c32354, v32662, e32358, I32360) (.c rfl (.c rfl (.c rfl (.c rfl (.c rfl (.c rfl (.c rfl (.c rfl (.c rfl .n))))))))) ⟨hp, r31166, r31190, r32355, o32663⟩ ?_
          rintro ⟨x32745, x32748, x32752⟩ ⟨c32746, v32749, e32750, I32753⟩ w32844 y32845 ⟨hp, r31166, r31190, r32747, o32751⟩ q32846 q32847
          unfold ref26_Reaches_L7 at q32846
          apply go
          apply go
          apply go
          apply go
          refine sel_of (fun hc => ?_) (fun hc => ?_)
          ·
            have q32846 := cond_t q32846 hc
            apply go
            obtain ⟨y32892, q32893, q32846⟩ := bind_some q32846
            refine W.cut (γ := ((List Bool) × (List Int) × (List Value) × Value × Ent × (Nat → Prop))) (fun g => [(0, (.int .i64 x31160)), (2, v31165), (4, (.int .i64 x31168)), (11, (.pointer (some ⟨g31185, 0, none⟩))), (12, (.int .i64 (if x31194 < x31191 then x31194 else x31191))), (13, (.pointer (some ⟨g31197, 0, none⟩))), (14, (g.2.2.2.1)), (15, (.int .i64 x32652)), (16, (.int .i64 x32752))]) (fun g w' => y32892 = .go ((g.1), (g.2.1)) ∧ Hp ⟨w0, I0, []⟩ (g.2.2.2.2.2) [some (g31185, v31183, 57), some (g31197, (g.2.2.1), 56), (g.2.2.2.2.1)] w' ∧ RepS (dI .i64) w' (g.2.2.2.2.2) v31165 x31164 ∧ (dA 64 (dA 64 dB)).rep w' (g.2.2.2.2.2) v31183 x31179 ∧ (dA 64 dB).rep w' (g.2.2.2.2.2) (g.2.2.1) (g.1) ∧ OwnQ (dI .i64) 3 w' (g.2.2.2.2.2) (g.2.2.2.1) (g.2.2.2.2.1) (g.2.1)) ?_ ?_
            ·
              apply go
              apply go
              obtain ⟨y32901, q32902, q32893⟩ := bind_some q32893
              refine W.cut (γ := Bool) (fun g => [(0, (.int .i64 x31160)), (2, v31165), (4, (.int .i64 x31168)), (11, (.pointer (some ⟨g31185, 0, none⟩))), (12, (.int .i64 (if x31194 < x31191 then x31194 else x31191))), (13, (.pointer (some ⟨g31197, 0, none⟩))), (14, v32749), (15, (.int .i64 x32652)), (16, (.int .i64 x32752)), (82, (.bool (g)))]) (fun g w' => y32901 = (g) ∧ w32844 = w') ?_ ?_
              ·
                apply go
                obtain ⟨x32903, q32904, q32902⟩ := bind_some q32902
                refine ev_indexA rfl rfl rfl Tryd.underlying57 T56 (SubA.top r31190) q32904 ?_
                obtain ⟨x32905, q32906, q32902⟩ := bind_some q32902
                refine ev_indexA rfl rfl rfl Tryd.underlying56 T4 ((SubA.top r31190).el q32904) q32906 ?_
                refine ev (rn_load rfl rfl (run_loadVar1 T4 (hp.cell (i := 0) rfl (((SubA.top r31190).el q32904).el q32906).bool))) ?_
                refine sel_of (fun hc => ?_) (fun hc => ?_)
                ·
                  have q32902 := cond_t q32902 hc
                  obtain rfl := Option.some.inj q32902
                  exact ⟨true, (.c rfl (.c rfl (.c rfl (.c rfl (.c rfl (.c rfl (.c rfl (.c rfl (.c rfl (.c rfl .n)))))))))), rfl, rfl⟩
                ·
                  have q32902 := cond_f q32902 hc
                  obtain ⟨x32907, q32908, q32902⟩ := bind_some q32902
                  refine ev_indexA rfl rfl rfl Tryd.underlying56 T4 (SubA.top r32747) q32908 ?_
                  refine ev (rn_load rfl rfl (run_loadVar1 T4 (hp.cell (i := 1) rfl ((SubA.top r32747).el q32908).bool))) ?_
                  obtain rfl := Option.some.inj q32902
                  exact ⟨x32907, (.c rfl (.c rfl (.c rfl (.c rfl (.c rfl (.c rfl (.c rfl (.c rfl (.c rfl (.c rfl .n)))))))))), rfl, rfl⟩
              ·
                rintro x32900 _ ⟨hy, rfl⟩
                replace hy := hy.symm
                subst hy
                apply go
                refine sel_of (fun hc => ?_) (fun hc => ?_)
                ·
                  have q32893 := cond_t q32893 hc
                  apply go
                  obtain rfl := Option.some.inj q32893
                  exact ⟨(x32745, x32748, c32746, v32749, e32750, I32753), (.c rfl (.c rfl (.c rfl (.c rfl (.c rfl (.c rfl (.c rfl (.c rfl (.c rfl .n))))))))), rfl, hp, r31166, r31190, r32747, o32751⟩
                ·
                  have q32893 := cond_f q32893 hc
                  apply go
                  apply go
                  apply go
                  apply go
                  apply go
                  refine sel_of (fun hc => ?_) (fun hc => ?_)
                  ·
                    have q32893 := cond_t q32893 hc
                    apply go
                    apply go
                    apply go
                    obtain rfl := Option.some.inj q32893
                    have q32909 := congrArg some (q32847 _ (Option.some.inj q32846).symm)
                    have q32910 := congrArg some (q32651 _ (Option.some.inj q32909).symm)
                    obtain rfl := Option.some.inj q32910
                    obtain rfl := Option.some.inj h
                    exact ⟨rfl, hp.ch⟩
                  ·
                    have q32893 := cond_f q32893 hc
                    apply go
                    apply go
                    apply go
                    obtain ⟨x32911, q32912, q32893⟩ := bind_some q32893
                    refine ev_call rfl rfl C46 (((ref26_place_ok n) _ _  x31164 v31165 r31166 x32752 hp.imm _ q32912).mono ?_)
                    rintro _ w32913 ⟨rfl, hc⟩
                    have hs := hp.stp hc
                    replace hp := hp.ext hc
                    replace r31166 := r31166.step hs
                    replace o32751 := o32751.step hs
                    replace r31190 := r31190.step hs
                    replace r32747 := r32747.step hs
                    apply go
                    refine sel_of (fun hc => ?_) (fun hc => ?_)
                    ·
                      have q32893 := cond_t q32893 hc
                      apply go
                      apply go
                      obtain ⟨x32914, q32915, q32893⟩ := bind_some q32893
                      refine ev_indexA rfl rfl rfl Tryd.underlying56 T4 (SubA.top r32747) q32915 ?_
                      refine ev_store1A hp (i := 1) rfl rfl rfl rfl T4 rfl ((SubA.top r32747).el q32915).1 ?_
                      intro c32918 w32916 q32919 hp hs
                      have r32917 : ((dA 64 dB)).rep w32916 I32753 c32918 (upd x32745 x32752 true) := by subst q32919; exact PutA.rep (Desc.len _ r32747) (PutA.up (SubA.top (r32747.step hs)) q32915 (PutA.leaf ((SubA.top r32747).el q32915).1 rfl rfl))
                      clear q32919
                      replace r31166 := r31166.step hs
                      replace o32751 := o32751.step hs
                      replace r31190 := r31190.step hs
                      apply go
                      refine ev_litON (d := (dI .i64)) (xs := [x32752]) (cs := [(.int .i64 x32752)]) hp rfl rfl Tryd.underlying27 T3 (by decide) (by decide) rfl rfl (Elems.cons (d := (dI .i64)) (xs := _) rfl (Elems.nil _ _ _ _)) ?_
                      intro v32920 e32922 w32921 hp hs o32923
                      replace o32923 := o32923.q
                      replace r31166 := r31166.step hs
                      replace o32751 := o32751.step hs
                      replace r31190 := r31190.step hs
                      replace r32917 := r32917.step hs
                      have r32924 := o32923.frz hp (i := 0) rfl
                      obtain ⟨hp, hs⟩ := freeze_hp hp (i := 0) rfl
                      replace r31166 := r31166.step hs
                      replace o32751 := o32751.step hs
                      replace r31190 := r31190.step hs
                      replace r32917 := r32917.step hs
                      have hp := hp.sel [1, 2, 3] (by decide)
                      obtain ⟨x32925, q32926, q32893⟩ := bind_some q32893
                      refine ev_appendQ hp (i := 2) rfl rfl rfl rfl Tryd.underlying27 T3 rfl rfl o32751 r32924 q32926 ?_
                      rintro v32927 e32928 w32929 hp hs o32930
                      replace r31166 := r31166.step hs
                      replace r31190 := r31190.step hs
                      replace r32917 := r32917.step hs
                      obtain rfl := Option.some.inj q32893
                      exact ⟨((upd x32745 x32752 true), x32925, c32918, v32927, e32928, (Ad I32753 e32922)), (.c rfl (.c rfl (.c rfl (.c rfl (.c rfl (.c rfl (.c rfl (.c rfl (.c rfl .n))))))))), rfl, hp, r31166, r31190, r32917, o32930⟩
                    ·
                      have q32893 := cond_f q32893 hc
                      apply go
                      obtain rfl := Option.some.inj q32893
                      exact ⟨(x32745, x32748, c32746, v32749, e32750, I32753), (.c rfl (.c rfl (.c rfl (.c rfl (.c rfl (.c rfl (.c rfl (.c rfl (.c rfl .n))))))))), rfl, hp, r31166, r31190, r32747, o32751⟩
            ·
              rintro ⟨x32883, x32886, c32884, v32887, e32888, I32890⟩ w32891 ⟨hy, hp, r31166, r31190, r32885, o32889⟩
              replace hy := hy.symm
              subst hy
              apply go
              exact ⟨_, (Option.some.inj q32846).symm, (c32884, v32887, e32888, I32890), (.c rfl (.c rfl (.c rfl (.c rfl (.c rfl (.c rfl (.c rfl (.c rfl (.c rfl .n))))))))), ⟨hp, r31166, r31190, r32885, o32889⟩⟩
          ·
            have q32846 := cond_f q32846 hc
            apply go
            have q32931 := congrArg some (q32847 _ (Option.some.inj q32846).symm)
            exact ⟨_, (Option.some.inj q32931).symm, (c32746, v32749, e32750, I32753), (.c rfl (.c rfl (.c rfl (.c rfl (.c rfl (.c rfl (.c rfl .n))))))), ⟨hp, r31166, r31190, r32747, o32751⟩⟩
        ·
          have q32650 := cond_f q32650 hc
          apply go
          have q32932 := congrArg some (q32651 _ (Option.some.inj q32650).symm)
          obtain rfl := Option.some.inj q32932
          have hp := hp.sel [] (by decide)
          exact ⟨I32360, .n, rfl, hp⟩
      ·
        rintro I32070 w32071 ⟨hy, hp⟩
        replace hy := hy.symm
        subst hy
        apply go
        apply go
        apply go
        obtain rfl := Option.some.inj h
        exact ⟨rfl, hp.ch⟩

end Go.Proofs.YtgmiencjoghnnaaDoor

namespace Go.Proofs.YtgmiencjoghnnaaDoor
open Go Go.Proofs.YtgmiencjoghnnaaDoor.Gw Go.RowKit
set_option linter.unusedVariables false
attribute [local irreducible] Ev EvQ EvS EvH
def ordering_Reaches_S (f : Int → (List Pair) → (List Int) → Int → Int → Option Bool) : Prop := ∀ (w0 : World) (I0 : Nat → Prop) (tb : At w0 I0 ⟨0, 0, none⟩ (tab64.map (.int .u8))) (x32933 : Int) (x32934 : (List Pair)) (v32935 : Value) (r32936 : RepS dPair w0 I0 v32935 x32934) (x32937 : (List Int)) (v32938 : Value) (r32939 : RepS (dI .i64) w0 I0 v32938 x32937) (x32940 : Int) (x32941 : Int) (hI : ∀ g, I0 g → g < w0.heap.size) (r : Bool), f x32933 x32934 x32937 x32940 x32941 = some r →
    Ret Tryd.prog 21 #[(.int .i64 x32933), v32935, v32938, (.int .i64 x32940), (.int .i64 x32941)] w0 fun v w1 => v = (.bool r) ∧ Ch [] w0 w1
theorem ordering_Reaches_ok (n : Nat) : ordering_Reaches_S (ordering_Reaches n) := by
  intro w0 I0 tb x32933 x32934 v32935 r32936 x32937 v32938 r32939 x32940 x32941 hI r h
  unfold ordering_Reaches at h
  refine enter Tryd.func21 rfl (Nat.le_of_ble_eq_true rfl) ?_
  have hp : Hp ⟨w0, I0, []⟩ I0 [] w0 := Hp.start hI
  apply go
  apply go
  apply go
  obtain ⟨y32950, q32951, h⟩ := bind_some h
  refine W.cut (γ := Bool) (fun g => [(0, (.int .i64 x32933)), (1, v32935), (2, v32938), (3, (.int .i64 x32940)), (4, (.int .i64 x32941)), (51, (.bool (g)))]) (fun g w' => y32950 = (g) ∧ Hp ⟨w0, I0, []⟩ I0 [] w' ∧ RepS dPair w' I0 v32935 x32934 ∧ RepS (dI .i64) w' I0 v32938 x32937 ∧ At w' I0 ⟨0, 0, none⟩ (tab64.map (.int .u8))) ?_ ?_
  ·
    apply go
    obtain ⟨x32952, q32953, q32951⟩ := bind_some q32951
    refine ev_call rfl rfl C34 (((ordering_Valid_ok n) _ _  x32933 x32934 v32935 r32936 hp.imm _ q32953).mono ?_)
    rintro _ w32954 ⟨rfl, hc⟩
    have hs := hp.stp hc
    replace hp := hp.ext hc
    replace r32936 := r32936.step hs
    replace r32939 := r32939.step hs
    replace tb := tb.step hs
    refine sel_of (fun hc => ?_) (fun hc => ?_)
    ·
      have q32951 := cond_t q32951 hc
      obtain rfl := Option.some.inj q32951
      exact ⟨true, (.c rfl (.c rfl (.c rfl (.c rfl (.c rfl (.c rfl .n)))))), rfl, hp, r32936, r32939, tb⟩
    ·
      have q32951 := cond_f q32951 hc
      obtain ⟨x32955, q32956, q32951⟩ := bind_some q32951
      refine ev_call rfl rfl C47 (((ordering_permutation_ok n) _ _  x32933 x32937 v32938 r32939 hp.imm _ q32956).mono ?_)
      rintro _ w32957 ⟨rfl, hc⟩
      have hs := hp.stp hc
      replace hp := hp.ext hc
      replace r32936 := r32936.step hs
      replace r32939 := r32939.step hs
      replace tb := tb.step hs
      refine sel_of (fun hc => ?_) (fun hc => ?_)
      ·
        have q32951 := cond_t q32951 hc
        obtain rfl := Option.some.inj q32951
        exact ⟨true, (.c rfl (.c rfl (.c rfl (.c rfl (.c rfl (.c rfl .n)))))), rfl, hp, r32936, r32939, tb⟩
      ·
        have q32951 := cond_f q32951 hc
        refine sel_of (fun hc => ?_) (fun hc => ?_)
        ·
          have q32951 := cond_t q32951 hc
          obtain rfl := Option.some.inj q32951
          exact ⟨true, (.c rfl (.c rfl (.c rfl (.c rfl (.c rfl (.c rfl .n)))))), rfl, hp, r32936, r32939, tb⟩
        ·
          have q32951 := cond_f q32951 hc
          refine sel_of (fun hc => ?_) (fun hc => ?_)
          ·
            have q32951 := cond_t q32951 hc
            obtain rfl := Option.some.inj q32951
            exact ⟨true, (.c rfl (.c rfl (.c rfl (.c rfl (.c rfl (.c rfl .n)))))), rfl, hp, r32936, r32939, tb⟩
          ·
            have q32951 := cond_f q32951 hc
            refine sel_of (fun hc => ?_) (fun hc => ?_)
            ·
              have q32951 := cond_t q32951 hc
              obtain rfl := Option.some.inj q32951
              exact ⟨true, (.c rfl (.c rfl (.c rfl (.c rfl (.c rfl (.c rfl .n)))))), rfl, hp, r32936, r32939, tb⟩
            ·
              have q32951 := cond_f q32951 hc
              refine sel_of (fun hc => ?_) (fun hc => ?_)
              ·
                have q32951 := cond_t q32951 hc
                obtain rfl := Option.some.inj q32951
                exact ⟨true, (.c rfl (.c rfl (.c rfl (.c rfl (.c rfl (.c rfl .n)))))), rfl, hp, r32936, r32939, tb⟩
              ·
                have q32951 := cond_f q32951 hc
                obtain rfl := Option.some.inj q32951
                exact ⟨(x32940 == x32941), (.c rfl (.c rfl (.c rfl (.c rfl (.c rfl (.c rfl .n)))))), rfl, hp, r32936, r32939, tb⟩
  ·
    rintro x32948 w32949 ⟨hy, hp, r32936, r32939, tb⟩
    replace hy := hy.symm
    subst hy
    apply go
    refine sel_of (fun hc => ?_) (fun hc => ?_)
    ·
      have h := cond_t h hc
      apply go
      apply go
      apply go
      obtain rfl := Option.some.inj h
      exact ⟨rfl, hp.ch⟩
    ·
      have h := cond_f h hc
      apply go
      apply go
      apply go
      obtain ⟨x32958, q32959, h⟩ := bind_some h
      refine ev_call rfl rfl C36 (((ordering_build_ok n) _ _  x32933 x32934 v32935 r32936 hp.imm _ q32959).mono ?_)
      rintro _ w32960 ⟨I32961, v32962, e32963, hv, hq, o32964⟩
      replace hv := hv.symm
      subst hv
      have hs := hq.st
      have hp := hp.join0 hq
      replace r32939 := r32939.step hs
      replace tb := tb.step hs
      apply go
      apply go
      obtain ⟨y33005, q33006, h⟩ := bind_some h
      refine W.cut (γ := Int) (fun g => [(3, (.int .i64 x32940)), (4, (.int .i64 x32941)), (11, v32962), (12, (.int .u64 (g)))]) (fun g w' => y33005 = (g) ∧ w32960 = w') ?_ ?_
      ·
        apply go
        apply go
        refine ev0 (rn_len rfl rfl Tryd.underlying27 r32939) ?_
        apply go
        refine W.loop q33006 (γ := Unit) (fun s _ => [(3, (.int .i64 x32940)), (4, (.int .i64 x32941)), (11, v32962), (12, (.int .u64 (s.1))), (55, v32938), (56, (.int .i64 (x32937.length : Int))), (57, (.int .i64 (s.2)))]) (fun s _ w' => w32960 = w') () (.c rfl (.c rfl (.c rfl (.c rfl (.c rfl (.c rfl (.c rfl .n))))))) rfl ?_
        rintro ⟨x33017, x33018⟩ ⟨⟩ _ y33031 rfl q33032 q33033
        unfold ordering_Reaches_L1 at q33032
        apply go
        apply go
        apply go
        apply go
        refine sel_of (fun hc => ?_) (fun hc => ?_)
        ·
          have q33032 := cond_t q33032 hc
          apply go
          apply go
          apply go
          apply go
          apply go
          obtain ⟨x33034, q33035, q33032⟩ := bind_some q33032
          refine ev_index rfl rfl rfl Tryd.underlying27 T3 r32939 q33035 ?_
          intro p33036 c33037 d33038 a33039
          obtain rfl : c33037 = [(.int .i64 x33034)] := d33038
          refine ev (rn_load rfl rfl (run_loadVar1 T3 (a33039.2 0 _ rfl))) ?_
          apply go
          obtain ⟨y33041, q33042, q33032⟩ := bind_some q33032
          refine W.cut (γ := Bool) (fun g => [(3, (.int .i64 x32940)), (4, (.int .i64 x32941)), (11, v32962), (12, (.int .u64 x33017)), (14, (.int .i64 x33034)), (55, v32938), (56, (.int .i64 (x32937.length : Int))), (57, (.int .i64 x33018)), (68, (.bool (g)))]) (fun g w' => y33041 = (g) ∧ w32960 = w') ?_ ?_
          ·
            apply go
            refine sel_of (fun hc => ?_) (fun hc => ?_)
            ·
              have q33042 := cond_t q33042 hc
              obtain rfl := Option.some.inj q33042
              exact ⟨true, (.c rfl (.c rfl (.c rfl (.c rfl (.c rfl (.c rfl (.c rfl (.c rfl (.c rfl .n))))))))), rfl, rfl⟩
            ·
              have q33042 := cond_f q33042 hc
              obtain rfl := Option.some.inj q33042
              exact ⟨(x33034 == x32941), (.c rfl (.c rfl (.c rfl (.c rfl (.c rfl (.c rfl (.c rfl (.c rfl (.c rfl .n))))))))), rfl, rfl⟩
          ·
            rintro x33040 _ ⟨hy, rfl⟩
            replace hy := hy.symm
            subst hy
            apply go
            refine sel_of (fun hc => ?_) (fun hc => ?_)
            ·
              have q33032 := cond_t q33032 hc
              apply go
              have q33043 := congrArg some (q33033 _ (Option.some.inj q33032).symm)
              obtain rfl := Option.some.inj q33043
              exact ⟨x33017, (.c rfl (.c rfl (.c rfl (.c rfl .n)))), rfl, rfl⟩
            ·
              have q33032 := cond_f q33032 hc
              apply go
              apply go
              obtain ⟨q33044, _, q33032⟩ := need_some q33032
              refine ⟨q33044, ?_⟩
              apply go
              exact ⟨_, (Option.some.inj q33032).symm, (), (.c rfl (.c rfl (.c rfl (.c rfl (.c rfl (.c rfl (.c rfl .n))))))), rfl⟩
        ·
          have q33032 := cond_f q33032 hc
          apply go
          have q33045 := congrArg some (q33033 _ (Option.some.inj q33032).symm)
          obtain rfl := Option.some.inj q33045
          exact ⟨x33017, (.c rfl (.c rfl (.c rfl (.c rfl .n)))), rfl, rfl⟩
      ·
        rintro x33004 _ ⟨hy, rfl⟩
        replace hy := hy.symm
        subst hy
        apply go
        refine W.quiet (fun w' => Ch [] w32960 w') MX (by kernel_rfl) (Ch.drew [] w32960) ?_
        obtain ⟨q33046, _, h⟩ := need_some h
        refine ⟨q33046, ?_⟩
        obtain ⟨q33047, _, h⟩ := need_some h
        refine ⟨q33047, ?_⟩
        intro w33048 hc
        have hs := hp.stp hc
        replace hp := hp.ext hc
        replace o32964 := o32964.step hs
        replace tb := tb.step hs
        obtain ⟨y33120, q33121, h⟩ := bind_some h
        refine W.cut (γ := Unit) (fun _ => []) (fun _ w' => y33120 = .go () ∧ Hp ⟨w0, I0, []⟩ I32961 [] w' ∧ At w' I32961 ⟨0, 0, none⟩ (tab64.map (.int .u8))) ?_ ?_
        ·
          apply go
          refine W.loop q33121 (γ := Unit) (fun s _ => [(4, (.int .i64 x32941)), (11, v32962), (12, (.int .u64 x33004)), (15, (.int .u64 (s.1))), (16, (.int .u64 (s.2)))]) (fun s _ w' => Hp ⟨w0, I0, []⟩ I32961 [e32963] w' ∧ OwnS (dI .u64) 52 w' I32961 v32962 e32963 x32958 ∧ At w' I32961 ⟨0, 0, none⟩ (tab64.map (.int .u8))) () (.c rfl (.c rfl (.c rfl (.c rfl (.c rfl .n))))) ⟨hp, o32964, tb⟩ ?_
          rintro ⟨x33142, x33143⟩ ⟨⟩ w33166 y33167 ⟨hp, o32964, tb⟩ q33168 q33169
          unfold ordering_Reaches_L3 at q33168
          apply go
          apply go
          apply go
          apply go
          refine sel_of (fun hc => ?_) (fun hc => ?_)
          ·
            have q33168 := cond_t q33168 hc
            apply go
            apply go
            apply go
            apply go
            obtain ⟨x33170, q33171, q33168⟩ := bind_some q33168
            refine ev_call rfl rfl C38 (((bits_TrailingZeros64_ok n) _ _ tb x33143 hp.imm _ q33171).mono ?_)
            rintro _ w33172 ⟨rfl, hc⟩
            have hs := hp.stp hc
            replace hp := hp.ext hc
            replace o32964 := o32964.step hs
            replace tb := tb.step hs
            apply go
            apply go
            apply go
            apply go
            apply go
            obtain ⟨x33173, q33174, q33168⟩ := bind_some q33168
            refine ev_indexO rfl rfl rfl Tryd.underlying50 T52 o32964 q33174 ?_
            intro g33175 c33176 h33179 d33177 l33178
            refine ev (rn_load rfl rfl (run_loadVar1 T52 (hp.cellE (i := 0) rfl h33179 d33177 (j := 0) rfl))) ?_
            obtain ⟨q33181, _, q33168⟩ := need_some q33168
            refine ⟨q33181, ?_⟩
            apply go
            refine sel_of (fun hc => ?_) (fun hc => ?_)
            ·
              have q33168 := cond_t q33168 hc
              apply go
              apply go
              apply go
              have q33182 := congrArg some (q33169 _ (Option.some.inj q33168).symm)
              obtain rfl := Option.some.inj q33182
              obtain rfl := Option.some.inj h
              exact ⟨rfl, hp.ch⟩
            ·
              have q33168 := cond_f q33168 hc
              apply go
              apply go
              apply go
              obtain ⟨x33183, q33184, q33168⟩ := bind_some q33168
              refine ev_indexO rfl rfl rfl Tryd.underlying50 T52 o32964 q33184 ?_
              intro g33185 c33186 h33189 d33187 l33188
              refine ev (rn_load rfl rfl (run_loadVar1 T52 (hp.cellE (i := 0) rfl h33189 d33187 (j := 0) rfl))) ?_
              apply go
              apply go
              apply go
              exact ⟨_, (Option.some.inj q33168).symm, (), (.c rfl (.c rfl (.c rfl (.c rfl (.c rfl .n))))), ⟨hp, o32964, tb⟩⟩
          ·
            have q33168 := cond_f q33168 hc
            apply go
            have q33191 := congrArg some (q33169 _ (Option.some.inj q33168).symm)
            obtain rfl := Option.some.inj q33191
            have hp := hp.sel [] (by decide)
            exact ⟨(), .n, rfl, hp, tb⟩
        ·
          rintro ⟨⟩ w33119 ⟨hy, hp, tb⟩
          replace hy := hy.symm
          subst hy
          apply go
          apply go
          apply go
          obtain rfl := Option.some.inj h
          exact ⟨rfl, hp.ch⟩

end Go.Proofs.YtgmiencjoghnnaaDoor

namespace Go.Proofs.YtgmiencjoghnnaaDoor
open Go Go.Proofs.YtgmiencjoghnnaaDoor.Gw Go.RowKit
set_option linter.unusedVariables false
attribute [local irreducible] Ev EvQ EvS EvH
def law26_OrderingReaches_S (f : Graph → (List Int) → (List Int) → Option Bool) : Prop := ∀ (w0 : World) (I0 : Nat → Prop) (tb : At w0 I0 ⟨0, 0, none⟩ (tab64.map (.int .u8))) (x33192 : Graph) (v33193 : Value) (r33194 : RepS dPair w0 I0 v33193 x33192.E) (x33195 : (List Int)) (v33196 : Value) (r33197 : RepS (dI .i64) w0 I0 v33196 x33195) (x33198 : (List Int)) (v33199 : List Value) (r33200 : (dA 2 (dI .i64)).rep w0 I0 v33199 x33198) (hI : ∀ g, I0 g → g < w0.heap.size) (r : Bool), f x33192 x33195 x33198 = some r →
    Ret Tryd.prog 5 #[(.agg #[(.int .i64 x33192.N), v33193]), v33196, (.agg v33199.toArray)] w0 fun v w1 => v = (.bool r) ∧ Ch [] w0 w1
theorem law26_OrderingReaches_ok (n : Nat) : law26_OrderingReaches_S (law26_OrderingReaches n) := by
  intro w0 I0 tb x33192 v33193 r33194 x33195 v33196 r33197 x33198 v33199 r33200 hI r h
  unfold law26_OrderingReaches at h
  refine enter Tryd.func5 rfl (Nat.le_of_ble_eq_true rfl) ?_
  have hp : Hp ⟨w0, I0, []⟩ I0 [] w0 := Hp.start hI
  apply go
  apply go
  refine ev_boxI hp rfl rfl ?_
  intro p33203 I33204 w33202 hp hs a33205
  replace r33197 := r33197.step hs
  replace r33200 := r33200.step hs
  replace r33194 := r33194.step hs
  replace tb := tb.step hs
  refine ev_boxA (d := (dA 2 (dI .i64))) hp rfl rfl r33200 ?_
  intro g33206 w33207 hp hs r33208
  replace r33197 := r33197.step hs
  replace a33205 := a33205.step hs
  replace r33194 := r33194.step hs
  replace tb := tb.step hs
  apply go
  obtain ⟨y33218, q33219, h⟩ := bind_some h
  refine W.cut (γ := Bool) (fun g => [(1, v33196), (3, (.pointer (some (p33203)))), (5, (.pointer (some ⟨g33206, 0, none⟩))), (19, (.bool (g)))]) (fun g w' => y33218 = (g) ∧ Hp ⟨w0, I0, []⟩ I33204 [some (g33206, v33199, 36)] w' ∧ RepS (dI .i64) w' I33204 v33196 x33195 ∧ RepS dPair w' I33204 v33193 x33192.E ∧ At w' I33204 p33203 [(.int .i64 x33192.N), v33193] ∧ (dA 2 (dI .i64)).rep w' I33204 v33199 x33198 ∧ At w' I33204 ⟨0, 0, none⟩ (tab64.map (.int .u8))) ?_ ?_
  ·
    apply go
    obtain ⟨x33220, q33221, q33219⟩ := bind_some q33219
    refine ev_call rfl rfl C12 (((law26_awake_ok n) _ _ tb  hp.imm _ q33221).mono ?_)
    rintro _ w33222 ⟨rfl, hc⟩
    have hs := hp.stp hc
    replace hp := hp.ext hc
    replace r33197 := r33197.step hs
    replace a33205 := a33205.step hs
    replace r33194 := r33194.step hs
    replace r33208 := r33208.step hs
    replace tb := tb.step hs
    refine sel_of (fun hc => ?_) (fun hc => ?_)
    ·
      have q33219 := cond_t q33219 hc
      obtain rfl := Option.some.inj q33219
      exact ⟨true, (.c rfl (.c rfl (.c rfl (.c rfl .n)))), rfl, hp, r33197, r33194, a33205, r33208, tb⟩
    ·
      have q33219 := cond_f q33219 hc
      refine ev (rn_load rfl rfl (run_loadVarA T24 rfl a33205)) ?_
      obtain ⟨x33223, q33224, q33219⟩ := bind_some q33219
      refine ev_call rfl rfl C13 (((law26_few_ok n) _ _  (Graph.mk x33192.N x33192.E) v33193 r33194 hp.imm _ q33224).mono ?_)
      rintro _ w33225 ⟨rfl, hc⟩
      have hs := hp.stp hc
      replace hp := hp.ext hc
      replace r33197 := r33197.step hs
      replace a33205 := a33205.step hs
      replace r33194 := r33194.step hs
      replace r33208 := r33208.step hs
      replace tb := tb.step hs
      refine sel_of (fun hc => ?_) (fun hc => ?_)
      ·
        have q33219 := cond_t q33219 hc
        obtain rfl := Option.some.inj q33219
        exact ⟨true, (.c rfl (.c rfl (.c rfl (.c rfl .n)))), rfl, hp, r33197, r33194, a33205, r33208, tb⟩
      ·
        have q33219 := cond_f q33219 hc
        refine ev0 (rn_len rfl rfl Tryd.underlying27 r33197) ?_
        obtain rfl := Option.some.inj q33219
        exact ⟨(decide ((x33195.length : Int) > 100)), (.c rfl (.c rfl (.c rfl (.c rfl .n)))), rfl, hp, r33197, r33194, a33205, r33208, tb⟩
  ·
    rintro x33216 w33217 ⟨hy, hp, r33197, r33194, a33205, r33208, tb⟩
    replace hy := hy.symm
    subst hy
    apply go
    refine sel_of (fun hc => ?_) (fun hc => ?_)
    ·
      have h := cond_t h hc
      apply go
      apply go
      obtain ⟨x33226, q33227, h⟩ := bind_some h
      refine ev_call rfl rfl C12 (((law26_awake_ok n) _ _ tb  hp.imm _ q33227).mono ?_)
      rintro _ w33228 ⟨rfl, hc⟩
      have hs := hp.stp hc
      replace hp := hp.ext hc
      replace r33208 := r33208.step hs
      replace tb := tb.step hs
      apply go
      obtain rfl := Option.some.inj h
      exact ⟨rfl, hp.ch⟩
    ·
      have h := cond_f h hc
      apply go
      apply go
      apply go
      refine ev0 (rn_field rfl rfl FO24_0) ?_
      refine ev (rn_load rfl rfl (run_loadVar1 T3 (a33205.2 0 _ rfl))) ?_
      refine ev0 (rn_field rfl rfl FO24_1) ?_
      refine ev (rn_load rfl rfl (run_loadVar1 T22 (a33205.2 1 _ rfl))) ?_
      obtain ⟨x33229, q33230, h⟩ := bind_some h
      refine ev_indexA rfl rfl rfl Tryd.underlying36 T3 (SubA.top r33208) q33230 ?_
      refine ev (rn_load rfl rfl (run_loadVar1 T3 (hp.cell (i := 0) rfl ((SubA.top r33208).el q33230).int))) ?_
      obtain ⟨x33231, q33232, h⟩ := bind_some h
      refine ev_indexA rfl rfl rfl Tryd.underlying36 T3 (SubA.top r33208) q33232 ?_
      refine ev (rn_load rfl rfl (run_loadVar1 T3 (hp.cell (i := 0) rfl ((SubA.top r33208).el q33232).int))) ?_
      obtain ⟨x33233, q33234, h⟩ := bind_some h
      refine ev_call rfl rfl C20 (((ref26_Reaches_ok n) _ _  x33192.N x33192.E v33193 r33194 x33195 v33196 r33197 x33229 x33231 hp.imm _ q33234).mono ?_)
      rintro _ w33235 ⟨rfl, hc⟩
      have hs := hp.stp hc
      replace hp := hp.ext hc
      replace r33197 := r33197.step hs
      replace a33205 := a33205.step hs
      replace r33194 := r33194.step hs
      replace r33208 := r33208.step hs
      replace tb := tb.step hs
      obtain ⟨y33252, q33253, h⟩ := bind_some h
      refine W.cut (γ := Bool) (fun g => [(6, (.bool (g)))]) (fun g w' => y33252 = (g) ∧ Hp ⟨w0, I0, []⟩ I33204 [] w' ∧ At w' I33204 ⟨0, 0, none⟩ (tab64.map (.int .u8))) ?_ ?_
      ·
        apply go
        refine ev0 (rn_field rfl rfl FO24_0) ?_
        refine ev (rn_load rfl rfl (run_loadVar1 T3 (a33205.2 0 _ rfl))) ?_
        refine ev0 (rn_field rfl rfl FO24_1) ?_
        refine ev (rn_load rfl rfl (run_loadVar1 T22 (a33205.2 1 _ rfl))) ?_
        obtain ⟨x33254, q33255, q33253⟩ := bind_some q33253
        refine ev_indexA rfl rfl rfl Tryd.underlying36 T3 (SubA.top r33208) q33255 ?_
        refine ev (rn_load rfl rfl (run_loadVar1 T3 (hp.cell (i := 0) rfl ((SubA.top r33208).el q33255).int))) ?_
        obtain ⟨x33256, q33257, q33253⟩ := bind_some q33253
        refine ev_indexA rfl rfl rfl Tryd.underlying36 T3 (SubA.top r33208) q33257 ?_
        refine ev (rn_load rfl rfl (run_loadVar1 T3 (hp.cell (i := 0) rfl ((SubA.top r33208).el q33257).int))) ?_
        obtain ⟨x33258, q33259, q33253⟩ := bind_some q33253
        refine ev_call rfl rfl C21 (((ordering_Reaches_ok n) _ _ tb x33192.N x33192.E v33193 r33194 x33195 v33196 r33197 x33254 x33256 hp.imm _ q33259).mono ?_)
        rintro _ w33260 ⟨rfl, hc⟩
        have hs := hp.stp hc
        replace hp := hp.ext hc
        replace r33197 := r33197.step hs
        replace a33205 := a33205.step hs
        replace r33194 := r33194.step hs
        replace r33208 := r33208.step hs
        replace tb := tb.step hs
        refine ev0 (rn_eqB rfl rfl rfl Tryd.underlying4) ?_
        refine sel_of (fun hc => ?_) (fun hc => ?_)
        ·
          have q33253 := cond_t q33253 hc
          refine ev0 (rn_field rfl rfl FO24_0) ?_
          refine ev (rn_load rfl rfl (run_loadVar1 T3 (a33205.2 0 _ rfl))) ?_
          refine ev0 (rn_field rfl rfl FO24_1) ?_
          refine ev (rn_load rfl rfl (run_loadVar1 T22 (a33205.2 1 _ rfl))) ?_
          obtain ⟨x33261, q33262, q33253⟩ := bind_some q33253
          refine ev_indexA rfl rfl rfl Tryd.underlying36 T3 (SubA.top r33208) q33262 ?_
          refine ev (rn_load rfl rfl (run_loadVar1 T3 (hp.cell (i := 0) rfl ((SubA.top r33208).el q33262).int))) ?_
          obtain ⟨x33263, q33264, q33253⟩ := bind_some q33253
          refine ev_indexA rfl rfl rfl Tryd.underlying36 T3 (SubA.top r33208) q33264 ?_
          refine ev (rn_load rfl rfl (run_loadVar1 T3 (hp.cell (i := 0) rfl ((SubA.top r33208).el q33264).int))) ?_
          obtain ⟨x33265, q33266, q33253⟩ := bind_some q33253
          refine ev_call rfl rfl C21 (((ordering_Reaches_ok n) _ _ tb x33192.N x33192.E v33193 r33194 x33195 v33196 r33197 x33261 x33263 hp.imm _ q33266).mono ?_)
          rintro _ w33267 ⟨rfl, hc⟩
          have hs := hp.stp hc
          replace hp := hp.ext hc
          replace r33208 := r33208.step hs
          replace tb := tb.step hs
          refine ev0 (rn_eqB rfl rfl rfl Tryd.underlying4) ?_
          obtain rfl := Option.some.inj q33253
          have hp := hp.sel [] (by decide)
          exact ⟨(x33265 == x33233), (.c rfl .n), rfl, hp, tb⟩
        ·
          have q33253 := cond_f q33253 hc
          obtain rfl := Option.some.inj q33253
          have hp := hp.sel [] (by decide)
          exact ⟨false, (.c rfl .n), rfl, hp, tb⟩
      ·
        rintro x33250 w33251 ⟨hy, hp, tb⟩
        replace hy := hy.symm
        subst hy
        apply go
        obtain rfl := Option.some.inj h
        exact ⟨rfl, hp.ch⟩

end Go.Proofs.YtgmiencjoghnnaaDoor
