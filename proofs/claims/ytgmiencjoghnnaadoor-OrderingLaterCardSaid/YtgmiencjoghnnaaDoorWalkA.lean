/-
  Each function of the program computes the plain function of its name.
-/
import Derived.Test.YtgmiencjoghnnaaDoorFactsA
namespace Go.Proofs.YtgmiencjoghnnaaDoor
open Go Go.Proofs.YtgmiencjoghnnaaDoor.Gw Go.RowKit
set_option linter.unusedVariables false
attribute [local irreducible] Ev EvQ EvS EvH
def ordering_Valid_S (f : Int → (List Pair) → Option Bool) : Prop := ∀ (w0 : World) (I0 : Nat → Prop) (x1 : Int) (x2 : (List Pair)) (v3 : Value) (r4 : RepS dPair w0 I0 v3 x2) (hI : ∀ g, I0 g → g < w0.heap.size) (r : Bool), f x1 x2 = some r →
    Ret Tryd.prog 34 #[(.int .i64 x1), v3] w0 fun v w1 => v = (.bool r) ∧ Ch [] w0 w1
theorem ordering_Valid_ok (n : Nat) : ordering_Valid_S (ordering_Valid n) := by
  intro w0 I0 x1 x2 v3 r4 hI r h
  unfold ordering_Valid at h
  refine enter Tryd.func34 rfl (Nat.le_of_ble_eq_true rfl) ?_
  have hp : Hp ⟨w0, I0, []⟩ I0 [] w0 := Hp.start hI
  apply go
  apply go
  apply go
  obtain ⟨y6, q7, h⟩ := bind_some h
  refine W.cut (γ := Bool) (fun g => [(0, (.int .i64 x1)), (1, v3), (12, (.bool (g)))]) (fun g w' => y6 = (g) ∧ w0 = w') ?_ ?_
  ·
    apply go
    refine sel_of (fun hc => ?_) (fun hc => ?_)
    ·
      have q7 := cond_t q7 hc
      obtain rfl := Option.some.inj q7
      exact ⟨true, (.c rfl (.c rfl (.c rfl .n))), rfl, rfl⟩
    ·
      have q7 := cond_f q7 hc
      obtain rfl := Option.some.inj q7
      exact ⟨(decide (x1 > 64)), (.c rfl (.c rfl (.c rfl .n))), rfl, rfl⟩
  ·
    rintro x5 _ ⟨hy, rfl⟩
    replace hy := hy.symm
    subst hy
    apply go
    refine sel_of (fun hc => ?_) (fun hc => ?_)
    ·
      have h := cond_t h hc
      apply go
      apply go
      apply go
      obtain rfl := Option.some.inj h
      exact ⟨rfl, hp.ch⟩
    ·
      have h := cond_f h hc
      apply go
      obtain ⟨y198, q199, h⟩ := bind_some h
      refine W.cut (γ := Unit) (fun _ => []) (fun _ w' => y198 = .go () ∧ Hp ⟨w0, I0, []⟩ I0 [] w') ?_ ?_
      ·
        apply go
        apply go
        refine ev0 (rn_len rfl rfl Tryd.underlying22 r4) ?_
        apply go
        refine W.loop q199 (γ := Unit) (fun s _ => [(0, (.int .i64 x1)), (1, v3), (13, v3), (14, (.int .i64 (x2.length : Int))), (15, (.int .i64 (s)))]) (fun s _ w' => Hp ⟨w0, I0, []⟩ I0 [] w' ∧ RepS dPair w' I0 v3 x2) () (.c rfl (.c rfl (.c rfl (.c rfl (.c rfl .n))))) ⟨hp, r4⟩ ?_
        rintro x260 ⟨⟩ w322 y323 ⟨hp, r4⟩ q324 q325
        unfold ordering_Valid_L1 at q324
        apply go
        apply go
        apply go
        apply go
        refine sel_of (fun hc => ?_) (fun hc => ?_)
        ·
          have q324 := cond_t q324 hc
          apply go
          apply go
          apply go
          apply go
          apply go
          obtain ⟨x326, q327, q324⟩ := bind_some q324
          refine ev_index rfl rfl rfl Tryd.underlying22 T47 r4 q327 ?_
          intro p328 c329 d330 a331
          obtain rfl := dPair_o d330
          refine ev (rn_load rfl rfl (run_loadVarA T47 rfl a331)) ?_
          refine ev_alloc hp rfl T47 ?_
          intro g332 w333 hp hs
          replace r4 := r4.step hs
          refine ev_storeA hp (i := 0) (off := 0) (vs := [(.int .i64 x326.A), (.int .i64 x326.B)]) rfl rfl rfl rfl T47 rfl (Nat.le_of_ble_eq_true rfl) (ones_of rfl) ?_
          intro w334 hp hs
          replace r4 := r4.step hs
          apply go
          obtain ⟨y336, q337, q324⟩ := bind_some q324
          refine W.cut (γ := Bool) (fun g => [(0, (.int .i64 x1)), (1, v3), (5, (.int .i64 x260)), (6, (.pointer (some ⟨g332, 0, none⟩))), (13, v3), (14, (.int .i64 (x2.length : Int))), (15, (.int .i64 x260)), (35, (.bool (g)))]) (fun g w' => y336 = (g) ∧ w334 = w') ?_ ?_
          ·
            apply go
            refine ev0 (rn_field rfl rfl FO47_0) ?_
            refine ev (rn_load rfl rfl (run_loadVar1 T3 (hp.cell (i := 0) (off := 0) rfl rfl))) ?_
            refine sel_of (fun hc => ?_) (fun hc => ?_)
            ·
              have q337 := cond_t q337 hc
              obtain rfl := Option.some.inj q337
              exact ⟨true, (.c rfl (.c rfl (.c rfl (.c rfl (.c rfl (.c rfl (.c rfl (.c rfl .n)))))))), rfl, rfl⟩
            ·
              have q337 := cond_f q337 hc
              refine ev0 (rn_field rfl rfl FO47_0) ?_
              refine ev (rn_load rfl rfl (run_loadVar1 T3 (hp.cell (i := 0) (off := 0) rfl rfl))) ?_
              refine ev0 (rn_field rfl rfl FO47_1) ?_
              refine ev (rn_load rfl rfl (run_loadVar1 T3 (hp.cell (i := 0) (off := 1) rfl rfl))) ?_
              refine sel_of (fun hc => ?_) (fun hc => ?_)
              ·
                have q337 := cond_t q337 hc
                obtain rfl := Option.some.inj q337
                exact ⟨true, (.c rfl (.c rfl (.c rfl (.c rfl (.c rfl (.c rfl (.c rfl (.c rfl .n)))))))), rfl, rfl⟩
              ·
                have q337 := cond_f q337 hc
                refine ev0 (rn_field rfl rfl FO47_1) ?_
                refine ev (rn_load rfl rfl (run_loadVar1 T3 (hp.cell (i := 0) (off := 1) rfl rfl))) ?_
                obtain rfl := Option.some.inj q337
                exact ⟨(decide (x326.B ≥ x1)), (.c rfl (.c rfl (.c rfl (.c rfl (.c rfl (.c rfl (.c rfl (.c rfl .n)))))))), rfl, rfl⟩
          ·
            rintro x335 _ ⟨hy, rfl⟩
            replace hy := hy.symm
            subst hy
            apply go
            refine sel_of (fun hc => ?_) (fun hc => ?_)
            ·
              have q324 := cond_t q324 hc
              apply go
              apply go
              apply go
              have q338 := congrArg some (q325 _ (Option.some.inj q324).symm)
              obtain rfl := Option.some.inj q338
              obtain rfl := Option.some.inj h
              exact ⟨rfl, hp.ch⟩
            ·
              have q324 := cond_f q324 hc
              apply go
              obtain ⟨y363, q364, q324⟩ := bind_some q324
              refine W.cut (γ := Bool) (fun g => [(0, (.int .i64 x1)), (1, v3), (13, v3), (14, (.int .i64 (x2.length : Int))), (15, (.int .i64 x260)), (70, (.bool (g)))]) (fun g w' => y363 = (g) ∧ Hp ⟨w0, I0, []⟩ I0 [] w' ∧ RepS dPair w' I0 v3 x2) ?_ ?_
              ·
                refine W.quiet (fun w' => Ch [] w334 w') MX (by kernel_rfl) (Ch.drew [] w334) ?_
                refine sel_of (fun hc => ?_) (fun hc => ?_)
                ·
                  have q364 := cond_t q364 hc
                  obtain ⟨x365, q366, q364⟩ := bind_some q364
                  refine evq_index rfl rfl rfl Tryd.underlying22 T47 r4 q366 ?_
                  intro p367 c368 d369 a370
                  obtain rfl := dPair_o d369
                  refine evq0 (rn_field rfl rfl FO47_0) ?_
                  refine evq (fun w' hw => rn_load rfl rfl (run_loadVar1 T3 ((a370.step (hp.stp hw)).2 0 _ rfl))) ?_
                  refine evq0 (rn_field rfl rfl FO47_0) ?_
                  refine evq (fun w' hw => rn_load rfl rfl (run_loadVar1 T3 ((hp.ext hw).cell (i := 0) (off := 0) rfl rfl))) ?_
                  refine sel_of (fun hc => ?_) (fun hc => ?_)
                  ·
                    have q364 := cond_t q364 hc
                    intro w371 hc
                    have hs := hp.stp hc
                    replace hp := hp.ext hc
                    replace r4 := r4.step hs
                    replace a370 := a370.step hs
                    obtain rfl := Option.some.inj q364
                    have hp := hp.sel [] (by decide)
                    exact ⟨true, (.c rfl (.c rfl (.c rfl (.c rfl (.c rfl (.c rfl .n)))))), rfl, hp, r4⟩
                  ·
                    have q364 := cond_f q364 hc
                    obtain ⟨x372, q373, q364⟩ := bind_some q364
                    refine evq_index rfl rfl rfl Tryd.underlying22 T47 r4 q373 ?_
                    intro p374 c375 d376 a377
                    obtain rfl := dPair_o d376
                    refine evq0 (rn_field rfl rfl FO47_0) ?_
                    refine evq (fun w' hw => rn_load rfl rfl (run_loadVar1 T3 ((a377.step (hp.stp hw)).2 0 _ rfl))) ?_
                    refine evq0 (rn_field rfl rfl FO47_0) ?_
                    refine evq (fun w' hw => rn_load rfl rfl (run_loadVar1 T3 ((hp.ext hw).cell (i := 0) (off := 0) rfl rfl))) ?_
                    refine sel_of (fun hc => ?_) (fun hc => ?_)
                    ·
                      have q364 := cond_t q364 hc
                      obtain ⟨x378, q379, q364⟩ := bind_some q364
                      refine evq_index rfl rfl rfl Tryd.underlying22 T47 r4 q379 ?_
                      intro p380 c381 d382 a383
                      obtain rfl := dPair_o d382
                      refine evq0 (rn_field rfl rfl FO47_1) ?_
                      refine evq (fun w' hw => rn_load rfl rfl (run_loadVar1 T3 ((a383.step (hp.stp hw)).2 1 _ rfl))) ?_
                      refine evq0 (rn_field rfl rfl FO47_1) ?_
                      refine evq (fun w' hw => rn_load rfl rfl (run_loadVar1 T3 ((hp.ext hw).cell (i := 0) (off := 1) rfl rfl))) ?_
                      intro w384 hc
                      have hs := hp.stp hc
                      replace hp := hp.ext hc
                      replace r4 := r4.step hs
                      replace a370 := a370.step hs
                      replace a377 := a377.step hs
                      replace a383 := a383.step hs
                      obtain rfl := Option.some.inj q364
                      have hp := hp.sel [] (by decide)
                      exact ⟨(decide (x378.B ≥ x326.B)), (.c rfl (.c rfl (.c rfl (.c rfl (.c rfl (.c rfl .n)))))), rfl, hp, r4⟩
                    ·
                      have q364 := cond_f q364 hc
                      intro w385 hc
                      have hs := hp.stp hc
                      replace hp := hp.ext hc
                      replace r4 := r4.step hs
                      replace a370 := a370.step hs
                      replace a377 := a377.step hs
                      obtain rfl := Option.some.inj q364
                      have hp := hp.sel [] (by decide)
                      exact ⟨false, (.c rfl (.c rfl (.c rfl (.c rfl (.c rfl (.c rfl .n)))))), rfl, hp, r4⟩
                ·
                  have q364 := cond_f q364 hc
                  intro w386 hc
                  have hs := hp.stp hc
                  replace hp := hp.ext hc
                  replace r4 := r4.step hs
                  obtain rfl := Option.some.inj q364
                  have hp := hp.sel [] (by decide)
                  exact ⟨false, (.c rfl (.c rfl (.c rfl (.c rfl (.c rfl (.c rfl .n)))))), rfl, hp, r4⟩
              ·
                rintro x361 w362 ⟨hy, hp, r4⟩
                replace hy := hy.symm
                subst hy
                apply go
                refine sel_of (fun hc => ?_) (fun hc => ?_)
                ·
                  have q324 := cond_t q324 hc
                  apply go
                  apply go
                  apply go
                  have q387 := congrArg some (q325 _ (Option.some.inj q324).symm)
                  obtain rfl := Option.some.inj q387
                  obtain rfl := Option.some.inj h
                  exact ⟨rfl, hp.ch⟩
                ·
                  have q324 := cond_f q324 hc
                  apply go
                  apply go
                  exact ⟨_, (Option.some.inj q324).symm, (), (.c rfl (.c rfl (.c rfl (.c rfl (.c rfl .n))))), ⟨hp, r4⟩⟩
        ·
          have q324 := cond_f q324 hc
          apply go
          have q388 := congrArg some (q325 _ (Option.some.inj q324).symm)
          obtain rfl := Option.some.inj q388
          exact ⟨(), .n, rfl, hp⟩
      ·
        rintro ⟨⟩ w197 ⟨hy, hp⟩
        replace hy := hy.symm
        subst hy
        apply go
        apply go
        apply go
        obtain rfl := Option.some.inj h
        exact ⟨rfl, hp.ch⟩

end Go.Proofs.YtgmiencjoghnnaaDoor

namespace Go.Proofs.YtgmiencjoghnnaaDoor
open Go Go.Proofs.YtgmiencjoghnnaaDoor.Gw Go.RowKit
set_option linter.unusedVariables false
attribute [local irreducible] Ev EvQ EvS EvH
def ordering_build_S (f : Int → (List Pair) → Option (List Int)) : Prop := ∀ (w0 : World) (I0 : Nat → Prop) (x389 : Int) (x390 : (List Pair)) (v391 : Value) (r392 : RepS dPair w0 I0 v391 x390) (hI : ∀ g, I0 g → g < w0.heap.size) (r : (List Int)), f x389 x390 = some r →
    Ret Tryd.prog 36 #[(.int .i64 x389), v391] w0 fun v w1 => ∃ (I1 : Nat → Prop) (u393 : Value) (u394 : Ent), v = u393 ∧ Hp ⟨w0, I0, []⟩ I1 [u394] w1 ∧ OwnS (dI .u64) 52 w1 I1 u393 u394 r
theorem ordering_build_ok (n : Nat) : ordering_build_S (ordering_build n) := by
  intro w0 I0 x389 x390 v391 r392 hI r h
  unfold ordering_build at h
  refine enter Tryd.func36 rfl (Nat.le_of_ble_eq_true rfl) ?_
  have hp : Hp ⟨w0, I0, []⟩ I0 [] w0 := Hp.start hI
  apply go
  apply go
  apply go
  apply go
  obtain ⟨x395, q396, h⟩ := bind_some h
  refine ev_make (d := (dI .u64)) (x0 := 0) hp rfl rfl rfl Tryd.underlying50 T52 (fun _ _ => rfl) (Nat.le_of_ble_eq_true rfl) q396 ?_
  intro v397 e398 w399 hp hs o400
  replace r392 := r392.step hs
  obtain ⟨y586, q587, h⟩ := bind_some h
  refine W.cut (γ := ((List Int) × Ent)) (fun g => [(5, v397)]) (fun g w' => y586 = (g.1) ∧ Hp ⟨w0, I0, []⟩ I0 [(g.2)] w' ∧ OwnS (dI .u64) 52 w' I0 v397 (g.2) (g.1)) ?_ ?_
  ·
    apply go
    apply go
    refine ev0 (rn_len rfl rfl Tryd.underlying22 r392) ?_
    apply go
    refine W.loop q587 (γ := Ent) (fun s g => [(5, v397), (10, v391), (11, (.int .i64 (x390.length : Int))), (12, (.int .i64 (s.2)))]) (fun s g w' => Hp ⟨w0, I0, []⟩ I0 [(g)] w' ∧ OwnS (dI .u64) 52 w' I0 v397 (g) (s.1) ∧ RepS dPair w' I0 v391 x390) e398 (.c rfl (.c rfl (.c rfl (.c rfl .n)))) ⟨hp, o400, r392⟩ ?_
    rintro ⟨x643, x647⟩ e645 w708 y709 ⟨hp, o646, r392⟩ q710 q711
    unfold ordering_build_L1 at q710
    apply go
    apply go
    apply go
    apply go
    refine sel_of (fun hc => ?_) (fun hc => ?_)
    ·
      have q710 := cond_t q710 hc
      apply go
      apply go
      apply go
      apply go
      apply go
      obtain ⟨x712, q713, q710⟩ := bind_some q710
      refine ev_index rfl rfl rfl Tryd.underlying22 T47 r392 q713 ?_
      intro p714 c715 d716 a717
      obtain rfl := dPair_o d716
      refine ev (rn_load rfl rfl (run_loadVarA T47 rfl a717)) ?_
      refine ev_alloc hp rfl T47 ?_
      intro g718 w719 hp hs
      replace o646 := o646.step hs
      replace r392 := r392.step hs
      refine ev_storeA hp (i := 0) (off := 0) (vs := [(.int .i64 x712.A), (.int .i64 x712.B)]) rfl rfl rfl rfl T47 rfl (Nat.le_of_ble_eq_true rfl) (ones_of rfl) ?_
      intro w720 hp hs
      replace o646 := o646.step hs
      replace r392 := r392.step hs
      apply go
      have hs := hp.stp (Ch.drew [] w720)
      have hp := hp.drew
      replace o646 := o646.step hs
      replace r392 := r392.step hs
      refine W.tail 10 MX (by kernel_rfl) ?_
      refine evs0 (rn_field rfl rfl FO47_0) ?_
      refine evs (rn_load rfl rfl (run_loadVar1 T3 (hp.cell (i := 0) (off := 0) rfl rfl))) ?_
      obtain ⟨x722, q723, q710⟩ := bind_some q710
      refine evs_indexO rfl rfl rfl Tryd.underlying50 T52 o646 q723 ?_
      intro g724 c725 h728 d726 l727
      refine evs (rn_load rfl rfl (run_loadVar1 T52 (hp.cellE (i := 1) rfl h728 d726 (j := 0) rfl))) ?_
      refine evs0 (rn_field rfl rfl FO47_1) ?_
      refine evs (rn_load rfl rfl (run_loadVar1 T3 (hp.cell (i := 0) (off := 1) rfl rfl))) ?_
      obtain ⟨q730, _, q710⟩ := need_some q710
      refine ⟨q730, ?_⟩
      obtain ⟨x731, q732, q710⟩ := bind_some q710
      refine evs_indexO rfl rfl rfl Tryd.underlying50 T52 o646 q732 ?_
      intro g733 c734 h737 d735 l736
      refine ev_storeE hp (i := 1) rfl h737 rfl rfl rfl T52 o646 q732 (x0 := (ib .or .u64 x722 (IntKind.u64.wrap ((1 : Int) * 2 ^ min x712.B.toNat (IntKind.u64).bits)))) rfl ?_
      intro e740 w739 hp hs o741
      replace r392 := r392.step hs
      have hs := hp.stp (Ch.drew [] w739)
      have hp := hp.drew
      replace o741 := o741.step hs
      replace r392 := r392.step hs
      refine W.tail 10 MX (by kernel_rfl) ?_
      refine evs0 (rn_field rfl rfl FO47_1) ?_
      refine evs (rn_load rfl rfl (run_loadVar1 T3 (hp.cell (i := 0) (off := 1) rfl rfl))) ?_
      obtain ⟨x745, q746, q710⟩ := bind_some q710
      refine evs_indexO rfl rfl rfl Tryd.underlying50 T52 o741 q746 ?_
      intro g747 c748 h751 d749 l750
      refine evs (rn_load rfl rfl (run_loadVar1 T52 (hp.cellE (i := 1) rfl h751 d749 (j := 0) rfl))) ?_
      refine evs0 (rn_field rfl rfl FO47_0) ?_
      refine evs (rn_load rfl rfl (run_loadVar1 T3 (hp.cell (i := 0) (off := 0) rfl rfl))) ?_
      obtain ⟨q753, _, q710⟩ := need_some q710
      refine ⟨q753, ?_⟩
      obtain ⟨x754, q755, q710⟩ := bind_some q710
      refine evs_indexO rfl rfl rfl Tryd.underlying50 T52 o741 q755 ?_
      intro g756 c757 h760 d758 l759
      refine ev_storeE hp (i := 1) rfl h760 rfl rfl rfl T52 o741 q755 (x0 := (ib .or .u64 x745 (IntKind.u64.wrap ((1 : Int) * 2 ^ min x712.A.toNat (IntKind.u64).bits)))) rfl ?_
      intro e763 w762 hp hs o764
      replace r392 := r392.step hs
      apply go
      have hp := hp.sel [1] (by decide)
      exact ⟨_, (Option.some.inj q710).symm, e763, (.c rfl (.c rfl (.c rfl (.c rfl .n)))), ⟨hp, o764, r392⟩⟩
    ·
      have q710 := cond_f q710 hc
      apply go
      have q767 := congrArg some (q711 _ (Option.some.inj q710).symm)
      obtain rfl := Option.some.inj q767
      exact ⟨(x643, e645), (.c rfl .n), rfl, hp, o646⟩
  ·
    rintro ⟨x581, e583⟩ w585 ⟨hy, hp, o584⟩
    replace hy := hy.symm
    subst hy
    apply go
    apply go
    apply go
    obtain rfl := Option.some.inj h
    exact ⟨I0, v397, e583, rfl, hp, o584⟩

end Go.Proofs.YtgmiencjoghnnaaDoor

namespace Go.Proofs.YtgmiencjoghnnaaDoor
open Go Go.Proofs.YtgmiencjoghnnaaDoor.Gw Go.RowKit
set_option linter.unusedVariables false
attribute [local irreducible] Ev EvQ EvS EvH
def ordering_all_S (f : Int → Option Int) : Prop := ∀ (w0 : World) (I0 : Nat → Prop) (x768 : Int) (hI : ∀ g, I0 g → g < w0.heap.size) (r : Int), f x768 = some r →
    Ret Tryd.prog 37 #[(.int .i64 x768)] w0 fun v w1 => v = (.int .u64 r) ∧ Ch [] w0 w1
theorem ordering_all_ok (n : Nat) : ordering_all_S (ordering_all n) := by
  intro w0 I0 x768 hI r h
  unfold ordering_all at h
  refine enter Tryd.func37 rfl (Nat.le_of_ble_eq_true rfl) ?_
  have hp : Hp ⟨w0, I0, []⟩ I0 [] w0 := Hp.start hI
  apply go
  apply go
  apply go
  apply go
  apply go
  apply go
  refine sel_of (fun hc => ?_) (fun hc => ?_)
  ·
    have h := cond_t h hc
    apply go
    apply go
    apply go
    obtain rfl := Option.some.inj h
    exact ⟨rfl, hp.ch⟩
  ·
    have h := cond_f h hc
    apply go
    apply go
    apply go
    obtain ⟨q769, _, h⟩ := need_some h
    refine ⟨q769, ?_⟩
    apply go
    obtain rfl := Option.some.inj h
    exact ⟨rfl, hp.ch⟩

end Go.Proofs.YtgmiencjoghnnaaDoor

namespace Go.Proofs.YtgmiencjoghnnaaDoor
open Go Go.Proofs.YtgmiencjoghnnaaDoor.Gw Go.RowKit
set_option linter.unusedVariables false
attribute [local irreducible] Ev EvQ EvS EvH
def bits_TrailingZeros64_S (f : Int → Option Int) : Prop := ∀ (w0 : World) (I0 : Nat → Prop) (tb : At w0 I0 ⟨0, 0, none⟩ (tab64.map (.int .u8))) (x770 : Int) (hI : ∀ g, I0 g → g < w0.heap.size) (r : Int), f x770 = some r →
    Ret Tryd.prog 38 #[(.int .u64 x770)] w0 fun v w1 => v = (.int .i64 r) ∧ Ch [] w0 w1
theorem bits_TrailingZeros64_ok (n : Nat) : bits_TrailingZeros64_S (bits_TrailingZeros64 n) := by
  intro w0 I0 tb x770 hI r h
  unfold bits_TrailingZeros64 at h
  refine enter Tryd.func38 rfl (Nat.le_of_ble_eq_true rfl) ?_
  have hp : Hp ⟨w0, I0, []⟩ I0 [] w0 := Hp.start hI
  apply go
  apply go
  apply go
  apply go
  apply go
  apply go
  refine sel_of (fun hc => ?_) (fun hc => ?_)
  ·
    have h := cond_t h hc
    apply go
    apply go
    apply go
    obtain rfl := Option.some.inj h
    exact ⟨rfl, hp.ch⟩
  ·
    have h := cond_f h hc
    apply go
    apply go
    apply go
    refine ⟨by decide, ?_⟩
    obtain ⟨x771, q772, h⟩ := bind_some h
    refine ev0 (rn_indexG rfl rfl rfl Tryd.underlying67 T5 (idx_some q772).1 (idx_some q772).2.1) ?_
    refine ev (rn_load rfl rfl (run_loadVar1 T5 (tab_cell tb q772))) ?_
    refine ev0 (rn_conv rfl rfl U5 Tryd.underlying3) ?_
    apply go
    obtain rfl := Option.some.inj h
    exact ⟨rfl, hp.ch⟩

end Go.Proofs.YtgmiencjoghnnaaDoor

namespace Go.Proofs.YtgmiencjoghnnaaDoor
open Go Go.Proofs.YtgmiencjoghnnaaDoor.Gw Go.RowKit
set_option linter.unusedVariables false
attribute [local irreducible] Ev EvQ EvS EvH
def bits_OnesCount64_S (f : Int → Option Int) : Prop := ∀ (w0 : World) (I0 : Nat → Prop) (x773 : Int) (hI : ∀ g, I0 g → g < w0.heap.size) (r : Int), f x773 = some r →
    Ret Tryd.prog 39 #[(.int .u64 x773)] w0 fun v w1 => v = (.int .i64 r) ∧ Ch [] w0 w1
theorem bits_OnesCount64_ok (n : Nat) : bits_OnesCount64_S (bits_OnesCount64 n) := by
  intro w0 I0 x773 hI r h
  unfold bits_OnesCount64 at h
  refine enter Tryd.func39 rfl (Nat.le_of_ble_eq_true rfl) ?_
  have hp : Hp ⟨w0, I0, []⟩ I0 [] w0 := Hp.start hI
  apply go
  apply go
  apply go
  apply go
  refine ⟨by decide, ?_⟩
  apply go
  apply go
  refine ⟨by decide, ?_⟩
  apply go
  apply go
  refine ⟨by decide, ?_⟩
  apply go
  apply go
  refine ⟨by decide, ?_⟩
  apply go
  apply go
  refine ⟨by decide, ?_⟩
  apply go
  apply go
  refine ⟨by decide, ?_⟩
  apply go
  apply go
  refine ev0 (rn_conv rfl rfl U52 Tryd.underlying3) ?_
  apply go
  obtain rfl := Option.some.inj h
  exact ⟨rfl, hp.ch⟩

end Go.Proofs.YtgmiencjoghnnaaDoor

namespace Go.Proofs.YtgmiencjoghnnaaDoor
open Go Go.Proofs.YtgmiencjoghnnaaDoor.Gw Go.RowKit
set_option linter.unusedVariables false
attribute [local irreducible] Ev EvQ EvS EvH
def ordering_graph_eliminate_S (f : (List Int) → Int → Int → Option (List Int)) : Prop := ∀ (w0 : World) (I0 : Nat → Prop) (tb : At w0 I0 ⟨0, 0, none⟩ (tab64.map (.int .u8))) (x774 : (List Int)) (v775 : Value) (e776 : Ent) (o777 : OwnS (dI .u64) 52 w0 I0 v775 e776 x774) (x778 : Int) (x779 : Int) (hp : Hp ⟨w0, I0, (blk e776)⟩ I0 [e776] w0) (r : (List Int)), f x774 x778 x779 = some r →
    Ret Tryd.prog 40 #[v775, (.int .i64 x778), (.int .u64 x779)] w0 fun v w1 => ∃ (I1 : Nat → Prop) (u780 : Ent), v = (.tuple #[]) ∧ Hp ⟨w0, I0, (blk e776)⟩ I1 [u780] w1 ∧ OwnS (dI .u64) 52 w1 I1 v775 u780 r ∧ blk u780 = blk e776
theorem ordering_graph_eliminate_ok (n : Nat) : ordering_graph_eliminate_S (ordering_graph_eliminate n) := by
  intro w0 I0 tb x774 v775 e776 o777 x778 x779 hp r h
  unfold ordering_graph_eliminate at h
  refine enter Tryd.func40 rfl (Nat.le_of_ble_eq_true rfl) ?_
  have o777z := o777
  apply go
  apply go
  obtain ⟨x781, q782, h⟩ := bind_some h
  refine ev_indexO rfl rfl rfl Tryd.underlying50 T52 o777 q782 ?_
  intro g783 c784 h787 d785 l786
  refine ev (rn_load rfl rfl (run_loadVar1 T52 (hp.cellE (i := 0) rfl h787 d785 (j := 0) rfl))) ?_
  apply go
  apply go
  apply go
  refine W.loop h (γ := Ent) (fun s g => [(0, v775), (6, (.int .u64 (ib .and .u64 x781 x779))), (7, (.int .u64 (s.2)))]) (fun s g w' => Hp ⟨w0, I0, (blk e776)⟩ I0 [(g)] w' ∧ OwnS (dI .u64) 52 w' I0 v775 (g) (s.1) ∧ At w' I0 ⟨0, 0, none⟩ (tab64.map (.int .u8))) e776 (.c rfl (.c rfl (.c rfl .n))) ⟨hp, o777, tb⟩ ?_
  rintro ⟨x815, x819⟩ e817 w851 y852 ⟨hp, o818, tb⟩ q853 q854
  unfold ordering_graph_eliminate_L0 at q853
  apply go
  apply go
  apply go
  apply go
  refine sel_of (fun hc => ?_) (fun hc => ?_)
  ·
    have q853 := cond_t q853 hc
    apply go
    apply go
    apply go
    apply go
    apply go
    obtain ⟨x855, q856, q853⟩ := bind_some q853
    refine ev_call rfl rfl C38 (((bits_TrailingZeros64_ok n) _ _ tb x819 hp.imm _ q856).mono ?_)
    rintro _ w857 ⟨rfl, hc⟩
    have hs := hp.stp hc
    replace hp := hp.ext hc
    replace o818 := o818.step hs
    replace tb := tb.step hs
    have hs := hp.stp (Ch.drew [] w857)
    have hp := hp.drew
    replace o818 := o818.step hs
    replace tb := tb.step hs
    refine W.tail 10 MX (by kernel_rfl) ?_
    obtain ⟨x859, q860, q853⟩ := bind_some q853
    refine evs_indexO rfl rfl rfl Tryd.underlying50 T52 o818 q860 ?_
    intro g861 c862 h865 d863 l864
    refine evs (rn_load rfl rfl (run_loadVar1 T52 (hp.cellE (i := 0) rfl h865 d863 (j := 0) rfl))) ?_
    obtain ⟨q867, _, q853⟩ := need_some q853
    refine ⟨q867, ?_⟩
    obtain ⟨x868, q869, q853⟩ := bind_some q853
    refine evs_indexO rfl rfl rfl Tryd.underlying50 T52 o818 q869 ?_
    intro g870 c871 h874 d872 l873
    refine ev_storeE hp (i := 0) rfl h874 rfl rfl rfl T52 o818 q869 (x0 := (ib .or .u64 x859 (ib .andNot .u64 (ib .and .u64 x781 x779) (IntKind.u64.wrap ((1 : Int) * 2 ^ min x855.toNat (IntKind.u64).bits))))) rfl ?_
    intro e877 w876 hp hs o878
    replace tb := tb.step hs
    apply go
    exact ⟨_, (Option.some.inj q853).symm, e877, (.c rfl (.c rfl (.c rfl .n))), ⟨hp, o878, tb⟩⟩
  ·
    have q853 := cond_f q853 hc
    apply go
    have q881 := congrArg some (q854 _ (Option.some.inj q853).symm)
    obtain rfl := Option.some.inj q881
    exact ⟨I0, e817, rfl, hp, o818, (OwnS.blk o777z o818)⟩

end Go.Proofs.YtgmiencjoghnnaaDoor

namespace Go.Proofs.YtgmiencjoghnnaaDoor
open Go Go.Proofs.YtgmiencjoghnnaaDoor.Gw Go.RowKit
set_option linter.unusedVariables false
attribute [local irreducible] Ev EvQ EvS EvH
def ordering_MinDegree_S (f : Int → (List Pair) → Option ((List Int) × Int)) : Prop := ∀ (w0 : World) (I0 : Nat → Prop) (tb : At w0 I0 ⟨0, 0, none⟩ (tab64.map (.int .u8))) (x882 : Int) (x883 : (List Pair)) (v884 : Value) (r885 : RepS dPair w0 I0 v884 x883) (hI : ∀ g, I0 g → g < w0.heap.size) (r : ((List Int) × Int)), f x882 x883 = some r →
    Ret Tryd.prog 14 #[(.int .i64 x882), v884] w0 fun v w1 => ∃ (I1 : Nat → Prop) (u886 : Value), v = (.tuple #[u886, (.int .i64 r.2)]) ∧ Hp ⟨w0, I0, []⟩ I1 [] w1 ∧ RepS (dI .i64) w1 I1 u886 r.1
theorem ordering_MinDegree_ok (n : Nat) : ordering_MinDegree_S (ordering_MinDegree n) := by
  intro w0 I0 tb x882 x883 v884 r885 hI r h
  unfold ordering_MinDegree at h
  refine enter Tryd.func14 rfl (Nat.le_of_ble_eq_true rfl) ?_
  have hp : Hp ⟨w0, I0, []⟩ I0 [] w0 := Hp.start hI
  apply go
  apply go
  apply go
  apply go
  apply go
  obtain ⟨x887, q888, h⟩ := bind_some h
  refine ev_call rfl rfl C34 (((ordering_Valid_ok n) _ _  x882 x883 v884 r885 hp.imm _ q888).mono ?_)
  rintro _ w889 ⟨rfl, hc⟩
  have hs := hp.stp hc
  replace hp := hp.ext hc
  replace r885 := r885.step hs
  replace tb := tb.step hs
  apply go
  refine sel_of (fun hc => ?_) (fun hc => ?_)
  ·
    have h := cond_t h hc
    apply go
    apply go
    apply go
    obtain rfl := Option.some.inj h
    exact ⟨I0, .slice none 0 0, rfl, hp, RepS.nil _ _ _⟩
  ·
    have h := cond_f h hc
    apply go
    apply go
    apply go
    obtain ⟨x890, q891, h⟩ := bind_some h
    refine ev_call rfl rfl C36 (((ordering_build_ok n) _ _  x882 x883 v884 r885 hp.imm _ q891).mono ?_)
    rintro _ w892 ⟨I893, v894, e895, hv, hq, o896⟩
    replace hv := hv.symm
    subst hv
    have hs := hq.st
    have hp := hp.join0 hq
    replace tb := tb.step hs
    obtain ⟨x897, q898, h⟩ := bind_some h
    refine ev_call rfl rfl C37 (((ordering_all_ok n) _ _  x882 hp.imm _ q898).mono ?_)
    rintro _ w899 ⟨rfl, hc⟩
    have hs := hp.stp hc
    replace hp := hp.ext hc
    replace o896 := o896.step hs
    replace tb := tb.step hs
    apply go
    apply go
    obtain ⟨y1764, q1765, h⟩ := bind_some h
    refine W.cut (γ := ((List Int) × Value × Ent × (Nat → Prop))) (fun g => [(8, (g.2.1))]) (fun g w' => y1764 = (g.1) ∧ Hp ⟨w0, I0, []⟩ (g.2.2.2) [(g.2.2.1)] w' ∧ OwnS (dI .i64) 3 w' (g.2.2.2) (g.2.1) (g.2.2.1) (g.1) ∧ At w' (g.2.2.2) ⟨0, 0, none⟩ (tab64.map (.int .u8))) ?_ ?_
    ·
      apply go
      have hp := hp.none_
      have o2342 := OwnS.nil (dI .i64) 3 w899 I893
      have hp := hp.perm [1, 0] (by decide)
      refine W.loop q1765 (γ := (Ent × Value × Ent × (Nat → Prop))) (fun s g => [(0, (.int .i64 x882)), (6, v894), (7, (.int .u64 (s.2.1))), (8, (g.2.1))]) (fun s g w' => Hp ⟨w0, I0, []⟩ (g.2.2.2) [(g.1), (g.2.2.1)] w' ∧ OwnS (dI .u64) 52 w' (g.2.2.2) v894 (g.1) (s.1) ∧ OwnS (dI .i64) 3 w' (g.2.2.2) (g.2.1) (g.2.2.1) (s.2.2) ∧ At w' (g.2.2.2) ⟨0, 0, none⟩ (tab64.map (.int .u8))) (e895, (.slice none 0 0), none, I893) (.c rfl (.c rfl (.c rfl (.c rfl .n)))) ⟨hp, o896, o2342, tb⟩ ?_
      rintro ⟨x2044, x2048, x2049⟩ ⟨e2046, v2050, e2051, I2053⟩ w2341 y2343 ⟨hp, o2047, o2052, tb⟩ q2344 q2345
      unfold ordering_MinDegree_L11 at q2344
      apply go
      apply go
      apply go
      refine ev0 (x_lenO rfl rfl Tryd.underlying27 o2052) ?_
      apply go
      refine sel_of (fun hc => ?_) (fun hc => ?_)
      ·
        have q2344 := cond_t q2344 hc
        apply go
        apply go
        apply go
        apply go
        obtain ⟨y2476, q2477, q2344⟩ := bind_some q2344
        refine W.cut (γ := Int) (fun g => [(0, (.int .i64 x882)), (6, v894), (7, (.int .u64 x2048)), (8, v2050), (9, (.int .i64 (g)))]) (fun g w' => y2476 = (g) ∧ Hp ⟨w0, I0, []⟩ I2053 [e2046, e2051] w' ∧ OwnS (dI .u64) 52 w' I2053 v894 e2046 x2044 ∧ OwnS (dI .i64) 3 w' I2053 v2050 e2051 x2049 ∧ At w' I2053 ⟨0, 0, none⟩ (tab64.map (.int .u8))) ?_ ?_
        ·
          apply go
          apply go
          apply go
          refine W.loop q2477 (γ := Unit) (fun s _ => [(0, (.int .i64 x882)), (6, v894), (7, (.int .u64 x2048)), (8, v2050), (9, (.int .i64 (s.1))), (10, (.int .i64 (s.2.1))), (11, (.int .u64 (s.2.2)))]) (fun s _ w' => Hp ⟨w0, I0, []⟩ I2053 [e2046, e2051] w' ∧ OwnS (dI .u64) 52 w' I2053 v894 e2046 x2044 ∧ OwnS (dI .i64) 3 w' I2053 v2050 e2051 x2049 ∧ At w' I2053 ⟨0, 0, none⟩ (tab64.map (.int .u8))) () (.c rfl (.c rfl (.c rfl (.c rfl (.c rfl (.c rfl (.c rfl .n))))))) ⟨hp, o2047, o2052, tb⟩ ?_
          rintro ⟨x2517, x2518, x2519⟩ ⟨⟩ w2562 y2563 ⟨hp, o2047, o2052, tb⟩ q2564 q2565
          unfold ordering_MinDegree_L13 at q2564
          apply go
          apply go
          apply go
          apply go
          refine sel_of (fun hc => ?_) (fun hc => ?_)
          ·
            have q2564 := cond_t q2564 hc
            apply go
            obtain ⟨y2586, q2587, q2564⟩ := bind_some q2564
            refine W.cut (γ := (Int × Int)) (fun g => [(0, (.int .i64 x882)), (6, v894), (7, (.int .u64 x2048)), (8, v2050), (9, (.int .i64 (g.1))), (10, (.int .i64 (g.2))), (11, (.int .u64 x2519))]) (fun g w' => y2586 = ((g.1), (g.2)) ∧ Hp ⟨w0, I0, []⟩ I2053 [e2046, e2051] w' ∧ OwnS (dI .u64) 52 w' I2053 v894 e2046 x2044 ∧ OwnS (dI .i64) 3 w' I2053 v2050 e2051 x2049 ∧ At w' I2053 ⟨0, 0, none⟩ (tab64.map (.int .u8))) ?_ ?_
            ·
              apply go
              apply go
              apply go
              obtain ⟨x2588, q2589, q2587⟩ := bind_some q2587
              refine ev_call rfl rfl C38 (((bits_TrailingZeros64_ok n) _ _ tb x2519 hp.imm _ q2589).mono ?_)
              rintro _ w2590 ⟨rfl, hc⟩
              have hs := hp.stp hc
              replace hp := hp.ext hc
              replace o2047 := o2047.step hs
              replace o2052 := o2052.step hs
              replace tb := tb.step hs
              apply go
              apply go
              obtain ⟨x2591, q2592, q2587⟩ := bind_some q2587
              refine ev_indexO rfl rfl rfl Tryd.underlying50 T52 o2047 q2592 ?_
              intro g2593 c2594 h2597 d2595 l2596
              refine ev (rn_load rfl rfl (run_loadVar1 T52 (hp.cellE (i := 0) rfl h2597 d2595 (j := 0) rfl))) ?_
              obtain ⟨x2599, q2600, q2587⟩ := bind_some q2587
              refine ev_call rfl rfl C39 (((bits_OnesCount64_ok n) _ _  (ib .and .u64 x2591 x2048) hp.imm _ q2600).mono ?_)
              rintro _ w2601 ⟨rfl, hc⟩
              have hs := hp.stp hc
              replace hp := hp.ext hc
              replace o2047 := o2047.step hs
              replace o2052 := o2052.step hs
              replace tb := tb.step hs
              obtain ⟨y2603, q2604, q2587⟩ := bind_some q2587
              refine W.cut (γ := Bool) (fun g => [(0, (.int .i64 x882)), (6, v894), (7, (.int .u64 x2048)), (8, v2050), (9, (.int .i64 x2517)), (10, (.int .i64 x2518)), (11, (.int .u64 x2519)), (12, (.int .i64 x2588)), (13, (.int .i64 x2599)), (49, (.bool (g)))]) (fun g w' => y2603 = (g) ∧ w2601 = w') ?_ ?_
              ·
                apply go
                refine sel_of (fun hc => ?_) (fun hc => ?_)
                ·
                  have q2604 := cond_t q2604 hc
                  obtain rfl := Option.some.inj q2604
                  exact ⟨true, (.c rfl (.c rfl (.c rfl (.c rfl (.c rfl (.c rfl (.c rfl (.c rfl (.c rfl (.c rfl .n)))))))))), rfl, rfl⟩
                ·
                  have q2604 := cond_f q2604 hc
                  obtain rfl := Option.some.inj q2604
                  exact ⟨(decide (x2599 < x2518)), (.c rfl (.c rfl (.c rfl (.c rfl (.c rfl (.c rfl (.c rfl (.c rfl (.c rfl (.c rfl .n)))))))))), rfl, rfl⟩
              ·
                rintro x2602 _ ⟨hy, rfl⟩
                replace hy := hy.symm
                subst hy
                apply go
                refine sel_of (fun hc => ?_) (fun hc => ?_)
                ·
                  have q2587 := cond_t q2587 hc
                  apply go
                  obtain rfl := Option.some.inj q2587
                  exact ⟨(x2588, x2599), (.c rfl (.c rfl (.c rfl (.c rfl (.c rfl (.c rfl (.c rfl .n))))))), rfl, hp, o2047, o2052, tb⟩
                ·
                  have q2587 := cond_f q2587 hc
                  apply go
                  obtain rfl := Option.some.inj q2587
                  exact ⟨(x2517, x2518), (.c rfl (.c rfl (.c rfl (.c rfl (.c rfl (.c rfl (.c rfl .n))))))), rfl, hp, o2047, o2052, tb⟩
            ·
              rintro ⟨x2583, x2584⟩ w2585 ⟨hy, hp, o2047, o2052, tb⟩
              replace hy := hy.symm
              subst hy
              apply go
              exact ⟨_, (Option.some.inj q2564).symm, (), (.c rfl (.c rfl (.c rfl (.c rfl (.c rfl (.c rfl (.c rfl .n))))))), ⟨hp, o2047, o2052, tb⟩⟩
          ·
            have q2564 := cond_f q2564 hc
            apply go
            have q2605 := congrArg some (q2565 _ (Option.some.inj q2564).symm)
            obtain rfl := Option.some.inj q2605
            exact ⟨x2517, (.c rfl (.c rfl (.c rfl (.c rfl (.c rfl .n))))), rfl, hp, o2047, o2052, tb⟩
        ·
          rintro x2474 w2475 ⟨hy, hp, o2047, o2052, tb⟩
          replace hy := hy.symm
          subst hy
          apply go
          apply go
          obtain ⟨q2606, _, q2344⟩ := need_some q2344
          refine ⟨q2606, ?_⟩
          apply go
          apply go
          obtain ⟨x2607, q2608, q2344⟩ := bind_some q2344
          refine ev_call rfl rfl C40 (((ordering_graph_eliminate_ok n) _ _ tb x2044 v894 e2046 o2047 x2474 (ib .andNot .u64 x2048 (IntKind.u64.wrap ((1 : Int) * 2 ^ min x2474.toNat (IntKind.u64).bits))) (hp.lend (i := 0) rfl) _ q2608).mono ?_)
          rintro _ w2609 ⟨I2610, e2611, hv, hq, o2612, hsame⟩
          replace hv := hv.symm
          subst hv
          have hs := hq.st
          have hp := hp.backO (i := 0) rfl hq hsame
          replace o2052 := o2052.step hs
          replace tb := tb.step hs
          apply go
          refine ev_litN (d := (dI .i64)) (xs := [x2474]) (cs := [(.int .i64 x2474)]) hp rfl rfl Tryd.underlying27 T3 (by decide) rfl rfl (Elems.cons (d := (dI .i64)) (xs := _) rfl (Elems.nil _ _ _ _)) ?_
          intro v2613 I2615 w2614 hp hs r2616
          replace o2612 := o2612.step hs
          replace o2052 := o2052.step hs
          replace tb := tb.step hs
          obtain ⟨x2617, q2618, q2344⟩ := bind_some q2344
          refine ev_append hp (i := 1) rfl rfl rfl rfl Tryd.underlying27 T3 rfl rfl o2052 r2616 q2618 ?_
          rintro v2619 e2620 w2621 hp hs o2622
          replace o2612 := o2612.step hs
          replace tb := tb.step hs
          exact ⟨_, (Option.some.inj q2344).symm, (e2611, v2619, e2620, I2615), (.c rfl (.c rfl (.c rfl (.c rfl .n)))), ⟨hp, o2612, o2622, tb⟩⟩
      ·
        have q2344 := cond_f q2344 hc
        apply go
        have q2623 := congrArg some (q2345 _ (Option.some.inj q2344).symm)
        obtain rfl := Option.some.inj q2623
        have hp := hp.sel [1] (by decide)
        exact ⟨(x2049, v2050, e2051, I2053), (.c rfl .n), rfl, hp, o2052, tb⟩
    ·
      rintro ⟨x1758, v1759, e1760, I1762⟩ w1763 ⟨hy, hp, o1761, tb⟩
      replace hy := hy.symm
      subst hy
      apply go
      apply go
      apply go
      obtain rfl := Option.some.inj h
      have r2624 := o1761.frz hp (i := 0) rfl
      obtain ⟨hp, hs⟩ := freeze_hp hp (i := 0) rfl
      replace tb := tb.step hs
      have hp := hp.sel [] (by decide)
      exact ⟨(Ad I1762 e1760), v1759, rfl, hp, r2624⟩

end Go.Proofs.YtgmiencjoghnnaaDoor

namespace Go.Proofs.YtgmiencjoghnnaaDoor
open Go Go.Proofs.YtgmiencjoghnnaaDoor.Gw Go.RowKit
set_option linter.unusedVariables false
attribute [local irreducible] Ev EvQ EvS EvH
def base_Ints_S (f : (List Int) → (List Int) → Option Bool) : Prop := ∀ (w0 : World) (I0 : Nat → Prop) (x5512 : (List Int)) (v5513 : Value) (r5514 : RepS (dI .i64) w0 I0 v5513 x5512) (x5515 : (List Int)) (v5516 : Value) (r5517 : RepS (dI .i64) w0 I0 v5516 x5515) (hI : ∀ g, I0 g → g < w0.heap.size) (r : Bool), f x5512 x5515 = some r →
    Ret Tryd.prog 16 #[v5513, v5516] w0 fun v w1 => v = (.bool r) ∧ Ch [] w0 w1
theorem base_Ints_ok (n : Nat) : base_Ints_S (base_Ints n) := by
  intro w0 I0 x5512 v5513 r5514 x5515 v5516 r5517 hI r h
  unfold base_Ints at h
  refine enter Tryd.func16 rfl (Nat.le_of_ble_eq_true rfl) ?_
  have hp : Hp ⟨w0, I0, []⟩ I0 [] w0 := Hp.start hI
  apply go
  apply go
  apply go
  apply go
  apply go
  refine ev0 (rn_len rfl rfl Tryd.underlying27 r5514) ?_
  refine ev0 (rn_len rfl rfl Tryd.underlying27 r5517) ?_
  apply go
  refine sel_of (fun hc => ?_) (fun hc => ?_)
  ·
    have h := cond_t h hc
    apply go
    apply go
    apply go
    obtain rfl := Option.some.inj h
    exact ⟨rfl, hp.ch⟩
  ·
    have h := cond_f h hc
    apply go
    obtain ⟨y5566, q5567, h⟩ := bind_some h
    refine W.cut (γ := Unit) (fun _ => []) (fun _ w' => y5566 = .go () ∧ Hp ⟨w0, I0, []⟩ I0 [] w') ?_ ?_
    ·
      apply go
      apply go
      apply go
      refine W.loop q5567 (γ := Unit) (fun s _ => [(0, v5513), (1, v5516), (5, (.int .i64 (s)))]) (fun s _ w' => Hp ⟨w0, I0, []⟩ I0 [] w' ∧ RepS (dI .i64) w' I0 v5513 x5512 ∧ RepS (dI .i64) w' I0 v5516 x5515) () (.c rfl (.c rfl (.c rfl .n))) ⟨hp, r5514, r5517⟩ ?_
      rintro x5581 ⟨⟩ w5596 y5597 ⟨hp, r5514, r5517⟩ q5598 q5599
      unfold base_Ints_L1 at q5598
      apply go
      apply go
      apply go
      refine ev0 (rn_len rfl rfl Tryd.underlying27 r5514) ?_
      apply go
      refine sel_of (fun hc => ?_) (fun hc => ?_)
      ·
        have q5598 := cond_t q5598 hc
        apply go
        apply go
        apply go
        apply go
        refine W.quiet (fun w' => Ch [] w5596 w') MX (by kernel_rfl) (Ch.drew [] w5596) ?_
        obtain ⟨x5600, q5601, q5598⟩ := bind_some q5598
        refine evq_index rfl rfl rfl Tryd.underlying27 T3 r5514 q5601 ?_
        intro p5602 c5603 d5604 a5605
        obtain rfl : c5603 = [(.int .i64 x5600)] := d5604
        refine evq (fun w' hw => rn_load rfl rfl (run_loadVar1 T3 ((a5605.step (hp.stp hw)).2 0 _ rfl))) ?_
        obtain ⟨x5606, q5607, q5598⟩ := bind_some q5598
        refine evq_index rfl rfl rfl Tryd.underlying27 T3 r5517 q5607 ?_
        intro p5608 c5609 d5610 a5611
        obtain rfl : c5609 = [(.int .i64 x5606)] := d5610
        refine evq (fun w' hw => rn_load rfl rfl (run_loadVar1 T3 ((a5611.step (hp.stp hw)).2 0 _ rfl))) ?_
        intro w5612 hc
        have hs := hp.stp hc
        replace hp := hp.ext hc
        replace r5514 := r5514.step hs
        replace r5517 := r5517.step hs
        apply go
        refine sel_of (fun hc => ?_) (fun hc => ?_)
        ·
          have q5598 := cond_t q5598 hc
          apply go
          apply go
          apply go
          have q5613 := congrArg some (q5599 _ (Option.some.inj q5598).symm)
          obtain rfl := Option.some.inj q5613
          obtain rfl := Option.some.inj h
          exact ⟨rfl, hp.ch⟩
        ·
          have q5598 := cond_f q5598 hc
          apply go
          apply go
          exact ⟨_, (Option.some.inj q5598).symm, (), (.c rfl (.c rfl (.c rfl .n))), ⟨hp, r5514, r5517⟩⟩
      ·
        have q5598 := cond_f q5598 hc
        apply go
        have q5614 := congrArg some (q5599 _ (Option.some.inj q5598).symm)
        obtain rfl := Option.some.inj q5614
        exact ⟨(), .n, rfl, hp⟩
    ·
      rintro ⟨⟩ w5565 ⟨hy, hp⟩
      replace hy := hy.symm
      subst hy
      apply go
      apply go
      apply go
      obtain rfl := Option.some.inj h
      exact ⟨rfl, hp.ch⟩

end Go.Proofs.YtgmiencjoghnnaaDoor

namespace Go.Proofs.YtgmiencjoghnnaaDoor
open Go Go.Proofs.YtgmiencjoghnnaaDoor.Gw Go.RowKit
set_option linter.unusedVariables false
attribute [local irreducible] Ev EvQ EvS EvH
def ordering_permutation_S (f : Int → (List Int) → Option Bool) : Prop := ∀ (w0 : World) (I0 : Nat → Prop) (x2625 : Int) (x2626 : (List Int)) (v2627 : Value) (r2628 : RepS (dI .i64) w0 I0 v2627 x2626) (hI : ∀ g, I0 g → g < w0.heap.size) (r : Bool), f x2625 x2626 = some r →
    Ret Tryd.prog 47 #[(.int .i64 x2625), v2627] w0 fun v w1 => v = (.bool r) ∧ Ch [] w0 w1
theorem ordering_permutation_ok (n : Nat) : ordering_permutation_S (ordering_permutation n) := by
  intro w0 I0 x2625 x2626 v2627 r2628 hI r h
  unfold ordering_permutation at h
  refine enter Tryd.func47 rfl (Nat.le_of_ble_eq_true rfl) ?_
  have hp : Hp ⟨w0, I0, []⟩ I0 [] w0 := Hp.start hI
  apply go
  apply go
  apply go
  apply go
  apply go
  refine ev0 (rn_len rfl rfl Tryd.underlying27 r2628) ?_
  apply go
  refine sel_of (fun hc => ?_) (fun hc => ?_)
  ·
    have h := cond_t h hc
    apply go
    apply go
    apply go
    obtain rfl := Option.some.inj h
    exact ⟨rfl, hp.ch⟩
  ·
    have h := cond_f h hc
    apply go
    apply go
    apply go
    obtain ⟨y2674, q2675, h⟩ := bind_some h
    refine W.cut (γ := Unit) (fun _ => []) (fun _ w' => y2674 = .go () ∧ w0 = w') ?_ ?_
    ·
      apply go
      apply go
      refine ev0 (rn_len rfl rfl Tryd.underlying27 r2628) ?_
      apply go
      refine W.loop q2675 (γ := Unit) (fun s _ => [(0, (.int .i64 x2625)), (5, (.int .u64 (s.1))), (12, v2627), (13, (.int .i64 (x2626.length : Int))), (14, (.int .i64 (s.2)))]) (fun s _ w' => w0 = w') () (.c rfl (.c rfl (.c rfl (.c rfl (.c rfl .n))))) rfl ?_
      rintro ⟨x2688, x2689⟩ ⟨⟩ _ y2704 rfl q2705 q2706
      unfold ordering_permutation_L1 at q2705
      apply go
      apply go
      apply go
      apply go
      refine sel_of (fun hc => ?_) (fun hc => ?_)
      ·
        have q2705 := cond_t q2705 hc
        apply go
        apply go
        apply go
        apply go
        apply go
        obtain ⟨x2707, q2708, q2705⟩ := bind_some q2705
        refine ev_index rfl rfl rfl Tryd.underlying27 T3 r2628 q2708 ?_
        intro p2709 c2710 d2711 a2712
        obtain rfl : c2710 = [(.int .i64 x2707)] := d2711
        refine ev (rn_load rfl rfl (run_loadVar1 T3 (a2712.2 0 _ rfl))) ?_
        apply go
        obtain ⟨y2715, q2716, q2705⟩ := bind_some q2705
        refine W.cut (γ := Bool) (fun g => [(0, (.int .i64 x2625)), (5, (.int .u64 x2688)), (7, (.int .i64 x2707)), (12, v2627), (13, (.int .i64 (x2626.length : Int))), (14, (.int .i64 x2689)), (31, (.bool (g)))]) (fun g w' => y2715 = (g) ∧ w0 = w') ?_ ?_
        ·
          apply go
          refine sel_of (fun hc => ?_) (fun hc => ?_)
          ·
            have q2716 := cond_t q2716 hc
            obtain rfl := Option.some.inj q2716
            exact ⟨true, (.c rfl (.c rfl (.c rfl (.c rfl (.c rfl (.c rfl (.c rfl .n))))))), rfl, rfl⟩
          ·
            have q2716 := cond_f q2716 hc
            refine sel_of (fun hc => ?_) (fun hc => ?_)
            ·
              have q2716 := cond_t q2716 hc
              obtain rfl := Option.some.inj q2716
              exact ⟨true, (.c rfl (.c rfl (.c rfl (.c rfl (.c rfl (.c rfl (.c rfl .n))))))), rfl, rfl⟩
            ·
              have q2716 := cond_f q2716 hc
              obtain ⟨q2717, _, q2716⟩ := need_some q2716
              refine ⟨q2717, ?_⟩
              obtain rfl := Option.some.inj q2716
              exact ⟨((ib .and .u64 (x2688.fdiv (2 ^ min x2707.toNat (IntKind.u64).bits)) 1) != 0), (.c rfl (.c rfl (.c rfl (.c rfl (.c rfl (.c rfl (.c rfl .n))))))), rfl, rfl⟩
        ·
          rintro x2714 _ ⟨hy, rfl⟩
          replace hy := hy.symm
          subst hy
          apply go
          refine sel_of (fun hc => ?_) (fun hc => ?_)
          ·
            have q2705 := cond_t q2705 hc
            apply go
            apply go
            apply go
            have q2718 := congrArg some (q2706 _ (Option.some.inj q2705).symm)
            obtain rfl := Option.some.inj q2718
            obtain rfl := Option.some.inj h
            exact ⟨rfl, hp.ch⟩
          ·
            have q2705 := cond_f q2705 hc
            apply go
            apply go
            obtain ⟨q2719, _, q2705⟩ := need_some q2705
            refine ⟨q2719, ?_⟩
            apply go
            exact ⟨_, (Option.some.inj q2705).symm, (), (.c rfl (.c rfl (.c rfl (.c rfl (.c rfl .n))))), rfl⟩
      ·
        have q2705 := cond_f q2705 hc
        apply go
        have q2720 := congrArg some (q2706 _ (Option.some.inj q2705).symm)
        obtain rfl := Option.some.inj q2720
        exact ⟨(), .n, rfl, rfl⟩
    ·
      rintro ⟨⟩ _ ⟨hy, rfl⟩
      replace hy := hy.symm
      subst hy
      apply go
      apply go
      apply go
      obtain rfl := Option.some.inj h
      exact ⟨rfl, hp.ch⟩

end Go.Proofs.YtgmiencjoghnnaaDoor

namespace Go.Proofs.YtgmiencjoghnnaaDoor
open Go Go.Proofs.YtgmiencjoghnnaaDoor.Gw Go.RowKit
set_option linter.unusedVariables false
attribute [local irreducible] Ev EvQ EvS EvH
def ordering_filled_S (f : Int → (List Pair) → (List Int) → Option ((List Int) × Int)) : Prop := ∀ (w0 : World) (I0 : Nat → Prop) (tb : At w0 I0 ⟨0, 0, none⟩ (tab64.map (.int .u8))) (x2721 : Int) (x2722 : (List Pair)) (v2723 : Value) (r2724 : RepS dPair w0 I0 v2723 x2722) (x2725 : (List Int)) (v2726 : Value) (r2727 : RepS (dI .i64) w0 I0 v2726 x2725) (hI : ∀ g, I0 g → g < w0.heap.size) (r : ((List Int) × Int)), f x2721 x2722 x2725 = some r →
    Ret Tryd.prog 43 #[(.int .i64 x2721), v2723, v2726] w0 fun v w1 => ∃ (I1 : Nat → Prop) (u2728 : Value) (u2729 : Ent), v = (.tuple #[u2728, (.int .i64 r.2)]) ∧ Hp ⟨w0, I0, []⟩ I1 [u2729] w1 ∧ OwnS (dI .u64) 52 w1 I1 u2728 u2729 r.1
theorem ordering_filled_ok (n : Nat) : ordering_filled_S (ordering_filled n) := by
  intro w0 I0 tb x2721 x2722 v2723 r2724 x2725 v2726 r2727 hI r h
  unfold ordering_filled at h
  refine enter Tryd.func43 rfl (Nat.le_of_ble_eq_true rfl) ?_
  have hp : Hp ⟨w0, I0, []⟩ I0 [] w0 := Hp.start hI
  apply go
  apply go
  apply go
  apply go
  apply go
  obtain ⟨x2730, q2731, h⟩ := bind_some h
  refine ev_call rfl rfl C34 (((ordering_Valid_ok n) _ _  x2721 x2722 v2723 r2724 hp.imm _ q2731).mono ?_)
  rintro _ w2732 ⟨rfl, hc⟩
  have hs := hp.stp hc
  replace hp := hp.ext hc
  replace r2724 := r2724.step hs
  replace r2727 := r2727.step hs
  replace tb := tb.step hs
  apply go
  refine sel_of (fun hc => ?_) (fun hc => ?_)
  ·
    have h := cond_t h hc
    apply go
    apply go
    apply go
    obtain rfl := Option.some.inj h
    have hp := hp.none_
    have o2733 := OwnS.nil (dI .u64) 52 w2732 I0
    exact ⟨I0, (.slice none 0 0), none, rfl, hp, o2733⟩
  ·
    have h := cond_f h hc
    apply go
    apply go
    apply go
    apply go
    obtain ⟨x2734, q2735, h⟩ := bind_some h
    refine ev_call rfl rfl C47 (((ordering_permutation_ok n) _ _  x2721 x2725 v2726 r2727 hp.imm _ q2735).mono ?_)
    rintro _ w2736 ⟨rfl, hc⟩
    have hs := hp.stp hc
    replace hp := hp.ext hc
    replace r2724 := r2724.step hs
    replace r2727 := r2727.step hs
    replace tb := tb.step hs
    apply go
    refine sel_of (fun hc => ?_) (fun hc => ?_)
    ·
      have h := cond_t h hc
      apply go
      apply go
      apply go
      obtain rfl := Option.some.inj h
      have hp := hp.none_
      have o2737 := OwnS.nil (dI .u64) 52 w2736 I0
      exact ⟨I0, (.slice none 0 0), none, rfl, hp, o2737⟩
    ·
      have h := cond_f h hc
      apply go
      apply go
      apply go
      obtain ⟨x2738, q2739, h⟩ := bind_some h
      refine ev_call rfl rfl C36 (((ordering_build_ok n) _ _  x2721 x2722 v2723 r2724 hp.imm _ q2739).mono ?_)
      rintro _ w2740 ⟨I2741, v2742, e2743, hv, hq, o2744⟩
      replace hv := hv.symm
      subst hv
      have hs := hq.st
      have hp := hp.join0 hq
      replace r2727 := r2727.step hs
      replace tb := tb.step hs
      obtain ⟨x2745, q2746, h⟩ := bind_some h
      refine ev_call rfl rfl C37 (((ordering_all_ok n) _ _  x2721 hp.imm _ q2746).mono ?_)
      rintro _ w2747 ⟨rfl, hc⟩
      have hs := hp.stp hc
      replace hp := hp.ext hc
      replace r2727 := r2727.step hs
      replace o2744 := o2744.step hs
      replace tb := tb.step hs
      obtain ⟨y2812, q2813, h⟩ := bind_some h
      refine W.cut (γ := ((List Int) × Ent × (Nat → Prop))) (fun g => [(8, v2742)]) (fun g w' => y2812 = (g.1) ∧ Hp ⟨w0, I0, []⟩ (g.2.2) [(g.2.1)] w' ∧ OwnS (dI .u64) 52 w' (g.2.2) v2742 (g.2.1) (g.1) ∧ At w' (g.2.2) ⟨0, 0, none⟩ (tab64.map (.int .u8))) ?_ ?_
      ·
        apply go
        apply go
        refine ev0 (rn_len rfl rfl Tryd.underlying27 r2727) ?_
        apply go
        refine W.loop q2813 (γ := (Ent × (Nat → Prop))) (fun s g => [(8, v2742), (9, (.int .u64 (s.2.1))), (25, v2726), (26, (.int .i64 (x2725.length : Int))), (27, (.int .i64 (s.2.2)))]) (fun s g w' => Hp ⟨w0, I0, []⟩ (g.2) [(g.1)] w' ∧ OwnS (dI .u64) 52 w' (g.2) v2742 (g.1) (s.1) ∧ RepS (dI .i64) w' (g.2) v2726 x2725 ∧ At w' (g.2) ⟨0, 0, none⟩ (tab64.map (.int .u8))) (e2743, I2741) (.c rfl (.c rfl (.c rfl (.c rfl (.c rfl .n))))) ⟨hp, o2744, r2727, tb⟩ ?_
        rintro ⟨x2827, x2831, x2832⟩ ⟨e2829, I2833⟩ w2854 y2855 ⟨hp, o2830, r2727, tb⟩ q2856 q2857
        unfold ordering_filled_L1 at q2856
        apply go
        apply go
        apply go
        apply go
        refine sel_of (fun hc => ?_) (fun hc => ?_)
        ·
          have q2856 := cond_t q2856 hc
          apply go
          apply go
          apply go
          apply go
          apply go
          obtain ⟨x2858, q2859, q2856⟩ := bind_some q2856
          refine ev_index rfl rfl rfl Tryd.underlying27 T3 r2727 q2859 ?_
          intro p2860 c2861 d2862 a2863
          obtain rfl : c2861 = [(.int .i64 x2858)] := d2862
          refine ev (rn_load rfl rfl (run_loadVar1 T3 (a2863.2 0 _ rfl))) ?_
          apply go
          apply go
          obtain ⟨q2864, _, q2856⟩ := need_some q2856
          refine ⟨q2864, ?_⟩
          apply go
          obtain ⟨x2865, q2866, q2856⟩ := bind_some q2856
          refine ev_call rfl rfl C40 (((ordering_graph_eliminate_ok n) _ _ tb x2827 v2742 e2829 o2830 x2858 (ib .andNot .u64 x2831 (IntKind.u64.wrap ((1 : Int) * 2 ^ min x2858.toNat (IntKind.u64).bits))) (hp.lend (i := 0) rfl) _ q2866).mono ?_)
          rintro _ w2867 ⟨I2868, e2869, hv, hq, o2870, hsame⟩
          replace hv := hv.symm
          subst hv
          have hs := hq.st
          have hp := hp.backO (i := 0) rfl hq hsame
          replace r2727 := r2727.step hs
          replace tb := tb.step hs
          apply go
          exact ⟨_, (Option.some.inj q2856).symm, (e2869, I2868), (.c rfl (.c rfl (.c rfl (.c rfl (.c rfl .n))))), ⟨hp, o2870, r2727, tb⟩⟩
        ·
          have q2856 := cond_f q2856 hc
          apply go
          have q2871 := congrArg some (q2857 _ (Option.some.inj q2856).symm)
          obtain rfl := Option.some.inj q2871
          exact ⟨(x2827, e2829, I2833), (.c rfl .n), rfl, hp, o2830, tb⟩
      ·
        rintro ⟨x2806, e2808, I2810⟩ w2811 ⟨hy, hp, o2809, tb⟩
        replace hy := hy.symm
        subst hy
        apply go
        apply go
        apply go
        obtain rfl := Option.some.inj h
        exact ⟨I2810, v2742, e2808, rfl, hp, o2809⟩

end Go.Proofs.YtgmiencjoghnnaaDoor

namespace Go.Proofs.YtgmiencjoghnnaaDoor
open Go Go.Proofs.YtgmiencjoghnnaaDoor.Gw Go.RowKit
set_option linter.unusedVariables false
attribute [local irreducible] Ev EvQ EvS EvH
def ordering_Fill_S (f : Int → (List Pair) → (List Int) → Option ((List Pair) × Int)) : Prop := ∀ (w0 : World) (I0 : Nat → Prop) (tb : At w0 I0 ⟨0, 0, none⟩ (tab64.map (.int .u8))) (x2872 : Int) (x2873 : (List Pair)) (v2874 : Value) (r2875 : RepS dPair w0 I0 v2874 x2873) (x2876 : (List Int)) (v2877 : Value) (r2878 : RepS (dI .i64) w0 I0 v2877 x2876) (hI : ∀ g, I0 g → g < w0.heap.size) (r : ((List Pair) × Int)), f x2872 x2873 x2876 = some r →
    Ret Tryd.prog 17 #[(.int .i64 x2872), v2874, v2877] w0 fun v w1 => ∃ (I1 : Nat → Prop) (u2879 : Value), v = (.tuple #[u2879, (.int .i64 r.2)]) ∧ Hp ⟨w0, I0, []⟩ I1 [] w1 ∧ RepS dPair w1 I1 u2879 r.1
theorem ordering_Fill_ok (n : Nat) : ordering_Fill_S (ordering_Fill n) := by
  intro w0 I0 tb x2872 x2873 v2874 r2875 x2876 v2877 r2878 hI r h
  unfold ordering_Fill at h
  refine enter Tryd.func17 rfl (Nat.le_of_ble_eq_true rfl) ?_
  have hp : Hp ⟨w0, I0, []⟩ I0 [] w0 := Hp.start hI
  apply go
  apply go
  apply go
  apply go
  obtain ⟨⟨x2880, x2881⟩, q2882, h⟩ := bind_some h
  refine ev_call rfl rfl C43 (((ordering_filled_ok n) _ _ tb x2872 x2873 v2874 r2875 x2876 v2877 r2878 hp.imm _ q2882).mono ?_)
  rintro _ w2883 ⟨I2884, v2885, e2886, hv, hq, o2887⟩
  replace hv := hv.symm
  subst hv
  have hs := hq.st
  have hp := hp.join0 hq
  replace r2875 := r2875.step hs
  replace tb := tb.step hs
  apply go
  apply go
  apply go
  apply go
  refine sel_of (fun hc => ?_) (fun hc => ?_)
  ·
    have h := cond_t h hc
    apply go
    apply go
    apply go
    obtain rfl := Option.some.inj h
    have hp := hp.sel [] (by decide)
    exact ⟨I2884, .slice none 0 0, rfl, hp, RepS.nil _ _ _⟩
  ·
    have h := cond_f h hc
    apply go
    apply go
    apply go
    obtain ⟨x2888, q2889, h⟩ := bind_some h
    refine ev_call rfl rfl C36 (((ordering_build_ok n) _ _  x2872 x2873 v2874 r2875 hp.imm _ q2889).mono ?_)
    rintro _ w2890 ⟨I2891, v2892, e2893, hv, hq, o2894⟩
    replace hv := hv.symm
    subst hv
    have hs := hq.st
    have hp := hp.join0 hq
    replace o2887 := o2887.step hs
    replace tb := tb.step hs
    apply go
    apply go
    obtain ⟨y4205, q4206, h⟩ := bind_some h
    refine W.cut (γ := ((List Pair) × Value × Ent × (Nat → Prop))) (fun g => [(11, (g.2.1))]) (fun g w' => y4205 = (g.1) ∧ Hp ⟨w0, I0, []⟩ (g.2.2.2) [(g.2.2.1)] w' ∧ OwnS dPair 47 w' (g.2.2.2) (g.2.1) (g.2.2.1) (g.1) ∧ At w' (g.2.2.2) ⟨0, 0, none⟩ (tab64.map (.int .u8))) ?_ ?_
    ·
      apply go
      apply go
      apply go
      have hp := hp.none_
      have o5080 := OwnS.nil dPair 47 w2890 I2891
      have hp := hp.perm [2, 1, 0] (by decide)
      refine W.loop q4206 (γ := (Value × Ent × (Nat → Prop))) (fun s g => [(0, (.int .i64 x2872)), (8, v2885), (10, v2892), (11, (g.1)), (27, (.int .i64 x2872)), (28, (.int .i64 (s.2)))]) (fun s g w' => Hp ⟨w0, I0, []⟩ (g.2.2) [e2886, e2893, (g.2.1)] w' ∧ OwnS (dI .u64) 52 w' (g.2.2) v2885 e2886 x2880 ∧ OwnS (dI .u64) 52 w' (g.2.2) v2892 e2893 x2888 ∧ OwnS dPair 47 w' (g.2.2) (g.1) (g.2.1) (s.1) ∧ At w' (g.2.2) ⟨0, 0, none⟩ (tab64.map (.int .u8))) ((.slice none 0 0), none, I2891) (.c rfl (.c rfl (.c rfl (.c rfl (.c rfl (.c rfl .n)))))) ⟨hp, o2887, o2894, o5080, tb⟩ ?_
      rintro ⟨x4641, x4645⟩ ⟨v4642, e4643, I4646⟩ w5079 y5081 ⟨hp, o2887, o2894, o4644, tb⟩ q5082 q5083
      unfold ordering_Fill_L11 at q5082
      apply go
      apply go
      apply go
      apply go
      refine sel_of (fun hc => ?_) (fun hc => ?_)
      ·
        have q5082 := cond_t q5082 hc
        apply go
        obtain ⟨y5299, q5300, q5082⟩ := bind_some q5082
        refine W.cut (γ := ((List Pair) × Value × Ent × (Nat → Prop))) (fun g => [(0, (.int .i64 x2872)), (8, v2885), (10, v2892), (11, (g.2.1)), (27, (.int .i64 x2872)), (28, (.int .i64 x4645))]) (fun g w' => y5299 = (g.1) ∧ Hp ⟨w0, I0, []⟩ (g.2.2.2) [e2886, e2893, (g.2.2.1)] w' ∧ OwnS (dI .u64) 52 w' (g.2.2.2) v2885 e2886 x2880 ∧ OwnS (dI .u64) 52 w' (g.2.2.2) v2892 e2893 x2888 ∧ OwnS dPair 47 w' (g.2.2.2) (g.2.1) (g.2.2.1) (g.1) ∧ At w' (g.2.2.2) ⟨0, 0, none⟩ (tab64.map (.int .u8))) ?_ ?_
        ·
          apply go
          apply go
          apply go
          apply go
          apply go
          apply go
          refine W.loop q5300 (γ := (Value × Ent × (Nat → Prop))) (fun s g => [(0, (.int .i64 x2872)), (8, v2885), (10, v2892), (11, (g.1)), (12, (.int .i64 x4645)), (13, (.int .i64 (s.2))), (27, (.int .i64 x2872)), (28, (.int .i64 x4645))]) (fun s g w' => Hp ⟨w0, I0, []⟩ (g.2.2) [e2886, e2893, (g.2.1)] w' ∧ OwnS (dI .u64) 52 w' (g.2.2) v2885 e2886 x2880 ∧ OwnS (dI .u64) 52 w' (g.2.2) v2892 e2893 x2888 ∧ OwnS dPair 47 w' (g.2.2) (g.1) (g.2.1) (s.1) ∧ At w' (g.2.2) ⟨0, 0, none⟩ (tab64.map (.int .u8))) (v4642, e4643, I4646) (.c rfl (.c rfl (.c rfl (.c rfl (.c rfl (.c rfl (.c rfl (.c rfl .n)))))))) ⟨hp, o2887, o2894, o4644, tb⟩ ?_
          rintro ⟨x5365, x5369⟩ ⟨v5366, e5367, I5370⟩ w5441 y5442 ⟨hp, o2887, o2894, o5368, tb⟩ q5443 q5444
          unfold ordering_Fill_L13 at q5443
          apply go
          apply go
          apply go
          apply go
          refine sel_of (fun hc => ?_) (fun hc => ?_)
          ·
            have q5443 := cond_t q5443 hc
            apply go
            obtain ⟨y5479, q5480, q5443⟩ := bind_some q5443
            refine W.cut (γ := ((List Pair) × Value × Ent × (Nat → Prop))) (fun g => [(0, (.int .i64 x2872)), (8, v2885), (10, v2892), (11, (g.2.1)), (12, (.int .i64 x4645)), (13, (.int .i64 x5369)), (27, (.int .i64 x2872)), (28, (.int .i64 x4645))]) (fun g w' => y5479 = (g.1) ∧ Hp ⟨w0, I0, []⟩ (g.2.2.2) [e2886, e2893, (g.2.2.1)] w' ∧ OwnS (dI .u64) 52 w' (g.2.2.2) v2885 e2886 x2880 ∧ OwnS (dI .u64) 52 w' (g.2.2.2) v2892 e2893 x2888 ∧ OwnS dPair 47 w' (g.2.2.2) (g.2.1) (g.2.2.1) (g.1) ∧ At w' (g.2.2.2) ⟨0, 0, none⟩ (tab64.map (.int .u8))) ?_ ?_
            ·
              apply go
              apply go
              refine W.quiet (fun w' => Ch [] w5441 w') MX (by kernel_rfl) (Ch.drew [] w5441) ?_
              obtain ⟨x5481, q5482, q5480⟩ := bind_some q5480
              refine evq_indexO rfl rfl rfl Tryd.underlying50 T52 o2887 q5482 ?_
              intro g5483 c5484 h5487 d5485 l5486
              refine evq (fun w' hw => rn_load rfl rfl (run_loadVar1 T52 ((hp.ext hw).cellE (i := 0) rfl h5487 d5485 (j := 0) rfl))) ?_
              obtain ⟨x5489, q5490, q5480⟩ := bind_some q5480
              refine evq_indexO rfl rfl rfl Tryd.underlying50 T52 o2894 q5490 ?_
              intro g5491 c5492 h5495 d5493 l5494
              refine evq (fun w' hw => rn_load rfl rfl (run_loadVar1 T52 ((hp.ext hw).cellE (i := 1) rfl h5495 d5493 (j := 0) rfl))) ?_
              obtain ⟨q5497, _, q5480⟩ := need_some q5480
              refine ⟨q5497, ?_⟩
              intro w5498 hc
              have hs := hp.stp hc
              replace hp := hp.ext hc
              replace o2887 := o2887.step hs
              replace o2894 := o2894.step hs
              replace o5368 := o5368.step hs
              replace tb := tb.step hs
              apply go
              refine sel_of (fun hc => ?_) (fun hc => ?_)
              ·
                have q5480 := cond_t q5480 hc
                apply go
                refine ev0 (fun w => rn_build (cs := [(.int .i64 x4645), (.int .i64 x5369)]) rfl rfl T47 PL47 rfl) ?_
                refine ev_litN (d := dPair) (xs := [(Pair.mk x4645 x5369)]) (cs := [(.int .i64 x4645), (.int .i64 x5369)]) hp rfl rfl Tryd.underlying22 T47 (by decide) rfl rfl (Elems.cons (d := dPair) (xs := _) dPair_m (Elems.nil _ _ _ _)) ?_
                intro v5499 I5501 w5500 hp hs r5502
                replace o2887 := o2887.step hs
                replace o2894 := o2894.step hs
                replace o5368 := o5368.step hs
                replace tb := tb.step hs
                obtain ⟨x5503, q5504, q5480⟩ := bind_some q5480
                refine ev_append hp (i := 2) rfl rfl rfl rfl Tryd.underlying22 T47 rfl rfl o5368 r5502 q5504 ?_
                rintro v5505 e5506 w5507 hp hs o5508
                replace o2887 := o2887.step hs
                replace o2894 := o2894.step hs
                replace tb := tb.step hs
                obtain rfl := Option.some.inj q5480
                exact ⟨(x5503, v5505, e5506, I5501), (.c rfl (.c rfl (.c rfl (.c rfl (.c rfl (.c rfl (.c rfl (.c rfl .n)))))))), rfl, hp, o2887, o2894, o5508, tb⟩
              ·
                have q5480 := cond_f q5480 hc
                apply go
                obtain rfl := Option.some.inj q5480
                exact ⟨(x5365, v5366, e5367, I5370), (.c rfl (.c rfl (.c rfl (.c rfl (.c rfl (.c rfl (.c rfl (.c rfl .n)))))))), rfl, hp, o2887, o2894, o5368, tb⟩
            ·
              rintro ⟨x5473, v5474, e5475, I5477⟩ w5478 ⟨hy, hp, o2887, o2894, o5476, tb⟩
              replace hy := hy.symm
              subst hy
              apply go
              exact ⟨_, (Option.some.inj q5443).symm, (v5474, e5475, I5477), (.c rfl (.c rfl (.c rfl (.c rfl (.c rfl (.c rfl (.c rfl (.c rfl .n)))))))), ⟨hp, o2887, o2894, o5476, tb⟩⟩
          ·
            have q5443 := cond_f q5443 hc
            apply go
            have q5509 := congrArg some (q5444 _ (Option.some.inj q5443).symm)
            obtain rfl := Option.some.inj q5509
            exact ⟨(x5365, v5366, e5367, I5370), (.c rfl (.c rfl (.c rfl (.c rfl (.c rfl (.c rfl .n)))))), rfl, hp, o2887, o2894, o5368, tb⟩
        ·
          rintro ⟨x5293, v5294, e5295, I5297⟩ w5298 ⟨hy, hp, o2887, o2894, o5296, tb⟩
          replace hy := hy.symm
          subst hy
          apply go
          exact ⟨_, (Option.some.inj q5082).symm, (v5294, e5295, I5297), (.c rfl (.c rfl (.c rfl (.c rfl (.c rfl (.c rfl .n)))))), ⟨hp, o2887, o2894, o5296, tb⟩⟩
      ·
        have q5082 := cond_f q5082 hc
        apply go
        have q5510 := congrArg some (q5083 _ (Option.some.inj q5082).symm)
        obtain rfl := Option.some.inj q5510
        have hp := hp.sel [2] (by decide)
        exact ⟨(x4641, v4642, e4643, I4646), (.c rfl .n), rfl, hp, o4644, tb⟩
    ·
      rintro ⟨x4199, v4200, e4201, I4203⟩ w4204 ⟨hy, hp, o4202, tb⟩
      replace hy := hy.symm
      subst hy
      apply go
      apply go
      apply go
      obtain rfl := Option.some.inj h
      have r5511 := o4202.frz hp (i := 0) rfl
      obtain ⟨hp, hs⟩ := freeze_hp hp (i := 0) rfl
      replace tb := tb.step hs
      have hp := hp.sel [] (by decide)
      exact ⟨(Ad I4203 e4201), v4200, rfl, hp, r5511⟩

end Go.Proofs.YtgmiencjoghnnaaDoor

namespace Go.Proofs.YtgmiencjoghnnaaDoor
open Go Go.Proofs.YtgmiencjoghnnaaDoor.Gw Go.RowKit
set_option linter.unusedVariables false
attribute [local irreducible] Ev EvQ EvS EvH
def base_Pairs_S (f : (List Pair) → (List Pair) → Option Bool) : Prop := ∀ (w0 : World) (I0 : Nat → Prop) (x5615 : (List Pair)) (v5616 : Value) (r5617 : RepS dPair w0 I0 v5616 x5615) (x5618 : (List Pair)) (v5619 : Value) (r5620 : RepS dPair w0 I0 v5619 x5618) (hI : ∀ g, I0 g → g < w0.heap.size) (r : Bool), f x5615 x5618 = some r →
    Ret Tryd.prog 19 #[v5616, v5619] w0 fun v w1 => v = (.bool r) ∧ Ch [] w0 w1
theorem base_Pairs_ok (n : Nat) : base_Pairs_S (base_Pairs n) := by
  intro w0 I0 x5615 v5616 r5617 x5618 v5619 r5620 hI r h
  unfold base_Pairs at h
  refine enter Tryd.func19 rfl (Nat.le_of_ble_eq_true rfl) ?_
  have hp : Hp ⟨w0, I0, []⟩ I0 [] w0 := Hp.start hI
  apply go
  apply go
  apply go
  apply go
  apply go
  refine ev0 (rn_len rfl rfl Tryd.underlying22 r5617) ?_
  refine ev0 (rn_len rfl rfl Tryd.underlying22 r5620) ?_
  apply go
  refine sel_of (fun hc => ?_) (fun hc => ?_)
  ·
    have h := cond_t h hc
    apply go
    apply go
    apply go
    obtain rfl := Option.some.inj h
    exact ⟨rfl, hp.ch⟩
  ·
    have h := cond_f h hc
    apply go
    obtain ⟨y5669, q5670, h⟩ := bind_some h
    refine W.cut (γ := Unit) (fun _ => []) (fun _ w' => y5669 = .go () ∧ Hp ⟨w0, I0, []⟩ I0 [] w') ?_ ?_
    ·
      apply go
      apply go
      apply go
      refine W.loop q5670 (γ := Unit) (fun s _ => [(0, v5616), (1, v5619), (5, (.int .i64 (s)))]) (fun s _ w' => Hp ⟨w0, I0, []⟩ I0 [] w' ∧ RepS dPair w' I0 v5616 x5615 ∧ RepS dPair w' I0 v5619 x5618) () (.c rfl (.c rfl (.c rfl .n))) ⟨hp, r5617, r5620⟩ ?_
      rintro x5684 ⟨⟩ w5699 y5700 ⟨hp, r5617, r5620⟩ q5701 q5702
      unfold base_Pairs_L1 at q5701
      apply go
      apply go
      apply go
      refine ev0 (rn_len rfl rfl Tryd.underlying22 r5617) ?_
      apply go
      refine sel_of (fun hc => ?_) (fun hc => ?_)
      ·
        have q5701 := cond_t q5701 hc
        apply go
        apply go
        apply go
        apply go
        refine W.quiet (fun w' => Ch [] w5699 w') MX (by kernel_rfl) (Ch.drew [] w5699) ?_
        obtain ⟨x5703, q5704, q5701⟩ := bind_some q5701
        refine evq_index rfl rfl rfl Tryd.underlying22 T47 r5617 q5704 ?_
        intro p5705 c5706 d5707 a5708
        obtain rfl := dPair_o d5707
        refine evq (fun w' hw => rn_load rfl rfl (run_loadVarA T47 rfl (a5708.step (hp.stp hw)))) ?_
        obtain ⟨x5709, q5710, q5701⟩ := bind_some q5701
        refine evq_index rfl rfl rfl Tryd.underlying22 T47 r5620 q5710 ?_
        intro p5711 c5712 d5713 a5714
        obtain rfl := dPair_o d5713
        refine evq (fun w' hw => rn_load rfl rfl (run_loadVarA T47 rfl (a5714.step (hp.stp hw)))) ?_
        refine evq0 (rn_neA rfl rfl rfl (EQ47 x5703.A x5703.B x5709.A x5709.B)) ?_
        intro w5715 hc
        have hs := hp.stp hc
        replace hp := hp.ext hc
        replace r5617 := r5617.step hs
        replace r5620 := r5620.step hs
        apply go
        refine sel_of (fun hc => ?_) (fun hc => ?_)
        ·
          have q5701 := cond_t q5701 hc
          apply go
          apply go
          apply go
          have q5716 := congrArg some (q5702 _ (Option.some.inj q5701).symm)
          obtain rfl := Option.some.inj q5716
          obtain rfl := Option.some.inj h
          exact ⟨rfl, hp.ch⟩
        ·
          have q5701 := cond_f q5701 hc
          apply go
          apply go
          exact ⟨_, (Option.some.inj q5701).symm, (), (.c rfl (.c rfl (.c rfl .n))), ⟨hp, r5617, r5620⟩⟩
      ·
        have q5701 := cond_f q5701 hc
        apply go
        have q5717 := congrArg some (q5702 _ (Option.some.inj q5701).symm)
        obtain rfl := Option.some.inj q5717
        exact ⟨(), .n, rfl, hp⟩
    ·
      rintro ⟨⟩ w5668 ⟨hy, hp⟩
      replace hy := hy.symm
      subst hy
      apply go
      apply go
      apply go
      obtain rfl := Option.some.inj h
      exact ⟨rfl, hp.ch⟩

end Go.Proofs.YtgmiencjoghnnaaDoor

namespace Go.Proofs.YtgmiencjoghnnaaDoor
open Go Go.Proofs.YtgmiencjoghnnaaDoor.Gw Go.RowKit
set_option linter.unusedVariables false
attribute [local irreducible] Ev EvQ EvS EvH
def law26_awake_S (f : Option Bool) : Prop := ∀ (w0 : World) (I0 : Nat → Prop) (tb : At w0 I0 ⟨0, 0, none⟩ (tab64.map (.int .u8)))  (hI : ∀ g, I0 g → g < w0.heap.size) (r : Bool), f  = some r →
    Ret Tryd.prog 12 #[] w0 fun v w1 => v = (.bool r) ∧ Ch [] w0 w1
theorem law26_awake_ok (n : Nat) : law26_awake_S (law26_awake n) := by
  intro w0 I0 tb hI r h
  unfold law26_awake at h
  refine enter Tryd.func12 rfl (Nat.le_of_ble_eq_true rfl) ?_
  have hp : Hp ⟨w0, I0, []⟩ I0 [] w0 := Hp.start hI
  apply go
  apply go
  apply go
  apply go
  refine ev0 (fun w => rn_build (cs := [(.int .i64 0), (.int .i64 1)]) rfl rfl T47 PL47 rfl) ?_
  refine ev0 (fun w => rn_build (cs := [(.int .i64 0), (.int .i64 3)]) rfl rfl T47 PL47 rfl) ?_
  refine ev0 (fun w => rn_build (cs := [(.int .i64 1), (.int .i64 2)]) rfl rfl T47 PL47 rfl) ?_
  refine ev0 (fun w => rn_build (cs := [(.int .i64 2), (.int .i64 3)]) rfl rfl T47 PL47 rfl) ?_
  refine ev_litN (d := dPair) (xs := [(Pair.mk 0 1), (Pair.mk 0 3), (Pair.mk 1 2), (Pair.mk 2 3)]) (cs := [(.int .i64 0), (.int .i64 1), (.int .i64 0), (.int .i64 3), (.int .i64 1), (.int .i64 2), (.int .i64 2), (.int .i64 3)]) hp rfl rfl Tryd.underlying22 T47 (by decide) rfl rfl (Elems.cons (d := dPair) (xs := _) dPair_m (Elems.cons (d := dPair) (xs := _) dPair_m (Elems.cons (d := dPair) (xs := _) dPair_m (Elems.cons (d := dPair) (xs := _) dPair_m (Elems.nil _ _ _ _))))) ?_
  intro v5718 I5720 w5719 hp hs r5721
  replace tb := tb.step hs
  apply go
  apply go
  obtain ⟨⟨x5722, x5723⟩, q5724, h⟩ := bind_some h
  refine ev_call rfl rfl C14 (((ordering_MinDegree_ok n) _ _ tb 4 [(Pair.mk 0 1), (Pair.mk 0 3), (Pair.mk 1 2), (Pair.mk 2 3)] v5718 r5721 hp.imm _ q5724).mono ?_)
  rintro _ w5725 ⟨I5726, v5727, hv, hq, r5728⟩
  replace hv := hv.symm
  subst hv
  have hs := hq.st
  have hp := hp.join0 hq
  replace r5721 := r5721.step hs
  replace tb := tb.step hs
  apply go
  apply go
  refine ev_litN (d := (dI .i64)) (xs := [0, 1, 2, 3]) (cs := [(.int .i64 0), (.int .i64 1), (.int .i64 2), (.int .i64 3)]) hp rfl rfl Tryd.underlying27 T3 (by decide) rfl rfl (Elems.cons (d := (dI .i64)) (xs := _) rfl (Elems.cons (d := (dI .i64)) (xs := _) rfl (Elems.cons (d := (dI .i64)) (xs := _) rfl (Elems.cons (d := (dI .i64)) (xs := _) rfl (Elems.nil _ _ _ _))))) ?_
  intro v5729 I5731 w5730 hp hs r5732
  replace r5728 := r5728.step hs
  replace r5721 := r5721.step hs
  replace tb := tb.step hs
  obtain ⟨⟨x5733, x5734⟩, q5735, h⟩ := bind_some h
  refine ev_call rfl rfl C17 (((ordering_Fill_ok n) _ _ tb 4 [(Pair.mk 0 1), (Pair.mk 0 3), (Pair.mk 1 2), (Pair.mk 2 3)] v5718 r5721 [0, 1, 2, 3] v5729 r5732 hp.imm _ q5735).mono ?_)
  rintro _ w5736 ⟨I5737, v5738, hv, hq, r5739⟩
  replace hv := hv.symm
  subst hv
  have hs := hq.st
  have hp := hp.join0 hq
  replace r5728 := r5728.step hs
  replace tb := tb.step hs
  obtain ⟨y5757, q5758, h⟩ := bind_some h
  refine W.cut (γ := (Bool × (Nat → Prop))) (fun g => [(0, (.bool (g.1)))]) (fun g w' => y5757 = (g.1) ∧ Hp ⟨w0, I0, []⟩ (g.2) [] w' ∧ At w' (g.2) ⟨0, 0, none⟩ (tab64.map (.int .u8))) ?_ ?_
  ·
    apply go
    refine sel_of (fun hc => ?_) (fun hc => ?_)
    ·
      have q5758 := cond_t q5758 hc
      refine ev_litN (d := (dI .i64)) (xs := [0, 1, 2, 3]) (cs := [(.int .i64 0), (.int .i64 1), (.int .i64 2), (.int .i64 3)]) hp rfl rfl Tryd.underlying27 T3 (by decide) rfl rfl (Elems.cons (d := (dI .i64)) (xs := _) rfl (Elems.cons (d := (dI .i64)) (xs := _) rfl (Elems.cons (d := (dI .i64)) (xs := _) rfl (Elems.cons (d := (dI .i64)) (xs := _) rfl (Elems.nil _ _ _ _))))) ?_
      intro v5759 I5761 w5760 hp hs r5762
      replace r5739 := r5739.step hs
      replace r5728 := r5728.step hs
      replace tb := tb.step hs
      obtain ⟨x5763, q5764, q5758⟩ := bind_some q5758
      refine ev_call rfl rfl C16 (((base_Ints_ok n) _ _  x5722 v5727 r5728 [0, 1, 2, 3] v5759 r5762 hp.imm _ q5764).mono ?_)
      rintro _ w5765 ⟨rfl, hc⟩
      have hs := hp.stp hc
      replace hp := hp.ext hc
      replace r5739 := r5739.step hs
      replace tb := tb.step hs
      refine sel_of (fun hc => ?_) (fun hc => ?_)
      ·
        have q5758 := cond_t q5758 hc
        refine sel_of (fun hc => ?_) (fun hc => ?_)
        ·
          have q5758 := cond_t q5758 hc
          refine ev0 (fun w => rn_build (cs := [(.int .i64 1), (.int .i64 3)]) rfl rfl T47 PL47 rfl) ?_
          refine ev_litN (d := dPair) (xs := [(Pair.mk 1 3)]) (cs := [(.int .i64 1), (.int .i64 3)]) hp rfl rfl Tryd.underlying22 T47 (by decide) rfl rfl (Elems.cons (d := dPair) (xs := _) dPair_m (Elems.nil _ _ _ _)) ?_
          intro v5766 I5768 w5767 hp hs r5769
          replace r5739 := r5739.step hs
          replace tb := tb.step hs
          obtain ⟨x5770, q5771, q5758⟩ := bind_some q5758
          refine ev_call rfl rfl C19 (((base_Pairs_ok n) _ _  x5733 v5738 r5739 [(Pair.mk 1 3)] v5766 r5769 hp.imm _ q5771).mono ?_)
          rintro _ w5772 ⟨rfl, hc⟩
          have hs := hp.stp hc
          replace hp := hp.ext hc
          replace tb := tb.step hs
          obtain rfl := Option.some.inj q5758
          exact ⟨(x5770, I5768), (.c rfl .n), rfl, hp, tb⟩
        ·
          have q5758 := cond_f q5758 hc
          obtain rfl := Option.some.inj q5758
          exact ⟨(false, I5761), (.c rfl .n), rfl, hp, tb⟩
      ·
        have q5758 := cond_f q5758 hc
        obtain rfl := Option.some.inj q5758
        exact ⟨(false, I5761), (.c rfl .n), rfl, hp, tb⟩
    ·
      have q5758 := cond_f q5758 hc
      obtain rfl := Option.some.inj q5758
      exact ⟨(false, I5737), (.c rfl .n), rfl, hp, tb⟩
  ·
    rintro ⟨x5754, I5755⟩ w5756 ⟨hy, hp, tb⟩
    replace hy := hy.symm
    subst hy
    apply go
    obtain rfl := Option.some.inj h
    exact ⟨rfl, hp.ch⟩

end Go.Proofs.YtgmiencjoghnnaaDoor

namespace Go.Proofs.YtgmiencjoghnnaaDoor
open Go Go.Proofs.YtgmiencjoghnnaaDoor.Gw Go.RowKit
set_option linter.unusedVariables false
attribute [local irreducible] Ev EvQ EvS EvH
def law26_few_S (f : Graph → Option Bool) : Prop := ∀ (w0 : World) (I0 : Nat → Prop) (x5773 : Graph) (v5774 : Value) (r5775 : RepS dPair w0 I0 v5774 x5773.E) (hI : ∀ g, I0 g → g < w0.heap.size) (r : Bool), f x5773 = some r →
    Ret Tryd.prog 13 #[(.agg #[(.int .i64 x5773.N), v5774])] w0 fun v w1 => v = (.bool r) ∧ Ch [] w0 w1
theorem law26_few_ok (n : Nat) : law26_few_S (law26_few n) := by
  intro w0 I0 x5773 v5774 r5775 hI r h
  unfold law26_few at h
  refine enter Tryd.func13 rfl (Nat.le_of_ble_eq_true rfl) ?_
  have hp : Hp ⟨w0, I0, []⟩ I0 [] w0 := Hp.start hI
  apply go
  apply go
  refine ev_boxI hp rfl rfl ?_
  intro p5778 I5779 w5777 hp hs a5780
  replace r5775 := r5775.step hs
  obtain ⟨y5782, q5783, h⟩ := bind_some h
  refine W.cut (γ := Bool) (fun g => [(2, (.bool (g)))]) (fun g w' => y5782 = (g) ∧ w5777 = w') ?_ ?_
  ·
    apply go
    refine ev0 (rn_field rfl rfl FO24_1) ?_
    refine ev (rn_load rfl rfl (run_loadVar1 T22 (a5780.2 1 _ rfl))) ?_
    refine ev0 (rn_len rfl rfl Tryd.underlying22 r5775) ?_
    refine sel_of (fun hc => ?_) (fun hc => ?_)
    ·
      have q5783 := cond_t q5783 hc
      refine ev0 (rn_field rfl rfl FO24_0) ?_
      refine ev (rn_load rfl rfl (run_loadVar1 T3 (a5780.2 0 _ rfl))) ?_
      obtain rfl := Option.some.inj q5783
      exact ⟨(decide (x5773.N ≤ 24)), (.c rfl .n), rfl, rfl⟩
    ·
      have q5783 := cond_f q5783 hc
      obtain rfl := Option.some.inj q5783
      exact ⟨false, (.c rfl .n), rfl, rfl⟩
  ·
    rintro x5781 _ ⟨hy, rfl⟩
    replace hy := hy.symm
    subst hy
    apply go
    obtain rfl := Option.some.inj h
    exact ⟨rfl, hp.ch⟩

end Go.Proofs.YtgmiencjoghnnaaDoor

namespace Go.Proofs.YtgmiencjoghnnaaDoor
open Go Go.Proofs.YtgmiencjoghnnaaDoor.Gw Go.RowKit
set_option linter.unusedVariables false
attribute [local irreducible] Ev EvQ EvS EvH
def ordering_Tree_S (f : Int → (List Pair) → (List Int) → Option ((List Int) × Int)) : Prop := ∀ (w0 : World) (I0 : Nat → Prop) (tb : At w0 I0 ⟨0, 0, none⟩ (tab64.map (.int .u8))) (x34433 : Int) (x34434 : (List Pair)) (v34435 : Value) (r34436 : RepS dPair w0 I0 v34435 x34434) (x34437 : (List Int)) (v34438 : Value) (r34439 : RepS (dI .i64) w0 I0 v34438 x34437) (hI : ∀ g, I0 g → g < w0.heap.size) (r : ((List Int) × Int)), f x34433 x34434 x34437 = some r →
    Ret Tryd.prog 25 #[(.int .i64 x34433), v34435, v34438] w0 fun v w1 => ∃ (I1 : Nat → Prop) (u34440 : Value), v = (.tuple #[u34440, (.int .i64 r.2)]) ∧ Hp ⟨w0, I0, []⟩ I1 [] w1 ∧ RepS (dI .i64) w1 I1 u34440 r.1
theorem ordering_Tree_ok (n : Nat) : ordering_Tree_S (ordering_Tree n) := by
  intro w0 I0 tb x34433 x34434 v34435 r34436 x34437 v34438 r34439 hI r h
  unfold ordering_Tree at h
  refine enter Tryd.func25 rfl (Nat.le_of_ble_eq_true rfl) ?_
  have hp : Hp ⟨w0, I0, []⟩ I0 [] w0 := Hp.start hI
  apply go
  apply go
  apply go
  apply go
  obtain ⟨⟨x34441, x34442⟩, q34443, h⟩ := bind_some h
  refine ev_call rfl rfl C43 (((ordering_filled_ok n) _ _ tb x34433 x34434 v34435 r34436 x34437 v34438 r34439 hp.imm _ q34443).mono ?_)
  rintro _ w34444 ⟨I34445, v34446, e34447, hv, hq, o34448⟩
  replace hv := hv.symm
  subst hv
  have hs := hq.st
  have hp := hp.join0 hq
  replace r34439 := r34439.step hs
  replace tb := tb.step hs
  apply go
  apply go
  apply go
  apply go
  refine sel_of (fun hc => ?_) (fun hc => ?_)
  ·
    have h := cond_t h hc
    apply go
    apply go
    apply go
    obtain rfl := Option.some.inj h
    have hp := hp.sel [] (by decide)
    exact ⟨I34445, .slice none 0 0, rfl, hp, RepS.nil _ _ _⟩
  ·
    have h := cond_f h hc
    apply go
    apply go
    apply go
    obtain ⟨x34449, q34450, h⟩ := bind_some h
    refine ev_make (d := (dI .i64)) (x0 := 0) hp rfl rfl rfl Tryd.underlying27 T3 (fun _ _ => rfl) (Nat.le_of_ble_eq_true rfl) q34450 ?_
    intro v34451 e34452 w34453 hp hs o34454
    replace r34439 := r34439.step hs
    replace o34448 := o34448.step hs
    replace tb := tb.step hs
    obtain ⟨y35180, q35181, h⟩ := bind_some h
    refine W.cut (γ := ((List Int) × Ent)) (fun g => [(10, v34451)]) (fun g w' => y35180 = (g.1) ∧ Hp ⟨w0, I0, []⟩ I34445 [(g.2)] w' ∧ OwnS (dI .i64) 3 w' I34445 v34451 (g.2) (g.1) ∧ At w' I34445 ⟨0, 0, none⟩ (tab64.map (.int .u8))) ?_ ?_
    ·
      apply go
      apply go
      refine ev0 (rn_len rfl rfl Tryd.underlying27 r34439) ?_
      apply go
      have hp := hp.perm [1, 0] (by decide)
      refine W.loop q35181 (γ := Ent) (fun s g => [(2, v34438), (8, v34446), (10, v34451), (27, v34438), (28, (.int .i64 (x34437.length : Int))), (29, (.int .i64 (s.2)))]) (fun s g w' => Hp ⟨w0, I0, []⟩ I34445 [e34447, (g)] w' ∧ RepS (dI .i64) w' I34445 v34438 x34437 ∧ OwnS (dI .u64) 52 w' I34445 v34446 e34447 x34441 ∧ OwnS (dI .i64) 3 w' I34445 v34451 (g) (s.1) ∧ At w' I34445 ⟨0, 0, none⟩ (tab64.map (.int .u8))) e34452 (.c rfl (.c rfl (.c rfl (.c rfl (.c rfl (.c rfl .n)))))) ⟨hp, r34439, o34448, o34454, tb⟩ ?_
      rintro ⟨x35417, x35421⟩ e35419 w35662 y35663 ⟨hp, r34439, o34448, o35420, tb⟩ q35664 q35665
      unfold ordering_Tree_L11 at q35664
      apply go
      apply go
      apply go
      apply go
      refine sel_of (fun hc => ?_) (fun hc => ?_)
      ·
        have q35664 := cond_t q35664 hc
        apply go
        obtain ⟨y35785, q35786, q35664⟩ := bind_some q35664
        refine W.cut (γ := ((List Int) × Ent)) (fun g => [(2, v34438), (8, v34446), (10, v34451), (27, v34438), (28, (.int .i64 (x34437.length : Int))), (29, (.int .i64 x35421))]) (fun g w' => y35785 = (g.1) ∧ Hp ⟨w0, I0, []⟩ I34445 [e34447, (g.2)] w' ∧ RepS (dI .i64) w' I34445 v34438 x34437 ∧ OwnS (dI .u64) 52 w' I34445 v34446 e34447 x34441 ∧ OwnS (dI .i64) 3 w' I34445 v34451 (g.2) (g.1) ∧ At w' I34445 ⟨0, 0, none⟩ (tab64.map (.int .u8))) ?_ ?_
        ·
          apply go
          apply go
          apply go
          obtain ⟨x35787, q35788, q35786⟩ := bind_some q35786
          refine ev_index rfl rfl rfl Tryd.underlying27 T3 r34439 q35788 ?_
          intro p35789 c35790 d35791 a35792
          obtain rfl : c35790 = [(.int .i64 x35787)] := d35791
          refine ev (rn_load rfl rfl (run_loadVar1 T3 (a35792.2 0 _ rfl))) ?_
          apply go
          apply go
          obtain ⟨x35793, q35794, q35786⟩ := bind_some q35786
          refine ev_indexO rfl rfl rfl Tryd.underlying27 T3 o35420 q35794 ?_
          intro g35795 c35796 h35799 d35797 l35798
          refine ev_storeE hp (i := 1) rfl h35799 rfl rfl rfl T3 o35420 q35794 (x0 := (-1)) rfl ?_
          intro e35802 w35801 hp hs o35803
          replace r34439 := r34439.step hs
          replace o34448 := o34448.step hs
          replace tb := tb.step hs
          apply go
          apply go
          obtain ⟨x35806, q35807, q35786⟩ := bind_some q35786
          refine ev_slice (kl := .i64) (kh := .i64) rfl rfl rfl rfl Tryd.underlying27 T3 r34439 q35807 ?_
          intro v35808 r35809
          refine ev0 (rn_len rfl rfl Tryd.underlying27 r35809) ?_
          apply go
          refine W.loop q35786 (γ := Unit) (fun s _ => [(2, v34438), (8, v34446), (10, v34451), (12, (.int .i64 x35787)), (27, v34438), (28, (.int .i64 (x34437.length : Int))), (29, (.int .i64 x35421)), (40, v35808), (41, (.int .i64 (x35806.length : Int))), (42, (.int .i64 (s)))]) (fun s _ w' => w35801 = w') () (.c rfl (.c rfl (.c rfl (.c rfl (.c rfl (.c rfl (.c rfl (.c rfl (.c rfl (.c rfl .n)))))))))) rfl ?_
          rintro x35838 ⟨⟩ _ y35868 rfl q35869 q35870
          unfold ordering_Tree_L13 at q35869
          apply go
          apply go
          apply go
          apply go
          refine sel_of (fun hc => ?_) (fun hc => ?_)
          ·
            have q35869 := cond_t q35869 hc
            apply go
            apply go
            apply go
            apply go
            apply go
            obtain ⟨x35871, q35872, q35869⟩ := bind_some q35869
            refine ev_index rfl rfl rfl Tryd.underlying27 T3 r35809 q35872 ?_
            intro p35873 c35874 d35875 a35876
            obtain rfl : c35874 = [(.int .i64 x35871)] := d35875
            refine ev (rn_load rfl rfl (run_loadVar1 T3 (a35876.2 0 _ rfl))) ?_
            apply go
            apply go
            obtain ⟨x35877, q35878, q35869⟩ := bind_some q35869
            refine ev_indexO rfl rfl rfl Tryd.underlying50 T52 o34448 q35878 ?_
            intro g35879 c35880 h35883 d35881 l35882
            refine ev (rn_load rfl rfl (run_loadVar1 T52 (hp.cellE (i := 0) rfl h35883 d35881 (j := 0) rfl))) ?_
            obtain ⟨q35885, _, q35869⟩ := need_some q35869
            refine ⟨q35885, ?_⟩
            apply go
            refine sel_of (fun hc => ?_) (fun hc => ?_)
            ·
              have q35869 := cond_t q35869 hc
              apply go
              apply go
              obtain ⟨x35886, q35887, q35869⟩ := bind_some q35869
              refine ev_indexO rfl rfl rfl Tryd.underlying27 T3 o35803 q35887 ?_
              intro g35888 c35889 h35892 d35890 l35891
              refine ev_storeE hp (i := 1) rfl h35892 rfl rfl rfl T3 o35803 q35887 (x0 := x35871) rfl ?_
              intro e35895 w35894 hp hs o35896
              replace r34439 := r34439.step hs
              replace o34448 := o34448.step hs
              replace tb := tb.step hs
              apply go
              have q35899 := congrArg some (q35870 _ (Option.some.inj q35869).symm)
              obtain rfl := Option.some.inj q35899
              exact ⟨((upd (upd x35417 x35787 (-1)) x35787 x35871), e35895), (.c rfl (.c rfl (.c rfl (.c rfl (.c rfl (.c rfl .n)))))), rfl, hp, r34439, o34448, o35896, tb⟩
            ·
              have q35869 := cond_f q35869 hc
              apply go
              apply go
              exact ⟨_, (Option.some.inj q35869).symm, (), (.c rfl (.c rfl (.c rfl (.c rfl (.c rfl (.c rfl (.c rfl (.c rfl (.c rfl (.c rfl .n)))))))))), rfl⟩
          ·
            have q35869 := cond_f q35869 hc
            apply go
            have q35900 := congrArg some (q35870 _ (Option.some.inj q35869).symm)
            obtain rfl := Option.some.inj q35900
            exact ⟨((upd x35417 x35787 (-1)), e35802), (.c rfl (.c rfl (.c rfl (.c rfl (.c rfl (.c rfl .n)))))), rfl, hp, r34439, o34448, o35803, tb⟩
        ·
          rintro ⟨x35780, e35782⟩ w35784 ⟨hy, hp, r34439, o34448, o35783, tb⟩
          replace hy := hy.symm
          subst hy
          apply go
          exact ⟨_, (Option.some.inj q35664).symm, e35782, (.c rfl (.c rfl (.c rfl (.c rfl (.c rfl (.c rfl .n)))))), ⟨hp, r34439, o34448, o35783, tb⟩⟩
      ·
        have q35664 := cond_f q35664 hc
        apply go
        have q35901 := congrArg some (q35665 _ (Option.some.inj q35664).symm)
        obtain rfl := Option.some.inj q35901
        have hp := hp.sel [1] (by decide)
        exact ⟨(x35417, e35419), (.c rfl .n), rfl, hp, o35420, tb⟩
    ·
      rintro ⟨x35175, e35177⟩ w35179 ⟨hy, hp, o35178, tb⟩
      replace hy := hy.symm
      subst hy
      apply go
      apply go
      apply go
      obtain rfl := Option.some.inj h
      have r35902 := o35178.frz hp (i := 0) rfl
      obtain ⟨hp, hs⟩ := freeze_hp hp (i := 0) rfl
      replace tb := tb.step hs
      have hp := hp.sel [] (by decide)
      exact ⟨(Ad I34445 e35177), v34451, rfl, hp, r35902⟩

end Go.Proofs.YtgmiencjoghnnaaDoor

namespace Go.Proofs.YtgmiencjoghnnaaDoor
open Go Go.Proofs.YtgmiencjoghnnaaDoor.Gw Go.RowKit
set_option linter.unusedVariables false
attribute [local irreducible] Ev EvQ EvS EvH
def ordering_Height_S (f : Int → (List Pair) → (List Int) → Option (Int × Int)) : Prop := ∀ (w0 : World) (I0 : Nat → Prop) (tb : At w0 I0 ⟨0, 0, none⟩ (tab64.map (.int .u8))) (x35903 : Int) (x35904 : (List Pair)) (v35905 : Value) (r35906 : RepS dPair w0 I0 v35905 x35904) (x35907 : (List Int)) (v35908 : Value) (r35909 : RepS (dI .i64) w0 I0 v35908 x35907) (hI : ∀ g, I0 g → g < w0.heap.size) (r : (Int × Int)), f x35903 x35904 x35907 = some r →
    Ret Tryd.prog 26 #[(.int .i64 x35903), v35905, v35908] w0 fun v w1 => v = (.tuple #[(.int .i64 r.1), (.int .i64 r.2)]) ∧ Ch [] w0 w1
theorem ordering_Height_ok (n : Nat) : ordering_Height_S (ordering_Height n) := by
  intro w0 I0 tb x35903 x35904 v35905 r35906 x35907 v35908 r35909 hI r h
  unfold ordering_Height at h
  refine enter Tryd.func26 rfl (Nat.le_of_ble_eq_true rfl) ?_
  have hp : Hp ⟨w0, I0, []⟩ I0 [] w0 := Hp.start hI
  apply go
  apply go
  apply go
  apply go
  obtain ⟨⟨x35910, x35911⟩, q35912, h⟩ := bind_some h
  refine ev_call rfl rfl C25 (((ordering_Tree_ok n) _ _ tb x35903 x35904 v35905 r35906 x35907 v35908 r35909 hp.imm _ q35912).mono ?_)
  rintro _ w35913 ⟨I35914, v35915, hv, hq, r35916⟩
  replace hv := hv.symm
  subst hv
  have hs := hq.st
  have hp := hp.join0 hq
  replace r35909 := r35909.step hs
  replace tb := tb.step hs
  apply go
  apply go
  apply go
  apply go
  refine sel_of (fun hc => ?_) (fun hc => ?_)
  ·
    have h := cond_t h hc
    apply go
    apply go
    apply go
    obtain rfl := Option.some.inj h
    exact ⟨rfl, hp.ch⟩
  ·
    have h := cond_f h hc
    apply go
    apply go
    apply go
    obtain ⟨x35917, q35918, h⟩ := bind_some h
    refine ev_make (d := (dI .i64)) (x0 := 0) hp rfl rfl rfl Tryd.underlying27 T3 (fun _ _ => rfl) (Nat.le_of_ble_eq_true rfl) q35918 ?_
    intro v35919 e35920 w35921 hp hs o35922
    replace r35909 := r35909.step hs
    replace r35916 := r35916.step hs
    replace tb := tb.step hs
    obtain ⟨y36392, q36393, h⟩ := bind_some h
    refine W.cut (γ := Int) (fun g => [(11, (.int .i64 (g)))]) (fun g w' => y36392 = (g) ∧ Hp ⟨w0, I0, []⟩ I35914 [] w' ∧ At w' I35914 ⟨0, 0, none⟩ (tab64.map (.int .u8))) ?_ ?_
    ·
      apply go
      apply go
      refine ev0 (rn_len rfl rfl Tryd.underlying27 r35909) ?_
      apply go
      refine W.loop q36393 (γ := Ent) (fun s g => [(8, v35915), (10, v35919), (11, (.int .i64 (s.2.1))), (27, v35908), (28, (.int .i64 (x35907.length : Int))), (29, (.int .i64 (s.2.2)))]) (fun s g w' => Hp ⟨w0, I0, []⟩ I35914 [(g)] w' ∧ RepS (dI .i64) w' I35914 v35915 x35910 ∧ OwnS (dI .i64) 3 w' I35914 v35919 (g) (s.1) ∧ RepS (dI .i64) w' I35914 v35908 x35907 ∧ At w' I35914 ⟨0, 0, none⟩ (tab64.map (.int .u8))) e35920 (.c rfl (.c rfl (.c rfl (.c rfl (.c rfl (.c rfl .n)))))) ⟨hp, r35916, o35922, r35909, tb⟩ ?_
      rintro ⟨x36544, x36548, x36549⟩ e36546 w36706 y36707 ⟨hp, r35916, o36547, r35909, tb⟩ q36708 q36709
      unfold ordering_Height_L1 at q36708
      apply go
      apply go
      apply go
      apply go
      refine sel_of (fun hc => ?_) (fun hc => ?_)
      ·
        have q36708 := cond_t q36708 hc
        apply go
        obtain ⟨y36787, q36788, q36708⟩ := bind_some q36708
        refine W.cut (γ := ((List Int) × Int × Ent)) (fun g => [(8, v35915), (10, v35919), (11, (.int .i64 (g.2.1))), (27, v35908), (28, (.int .i64 (x35907.length : Int))), (29, (.int .i64 x36549))]) (fun g w' => y36787 = ((g.1), (g.2.1)) ∧ Hp ⟨w0, I0, []⟩ I35914 [(g.2.2)] w' ∧ RepS (dI .i64) w' I35914 v35915 x35910 ∧ OwnS (dI .i64) 3 w' I35914 v35919 (g.2.2) (g.1) ∧ RepS (dI .i64) w' I35914 v35908 x35907 ∧ At w' I35914 ⟨0, 0, none⟩ (tab64.map (.int .u8))) ?_ ?_
        ·
          apply go
          apply go
          apply go
          obtain ⟨x36789, q36790, q36788⟩ := bind_some q36788
          refine ev_index rfl rfl rfl Tryd.underlying27 T3 r35909 q36790 ?_
          intro p36791 c36792 d36793 a36794
          obtain rfl : c36792 = [(.int .i64 x36789)] := d36793
          refine ev (rn_load rfl rfl (run_loadVar1 T3 (a36794.2 0 _ rfl))) ?_
          apply go
          apply go
          obtain ⟨x36795, q36796, q36788⟩ := bind_some q36788
          refine ev_indexO rfl rfl rfl Tryd.underlying27 T3 o36547 q36796 ?_
          intro g36797 c36798 h36801 d36799 l36800
          refine ev (rn_load rfl rfl (run_loadVar1 T3 (hp.cellE (i := 0) rfl h36801 d36799 (j := 0) rfl))) ?_
          obtain ⟨x36803, q36804, q36788⟩ := bind_some q36788
          refine ev_indexO rfl rfl rfl Tryd.underlying27 T3 o36547 q36804 ?_
          intro g36805 c36806 h36809 d36807 l36808
          refine ev_storeE hp (i := 0) rfl h36809 rfl rfl rfl T3 o36547 q36804 (x0 := (IntKind.i64.wrap (x36795 + 1))) rfl ?_
          intro e36812 w36811 hp hs o36813
          replace r35916 := r35916.step hs
          replace r35909 := r35909.step hs
          replace tb := tb.step hs
          apply go
          apply go
          obtain ⟨x36816, q36817, q36788⟩ := bind_some q36788
          refine ev_indexO rfl rfl rfl Tryd.underlying27 T3 o36813 q36817 ?_
          intro g36818 c36819 h36822 d36820 l36821
          refine ev (rn_load rfl rfl (run_loadVar1 T3 (hp.cellE (i := 0) rfl h36822 d36820 (j := 0) rfl))) ?_
          refine ev0 (rn_max rfl rfl rfl) ?_
          apply go
          apply go
          obtain ⟨x36824, q36825, q36788⟩ := bind_some q36788
          refine ev_index rfl rfl rfl Tryd.underlying27 T3 r35916 q36825 ?_
          intro p36826 c36827 d36828 a36829
          obtain rfl : c36827 = [(.int .i64 x36824)] := d36828
          refine ev (rn_load rfl rfl (run_loadVar1 T3 (a36829.2 0 _ rfl))) ?_
          apply go
          apply go
          apply go
          refine sel_of (fun hc => ?_) (fun hc => ?_)
          ·
            have q36788 := cond_t q36788 hc
            have hs := hp.stp (Ch.drew [] w36811)
            have hp := hp.drew
            replace r35916 := r35916.step hs
            replace o36813 := o36813.step hs
            replace r35909 := r35909.step hs
            replace tb := tb.step hs
            refine W.tail 12 MX (by kernel_rfl) ?_
            obtain ⟨x36831, q36832, q36788⟩ := bind_some q36788
            refine evs_indexO rfl rfl rfl Tryd.underlying27 T3 o36813 q36832 ?_
            intro g36833 c36834 h36837 d36835 l36836
            refine evs (rn_load rfl rfl (run_loadVar1 T3 (hp.cellE (i := 0) rfl h36837 d36835 (j := 0) rfl))) ?_
            obtain ⟨x36839, q36840, q36788⟩ := bind_some q36788
            refine evs_indexO rfl rfl rfl Tryd.underlying27 T3 o36813 q36840 ?_
            intro g36841 c36842 h36845 d36843 l36844
            refine evs (rn_load rfl rfl (run_loadVar1 T3 (hp.cellE (i := 0) rfl h36845 d36843 (j := 0) rfl))) ?_
            refine evs0 (rn_max rfl rfl rfl) ?_
            obtain ⟨x36847, q36848, q36788⟩ := bind_some q36788
            refine evs_indexO rfl rfl rfl Tryd.underlying27 T3 o36813 q36848 ?_
            intro g36849 c36850 h36853 d36851 l36852
            refine ev_storeE hp (i := 0) rfl h36853 rfl rfl rfl T3 o36813 q36848 (x0 := (if x36839 > x36831 then x36839 else x36831)) rfl ?_
            intro e36856 w36855 hp hs o36857
            replace r35916 := r35916.step hs
            replace r35909 := r35909.step hs
            replace tb := tb.step hs
            obtain rfl := Option.some.inj q36788
            exact ⟨((upd (upd x36544 x36789 (IntKind.i64.wrap (x36795 + 1))) x36824 (if x36839 > x36831 then x36839 else x36831)), (if x36816 > x36548 then x36816 else x36548), e36856), (.c rfl (.c rfl (.c rfl (.c rfl (.c rfl (.c rfl .n)))))), rfl, hp, r35916, o36857, r35909, tb⟩
          ·
            have q36788 := cond_f q36788 hc
            apply go
            obtain rfl := Option.some.inj q36788
            exact ⟨((upd x36544 x36789 (IntKind.i64.wrap (x36795 + 1))), (if x36816 > x36548 then x36816 else x36548), e36812), (.c rfl (.c rfl (.c rfl (.c rfl (.c rfl (.c rfl .n)))))), rfl, hp, r35916, o36813, r35909, tb⟩
        ·
          rintro ⟨x36781, x36785, e36783⟩ w36786 ⟨hy, hp, r35916, o36784, r35909, tb⟩
          replace hy := hy.symm
          subst hy
          apply go
          exact ⟨_, (Option.some.inj q36708).symm, e36783, (.c rfl (.c rfl (.c rfl (.c rfl (.c rfl (.c rfl .n)))))), ⟨hp, r35916, o36784, r35909, tb⟩⟩
      ·
        have q36708 := cond_f q36708 hc
        apply go
        have q36860 := congrArg some (q36709 _ (Option.some.inj q36708).symm)
        obtain rfl := Option.some.inj q36860
        have hp := hp.sel [] (by decide)
        exact ⟨x36548, (.c rfl .n), rfl, hp, tb⟩
    ·
      rintro x36390 w36391 ⟨hy, hp, tb⟩
      replace hy := hy.symm
      subst hy
      apply go
      apply go
      apply go
      obtain rfl := Option.some.inj h
      exact ⟨rfl, hp.ch⟩

end Go.Proofs.YtgmiencjoghnnaaDoor

namespace Go.Proofs.YtgmiencjoghnnaaDoor
open Go Go.Proofs.YtgmiencjoghnnaaDoor.Gw Go.RowKit
set_option linter.unusedVariables false
attribute [local irreducible] Ev EvQ EvS EvH
def ref26_Valid_S (f : Int → (List Pair) → Option Bool) : Prop := ∀ (w0 : World) (I0 : Nat → Prop) (x5784 : Int) (x5785 : (List Pair)) (v5786 : Value) (r5787 : RepS dPair w0 I0 v5786 x5785) (hI : ∀ g, I0 g → g < w0.heap.size) (r : Bool), f x5784 x5785 = some r →
    Ret Tryd.prog 29 #[(.int .i64 x5784), v5786] w0 fun v w1 => v = (.bool r) ∧ Ch [] w0 w1
theorem ref26_Valid_ok (n : Nat) : ref26_Valid_S (ref26_Valid n) := by
  intro w0 I0 x5784 x5785 v5786 r5787 hI r h
  unfold ref26_Valid at h
  refine enter Tryd.func29 rfl (Nat.le_of_ble_eq_true rfl) ?_
  have hp : Hp ⟨w0, I0, []⟩ I0 [] w0 := Hp.start hI
  apply go
  apply go
  apply go
  obtain ⟨y5789, q5790, h⟩ := bind_some h
  refine W.cut (γ := Bool) (fun g => [(0, (.int .i64 x5784)), (1, v5786), (11, (.bool (g)))]) (fun g w' => y5789 = (g) ∧ w0 = w') ?_ ?_
  ·
    apply go
    refine sel_of (fun hc => ?_) (fun hc => ?_)
    ·
      have q5790 := cond_t q5790 hc
      obtain rfl := Option.some.inj q5790
      exact ⟨true, (.c rfl (.c rfl (.c rfl .n))), rfl, rfl⟩
    ·
      have q5790 := cond_f q5790 hc
      obtain rfl := Option.some.inj q5790
      exact ⟨(decide (x5784 > 64)), (.c rfl (.c rfl (.c rfl .n))), rfl, rfl⟩
  ·
    rintro x5788 _ ⟨hy, rfl⟩
    replace hy := hy.symm
    subst hy
    apply go
    refine sel_of (fun hc => ?_) (fun hc => ?_)
    ·
      have h := cond_t h hc
      apply go
      apply go
      apply go
      obtain rfl := Option.some.inj h
      exact ⟨rfl, hp.ch⟩
    ·
      have h := cond_f h hc
      apply go
      obtain ⟨y6227, q6228, h⟩ := bind_some h
      refine W.cut (γ := Unit) (fun _ => []) (fun _ w' => y6227 = .go () ∧ Hp ⟨w0, I0, []⟩ I0 [] w') ?_ ?_
      ·
        apply go
        apply go
        apply go
        refine W.loop q6228 (γ := Unit) (fun s _ => [(0, (.int .i64 x5784)), (1, v5786), (5, (.int .i64 (s)))]) (fun s _ w' => Hp ⟨w0, I0, []⟩ I0 [] w' ∧ RepS dPair w' I0 v5786 x5785) () (.c rfl (.c rfl (.c rfl .n))) ⟨hp, r5787⟩ ?_
        rintro x6371 ⟨⟩ w6515 y6516 ⟨hp, r5787⟩ q6517 q6518
        unfold ref26_Valid_L1 at q6517
        apply go
        apply go
        apply go
        refine ev0 (rn_len rfl rfl Tryd.underlying22 r5787) ?_
        apply go
        refine sel_of (fun hc => ?_) (fun hc => ?_)
        ·
          have q6517 := cond_t q6517 hc
          apply go
          apply go
          apply go
          apply go
          obtain ⟨y6548, q6549, q6517⟩ := bind_some q6517
          refine W.cut (γ := Bool) (fun g => [(0, (.int .i64 x5784)), (1, v5786), (5, (.int .i64 x6371)), (45, (.bool (g)))]) (fun g w' => y6548 = (g) ∧ Hp ⟨w0, I0, []⟩ I0 [] w' ∧ RepS dPair w' I0 v5786 x5785) ?_ ?_
          ·
            refine W.quiet (fun w' => Ch [] w6515 w') MX (by kernel_rfl) (Ch.drew [] w6515) ?_
            obtain ⟨x6550, q6551, q6549⟩ := bind_some q6549
            refine evq_index rfl rfl rfl Tryd.underlying22 T47 r5787 q6551 ?_
            intro p6552 c6553 d6554 a6555
            obtain rfl := dPair_o d6554
            refine evq0 (rn_field rfl rfl FO47_0) ?_
            refine evq (fun w' hw => rn_load rfl rfl (run_loadVar1 T3 ((a6555.step (hp.stp hw)).2 0 _ rfl))) ?_
            refine sel_of (fun hc => ?_) (fun hc => ?_)
            ·
              have q6549 := cond_t q6549 hc
              intro w6556 hc
              have hs := hp.stp hc
              replace hp := hp.ext hc
              replace r5787 := r5787.step hs
              obtain rfl := Option.some.inj q6549
              exact ⟨true, (.c rfl (.c rfl (.c rfl (.c rfl .n)))), rfl, hp, r5787⟩
            ·
              have q6549 := cond_f q6549 hc
              obtain ⟨x6557, q6558, q6549⟩ := bind_some q6549
              refine evq_index rfl rfl rfl Tryd.underlying22 T47 r5787 q6558 ?_
              intro p6559 c6560 d6561 a6562
              obtain rfl := dPair_o d6561
              refine evq0 (rn_field rfl rfl FO47_0) ?_
              refine evq (fun w' hw => rn_load rfl rfl (run_loadVar1 T3 ((a6562.step (hp.stp hw)).2 0 _ rfl))) ?_
              obtain ⟨x6563, q6564, q6549⟩ := bind_some q6549
              refine evq_index rfl rfl rfl Tryd.underlying22 T47 r5787 q6564 ?_
              intro p6565 c6566 d6567 a6568
              obtain rfl := dPair_o d6567
              refine evq0 (rn_field rfl rfl FO47_1) ?_
              refine evq (fun w' hw => rn_load rfl rfl (run_loadVar1 T3 ((a6568.step (hp.stp hw)).2 1 _ rfl))) ?_
              refine sel_of (fun hc => ?_) (fun hc => ?_)
              ·
                have q6549 := cond_t q6549 hc
                intro w6569 hc
                have hs := hp.stp hc
                replace hp := hp.ext hc
                replace r5787 := r5787.step hs
                replace a6562 := a6562.step hs
                replace a6568 := a6568.step hs
                obtain rfl := Option.some.inj q6549
                exact ⟨true, (.c rfl (.c rfl (.c rfl (.c rfl .n)))), rfl, hp, r5787⟩
              ·
                have q6549 := cond_f q6549 hc
                obtain ⟨x6570, q6571, q6549⟩ := bind_some q6549
                refine evq_index rfl rfl rfl Tryd.underlying22 T47 r5787 q6571 ?_
                intro p6572 c6573 d6574 a6575
                obtain rfl := dPair_o d6574
                refine evq0 (rn_field rfl rfl FO47_1) ?_
                refine evq (fun w' hw => rn_load rfl rfl (run_loadVar1 T3 ((a6575.step (hp.stp hw)).2 1 _ rfl))) ?_
                intro w6576 hc
                have hs := hp.stp hc
                replace hp := hp.ext hc
                replace r5787 := r5787.step hs
                replace a6562 := a6562.step hs
                replace a6568 := a6568.step hs
                replace a6575 := a6575.step hs
                obtain rfl := Option.some.inj q6549
                exact ⟨(decide (x6570.B ≥ x5784)), (.c rfl (.c rfl (.c rfl (.c rfl .n)))), rfl, hp, r5787⟩
          ·
            rintro x6546 w6547 ⟨hy, hp, r5787⟩
            replace hy := hy.symm
            subst hy
            apply go
            refine sel_of (fun hc => ?_) (fun hc => ?_)
            ·
              have q6517 := cond_t q6517 hc
              apply go
              apply go
              apply go
              have q6577 := congrArg some (q6518 _ (Option.some.inj q6517).symm)
              obtain rfl := Option.some.inj q6577
              obtain rfl := Option.some.inj h
              exact ⟨rfl, hp.ch⟩
            ·
              have q6517 := cond_f q6517 hc
              apply go
              obtain ⟨y6620, q6621, q6517⟩ := bind_some q6517
              refine W.cut (γ := Bool) (fun g => [(0, (.int .i64 x5784)), (1, v5786), (5, (.int .i64 x6371)), (89, (.bool (g)))]) (fun g w' => y6620 = (g) ∧ Hp ⟨w0, I0, []⟩ I0 [] w' ∧ RepS dPair w' I0 v5786 x5785) ?_ ?_
              ·
                refine W.quiet (fun w' => Ch [] w6547 w') MX (by kernel_rfl) (Ch.drew [] w6547) ?_
                refine sel_of (fun hc => ?_) (fun hc => ?_)
                ·
                  have q6621 := cond_t q6621 hc
                  obtain ⟨x6622, q6623, q6621⟩ := bind_some q6621
                  refine evq_index rfl rfl rfl Tryd.underlying22 T47 r5787 q6623 ?_
                  intro p6624 c6625 d6626 a6627
                  obtain rfl := dPair_o d6626
                  refine evq0 (rn_field rfl rfl FO47_0) ?_
                  refine evq (fun w' hw => rn_load rfl rfl (run_loadVar1 T3 ((a6627.step (hp.stp hw)).2 0 _ rfl))) ?_
                  obtain ⟨x6628, q6629, q6621⟩ := bind_some q6621
                  refine evq_index rfl rfl rfl Tryd.underlying22 T47 r5787 q6629 ?_
                  intro p6630 c6631 d6632 a6633
                  obtain rfl := dPair_o d6632
                  refine evq0 (rn_field rfl rfl FO47_0) ?_
                  refine evq (fun w' hw => rn_load rfl rfl (run_loadVar1 T3 ((a6633.step (hp.stp hw)).2 0 _ rfl))) ?_
                  refine sel_of (fun hc => ?_) (fun hc => ?_)
                  ·
                    have q6621 := cond_t q6621 hc
                    intro w6634 hc
                    have hs := hp.stp hc
                    replace hp := hp.ext hc
                    replace r5787 := r5787.step hs
                    replace a6627 := a6627.step hs
                    replace a6633 := a6633.step hs
                    obtain rfl := Option.some.inj q6621
                    exact ⟨true, (.c rfl (.c rfl (.c rfl (.c rfl .n)))), rfl, hp, r5787⟩
                  ·
                    have q6621 := cond_f q6621 hc
                    obtain ⟨x6635, q6636, q6621⟩ := bind_some q6621
                    refine evq_index rfl rfl rfl Tryd.underlying22 T47 r5787 q6636 ?_
                    intro p6637 c6638 d6639 a6640
                    obtain rfl := dPair_o d6639
                    refine evq0 (rn_field rfl rfl FO47_0) ?_
                    refine evq (fun w' hw => rn_load rfl rfl (run_loadVar1 T3 ((a6640.step (hp.stp hw)).2 0 _ rfl))) ?_
                    obtain ⟨x6641, q6642, q6621⟩ := bind_some q6621
                    refine evq_index rfl rfl rfl Tryd.underlying22 T47 r5787 q6642 ?_
                    intro p6643 c6644 d6645 a6646
                    obtain rfl := dPair_o d6645
                    refine evq0 (rn_field rfl rfl FO47_0) ?_
                    refine evq (fun w' hw => rn_load rfl rfl (run_loadVar1 T3 ((a6646.step (hp.stp hw)).2 0 _ rfl))) ?_
                    refine sel_of (fun hc => ?_) (fun hc => ?_)
                    ·
                      have q6621 := cond_t q6621 hc
                      obtain ⟨x6647, q6648, q6621⟩ := bind_some q6621
                      refine evq_index rfl rfl rfl Tryd.underlying22 T47 r5787 q6648 ?_
                      intro p6649 c6650 d6651 a6652
                      obtain rfl := dPair_o d6651
                      refine evq0 (rn_field rfl rfl FO47_1) ?_
                      refine evq (fun w' hw => rn_load rfl rfl (run_loadVar1 T3 ((a6652.step (hp.stp hw)).2 1 _ rfl))) ?_
                      obtain ⟨x6653, q6654, q6621⟩ := bind_some q6621
                      refine evq_index rfl rfl rfl Tryd.underlying22 T47 r5787 q6654 ?_
                      intro p6655 c6656 d6657 a6658
                      obtain rfl := dPair_o d6657
                      refine evq0 (rn_field rfl rfl FO47_1) ?_
                      refine evq (fun w' hw => rn_load rfl rfl (run_loadVar1 T3 ((a6658.step (hp.stp hw)).2 1 _ rfl))) ?_
                      intro w6659 hc
                      have hs := hp.stp hc
                      replace hp := hp.ext hc
                      replace r5787 := r5787.step hs
                      replace a6627 := a6627.step hs
                      replace a6633 := a6633.step hs
                      replace a6640 := a6640.step hs
                      replace a6646 := a6646.step hs
                      replace a6652 := a6652.step hs
                      replace a6658 := a6658.step hs
                      obtain rfl := Option.some.inj q6621
                      exact ⟨(decide (x6647.B ≤ x6653.B)), (.c rfl (.c rfl (.c rfl (.c rfl .n)))), rfl, hp, r5787⟩
                    ·
                      have q6621 := cond_f q6621 hc
                      intro w6660 hc
                      have hs := hp.stp hc
                      replace hp := hp.ext hc
                      replace r5787 := r5787.step hs
                      replace a6627 := a6627.step hs
                      replace a6633 := a6633.step hs
                      replace a6640 := a6640.step hs
                      replace a6646 := a6646.step hs
                      obtain rfl := Option.some.inj q6621
                      exact ⟨false, (.c rfl (.c rfl (.c rfl (.c rfl .n)))), rfl, hp, r5787⟩
                ·
                  have q6621 := cond_f q6621 hc
                  intro w6661 hc
                  have hs := hp.stp hc
                  replace hp := hp.ext hc
                  replace r5787 := r5787.step hs
                  obtain rfl := Option.some.inj q6621
                  exact ⟨false, (.c rfl (.c rfl (.c rfl (.c rfl .n)))), rfl, hp, r5787⟩
              ·
                rintro x6618 w6619 ⟨hy, hp, r5787⟩
                replace hy := hy.symm
                subst hy
                apply go
                refine sel_of (fun hc => ?_) (fun hc => ?_)
                ·
                  have q6517 := cond_t q6517 hc
                  apply go
                  apply go
                  apply go
                  have q6662 := congrArg some (q6518 _ (Option.some.inj q6517).symm)
                  obtain rfl := Option.some.inj q6662
                  obtain rfl := Option.some.inj h
                  exact ⟨rfl, hp.ch⟩
                ·
                  have q6517 := cond_f q6517 hc
                  apply go
                  apply go
                  exact ⟨_, (Option.some.inj q6517).symm, (), (.c rfl (.c rfl (.c rfl .n))), ⟨hp, r5787⟩⟩
        ·
          have q6517 := cond_f q6517 hc
          apply go
          have q6663 := congrArg some (q6518 _ (Option.some.inj q6517).symm)
          obtain rfl := Option.some.inj q6663
          exact ⟨(), .n, rfl, hp⟩
      ·
        rintro ⟨⟩ w6226 ⟨hy, hp⟩
        replace hy := hy.symm
        subst hy
        apply go
        apply go
        apply go
        obtain rfl := Option.some.inj h
        exact ⟨rfl, hp.ch⟩

end Go.Proofs.YtgmiencjoghnnaaDoor

namespace Go.Proofs.YtgmiencjoghnnaaDoor
open Go Go.Proofs.YtgmiencjoghnnaaDoor.Gw Go.RowKit
set_option linter.unusedVariables false
attribute [local irreducible] Ev EvQ EvS EvH
def ref26_Order_S (f : Int → (List Int) → Option Bool) : Prop := ∀ (w0 : World) (I0 : Nat → Prop) (x26530 : Int) (x26531 : (List Int)) (v26532 : Value) (r26533 : RepS (dI .i64) w0 I0 v26532 x26531) (hI : ∀ g, I0 g → g < w0.heap.size) (r : Bool), f x26530 x26531 = some r →
    Ret Tryd.prog 30 #[(.int .i64 x26530), v26532] w0 fun v w1 => v = (.bool r) ∧ Ch [] w0 w1
theorem ref26_Order_ok (n : Nat) : ref26_Order_S (ref26_Order n) := by
  intro w0 I0 x26530 x26531 v26532 r26533 hI r h
  unfold ref26_Order at h
  refine enter Tryd.func30 rfl (Nat.le_of_ble_eq_true rfl) ?_
  have hp : Hp ⟨w0, I0, []⟩ I0 [] w0 := Hp.start hI
  apply go
  apply go
  apply go
  apply go
  apply go
  refine ev0 (rn_len rfl rfl Tryd.underlying27 r26533) ?_
  apply go
  refine sel_of (fun hc => ?_) (fun hc => ?_)
  ·
    have h := cond_t h hc
    apply go
    apply go
    apply go
    obtain rfl := Option.some.inj h
    exact ⟨rfl, hp.ch⟩
  ·
    have h := cond_f h hc
    apply go
    obtain ⟨y27269, q27270, h⟩ := bind_some h
    refine W.cut (γ := Unit) (fun _ => []) (fun _ w' => y27269 = .go () ∧ w0 = w') ?_ ?_
    ·
      apply go
      apply go
      apply go
      refine W.loop q27270 (γ := Unit) (fun s _ => [(0, (.int .i64 x26530)), (1, v26532), (5, (.int .i64 (s)))]) (fun s _ w' => w0 = w') () (.c rfl (.c rfl (.c rfl .n))) rfl ?_
      rintro x27511 ⟨⟩ _ y27757 rfl q27758 q27759
      unfold ref26_Order_L21 at q27758
      apply go
      apply go
      apply go
      apply go
      refine sel_of (fun hc => ?_) (fun hc => ?_)
      ·
        have q27758 := cond_t q27758 hc
        apply go
        obtain ⟨y27881, q27882, q27758⟩ := bind_some q27758
        refine W.cut (γ := Unit) (fun _ => [(0, (.int .i64 x26530)), (1, v26532), (5, (.int .i64 x27511))]) (fun _ w' => y27881 = .go () ∧ w0 = w') ?_ ?_
        ·
          apply go
          apply go
          apply go
          obtain ⟨y27943, q27944, q27882⟩ := bind_some q27882
          refine W.cut (γ := Bool) (fun g => [(0, (.int .i64 x26530)), (1, v26532), (5, (.int .i64 x27511)), (6, (.bool (g)))]) (fun g w' => y27943 = (g) ∧ w0 = w') ?_ ?_
          ·
            apply go
            apply go
            apply go
            refine W.loop q27944 (γ := Unit) (fun s _ => [(0, (.int .i64 x26530)), (1, v26532), (5, (.int .i64 x27511)), (6, (.bool (s.1))), (7, (.int .i64 (s.2)))]) (fun s _ w' => w0 = w') () (.c rfl (.c rfl (.c rfl (.c rfl (.c rfl .n))))) rfl ?_
            rintro ⟨x27966, x27967⟩ ⟨⟩ _ y27985 rfl q27986 q27987
            unfold ref26_Order_L25 at q27986
            apply go
            apply go
            apply go
            apply go
            refine sel_of (fun hc => ?_) (fun hc => ?_)
            ·
              have q27986 := cond_t q27986 hc
              apply go
              obtain ⟨y27995, q27996, q27986⟩ := bind_some q27986
              refine W.cut (γ := Bool) (fun g => [(0, (.int .i64 x26530)), (1, v26532), (5, (.int .i64 x27511)), (6, (.bool (g))), (7, (.int .i64 x27967))]) (fun g w' => y27995 = (g) ∧ w0 = w') ?_ ?_
              ·
                apply go
                apply go
                refine sel_of (fun hc => ?_) (fun hc => ?_)
                ·
                  have q27996 := cond_t q27996 hc
                  obtain rfl := Option.some.inj q27996
                  exact ⟨true, (.c rfl (.c rfl (.c rfl (.c rfl (.c rfl .n))))), rfl, rfl⟩
                ·
                  have q27996 := cond_f q27996 hc
                  obtain ⟨x27997, q27998, q27996⟩ := bind_some q27996
                  refine ev_index rfl rfl rfl Tryd.underlying27 T3 r26533 q27998 ?_
                  intro p27999 c28000 d28001 a28002
                  obtain rfl : c28000 = [(.int .i64 x27997)] := d28001
                  refine ev (rn_load rfl rfl (run_loadVar1 T3 (a28002.2 0 _ rfl))) ?_
                  obtain rfl := Option.some.inj q27996
                  exact ⟨(x27997 == x27511), (.c rfl (.c rfl (.c rfl (.c rfl (.c rfl .n))))), rfl, rfl⟩
              ·
                rintro x27994 _ ⟨hy, rfl⟩
                replace hy := hy.symm
                subst hy
                apply go
                exact ⟨_, (Option.some.inj q27986).symm, (), (.c rfl (.c rfl (.c rfl (.c rfl (.c rfl .n))))), rfl⟩
            ·
              have q27986 := cond_f q27986 hc
              apply go
              have q28003 := congrArg some (q27987 _ (Option.some.inj q27986).symm)
              obtain rfl := Option.some.inj q28003
              exact ⟨x27966, (.c rfl (.c rfl (.c rfl (.c rfl .n)))), rfl, rfl⟩
          ·
            rintro x27942 _ ⟨hy, rfl⟩
            replace hy := hy.symm
            subst hy
            apply go
            apply go
            apply go
            refine sel_of (fun hc => ?_) (fun hc => ?_)
            ·
              have q27882 := cond_t q27882 hc
              apply go
              apply go
              apply go
              obtain rfl := Option.some.inj q27882
              have q28004 := congrArg some (q27759 _ (Option.some.inj q27758).symm)
              obtain rfl := Option.some.inj q28004
              obtain rfl := Option.some.inj h
              exact ⟨rfl, hp.ch⟩
            ·
              have q27882 := cond_f q27882 hc
              apply go
              obtain rfl := Option.some.inj q27882
              exact ⟨(), (.c rfl (.c rfl (.c rfl .n))), rfl, rfl⟩
        ·
          rintro ⟨⟩ _ ⟨hy, rfl⟩
          replace hy := hy.symm
          subst hy
          apply go
          exact ⟨_, (Option.some.inj q27758).symm, (), (.c rfl (.c rfl (.c rfl .n))), rfl⟩
      ·
        have q27758 := cond_f q27758 hc
        apply go
        have q28005 := congrArg some (q27759 _ (Option.some.inj q27758).symm)
        obtain rfl := Option.some.inj q28005
        exact ⟨(), .n, rfl, rfl⟩
    ·
      rintro ⟨⟩ _ ⟨hy, rfl⟩
      replace hy := hy.symm
      subst hy
      apply go
      apply go
      apply go
      obtain rfl := Option.some.inj h
      exact ⟨rfl, hp.ch⟩

end Go.Proofs.YtgmiencjoghnnaaDoor

namespace Go.Proofs.YtgmiencjoghnnaaDoor
open Go Go.Proofs.YtgmiencjoghnnaaDoor.Gw Go.RowKit
set_option linter.unusedVariables false
attribute [local irreducible] Ev EvQ EvS EvH
def law26_OrderingLater_S (f : Graph → (List Int) → Option Bool) : Prop := ∀ (w0 : World) (I0 : Nat → Prop) (tb : At w0 I0 ⟨0, 0, none⟩ (tab64.map (.int .u8))) (x41499 : Graph) (v41500 : Value) (r41501 : RepS dPair w0 I0 v41500 x41499.E) (x41502 : (List Int)) (v41503 : Value) (r41504 : RepS (dI .i64) w0 I0 v41503 x41502) (hI : ∀ g, I0 g → g < w0.heap.size) (r : Bool), f x41499 x41502 = some r →
    Ret Tryd.prog 9 #[(.agg #[(.int .i64 x41499.N), v41500]), v41503] w0 fun v w1 => v = (.bool r) ∧ Ch [] w0 w1
theorem law26_OrderingLater_ok (n : Nat) : law26_OrderingLater_S (law26_OrderingLater n) := by
  intro w0 I0 tb x41499 v41500 r41501 x41502 v41503 r41504 hI r h
  unfold law26_OrderingLater at h
  refine enter Tryd.func9 rfl (Nat.le_of_ble_eq_true rfl) ?_
  have hp : Hp ⟨w0, I0, []⟩ I0 [] w0 := Hp.start hI
  apply go
  apply go
  refine ev_boxI hp rfl rfl ?_
  intro p41507 I41508 w41506 hp hs a41509
  replace r41504 := r41504.step hs
  replace r41501 := r41501.step hs
  replace tb := tb.step hs
  apply go
  obtain ⟨y41518, q41519, h⟩ := bind_some h
  refine W.cut (γ := Bool) (fun g => [(1, v41503), (2, (.pointer (some (p41507)))), (27, (.bool (g)))]) (fun g w' => y41518 = (g) ∧ Hp ⟨w0, I0, []⟩ I41508 [] w' ∧ RepS (dI .i64) w' I41508 v41503 x41502 ∧ RepS dPair w' I41508 v41500 x41499.E ∧ At w' I41508 p41507 [(.int .i64 x41499.N), v41500] ∧ At w' I41508 ⟨0, 0, none⟩ (tab64.map (.int .u8))) ?_ ?_
  ·
    apply go
    obtain ⟨x41520, q41521, q41519⟩ := bind_some q41519
    refine ev_call rfl rfl C12 (((law26_awake_ok n) _ _ tb  hp.imm _ q41521).mono ?_)
    rintro _ w41522 ⟨rfl, hc⟩
    have hs := hp.stp hc
    replace hp := hp.ext hc
    replace r41504 := r41504.step hs
    replace a41509 := a41509.step hs
    replace r41501 := r41501.step hs
    replace tb := tb.step hs
    refine sel_of (fun hc => ?_) (fun hc => ?_)
    ·
      have q41519 := cond_t q41519 hc
      obtain rfl := Option.some.inj q41519
      exact ⟨true, (.c rfl (.c rfl (.c rfl .n))), rfl, hp, r41504, r41501, a41509, tb⟩
    ·
      have q41519 := cond_f q41519 hc
      refine ev (rn_load rfl rfl (run_loadVarA T24 rfl a41509)) ?_
      obtain ⟨x41523, q41524, q41519⟩ := bind_some q41519
      refine ev_call rfl rfl C13 (((law26_few_ok n) _ _  (Graph.mk x41499.N x41499.E) v41500 r41501 hp.imm _ q41524).mono ?_)
      rintro _ w41525 ⟨rfl, hc⟩
      have hs := hp.stp hc
      replace hp := hp.ext hc
      replace r41504 := r41504.step hs
      replace a41509 := a41509.step hs
      replace r41501 := r41501.step hs
      replace tb := tb.step hs
      refine sel_of (fun hc => ?_) (fun hc => ?_)
      ·
        have q41519 := cond_t q41519 hc
        obtain rfl := Option.some.inj q41519
        exact ⟨true, (.c rfl (.c rfl (.c rfl .n))), rfl, hp, r41504, r41501, a41509, tb⟩
      ·
        have q41519 := cond_f q41519 hc
        refine ev0 (rn_len rfl rfl Tryd.underlying27 r41504) ?_
        obtain rfl := Option.some.inj q41519
        exact ⟨(decide ((x41502.length : Int) > 100)), (.c rfl (.c rfl (.c rfl .n))), rfl, hp, r41504, r41501, a41509, tb⟩
  ·
    rintro x41516 w41517 ⟨hy, hp, r41504, r41501, a41509, tb⟩
    replace hy := hy.symm
    subst hy
    apply go
    refine sel_of (fun hc => ?_) (fun hc => ?_)
    ·
      have h := cond_t h hc
      apply go
      apply go
      obtain ⟨x41526, q41527, h⟩ := bind_some h
      refine ev_call rfl rfl C12 (((law26_awake_ok n) _ _ tb  hp.imm _ q41527).mono ?_)
      rintro _ w41528 ⟨rfl, hc⟩
      have hs := hp.stp hc
      replace hp := hp.ext hc
      replace tb := tb.step hs
      apply go
      obtain rfl := Option.some.inj h
      exact ⟨rfl, hp.ch⟩
    ·
      have h := cond_f h hc
      apply go
      apply go
      apply go
      refine ev0 (rn_field rfl rfl FO24_0) ?_
      refine ev (rn_load rfl rfl (run_loadVar1 T3 (a41509.2 0 _ rfl))) ?_
      refine ev0 (rn_field rfl rfl FO24_1) ?_
      refine ev (rn_load rfl rfl (run_loadVar1 T22 (a41509.2 1 _ rfl))) ?_
      obtain ⟨⟨x41529, x41530⟩, q41531, h⟩ := bind_some h
      refine ev_call rfl rfl C25 (((ordering_Tree_ok n) _ _ tb x41499.N x41499.E v41500 r41501 x41502 v41503 r41504 hp.imm _ q41531).mono ?_)
      rintro _ w41532 ⟨I41533, v41534, hv, hq, r41535⟩
      replace hv := hv.symm
      subst hv
      have hs := hq.st
      have hp := hp.join0 hq
      replace r41504 := r41504.step hs
      replace a41509 := a41509.step hs
      replace r41501 := r41501.step hs
      replace tb := tb.step hs
      apply go
      apply go
      refine ev0 (rn_field rfl rfl FO24_0) ?_
      refine ev (rn_load rfl rfl (run_loadVar1 T3 (a41509.2 0 _ rfl))) ?_
      refine ev0 (rn_field rfl rfl FO24_1) ?_
      refine ev (rn_load rfl rfl (run_loadVar1 T22 (a41509.2 1 _ rfl))) ?_
      obtain ⟨⟨x41536, x41537⟩, q41538, h⟩ := bind_some h
      refine ev_call rfl rfl C26 (((ordering_Height_ok n) _ _ tb x41499.N x41499.E v41500 r41501 x41502 v41503 r41504 hp.imm _ q41538).mono ?_)
      rintro _ w41539 ⟨rfl, hc⟩
      have hs := hp.stp hc
      replace hp := hp.ext hc
      replace r41504 := r41504.step hs
      replace a41509 := a41509.step hs
      replace r41501 := r41501.step hs
      replace r41535 := r41535.step hs
      replace tb := tb.step hs
      apply go
      obtain ⟨y41548, q41549, h⟩ := bind_some h
      refine W.cut (γ := Bool) (fun g => [(1, v41503), (2, (.pointer (some (p41507)))), (5, v41534), (6, (.int .i64 x41530)), (7, (.int .i64 x41536)), (8, (.int .i64 x41537)), (59, (.bool (g)))]) (fun g w' => y41548 = (g) ∧ Hp ⟨w0, I0, []⟩ I41533 [] w' ∧ RepS (dI .i64) w' I41533 v41503 x41502 ∧ RepS dPair w' I41533 v41500 x41499.E ∧ At w' I41533 p41507 [(.int .i64 x41499.N), v41500] ∧ RepS (dI .i64) w' I41533 v41534 x41529 ∧ At w' I41533 ⟨0, 0, none⟩ (tab64.map (.int .u8))) ?_ ?_
      ·
        apply go
        refine ev0 (rn_field rfl rfl FO24_0) ?_
        refine ev (rn_load rfl rfl (run_loadVar1 T3 (a41509.2 0 _ rfl))) ?_
        refine ev0 (rn_field rfl rfl FO24_1) ?_
        refine ev (rn_load rfl rfl (run_loadVar1 T22 (a41509.2 1 _ rfl))) ?_
        obtain ⟨x41550, q41551, q41549⟩ := bind_some q41549
        refine ev_call rfl rfl C29 (((ref26_Valid_ok n) _ _  x41499.N x41499.E v41500 r41501 hp.imm _ q41551).mono ?_)
        rintro _ w41552 ⟨rfl, hc⟩
        have hs := hp.stp hc
        replace hp := hp.ext hc
        replace r41504 := r41504.step hs
        replace a41509 := a41509.step hs
        replace r41501 := r41501.step hs
        replace r41535 := r41535.step hs
        replace tb := tb.step hs
        refine sel_of (fun hc => ?_) (fun hc => ?_)
        ·
          have q41549 := cond_t q41549 hc
          obtain rfl := Option.some.inj q41549
          exact ⟨true, (.c rfl (.c rfl (.c rfl (.c rfl (.c rfl (.c rfl (.c rfl .n))))))), rfl, hp, r41504, r41501, a41509, r41535, tb⟩
        ·
          have q41549 := cond_f q41549 hc
          refine ev0 (rn_field rfl rfl FO24_0) ?_
          refine ev (rn_load rfl rfl (run_loadVar1 T3 (a41509.2 0 _ rfl))) ?_
          obtain ⟨x41553, q41554, q41549⟩ := bind_some q41549
          refine ev_call rfl rfl C30 (((ref26_Order_ok n) _ _  x41499.N x41502 v41503 r41504 hp.imm _ q41554).mono ?_)
          rintro _ w41555 ⟨rfl, hc⟩
          have hs := hp.stp hc
          replace hp := hp.ext hc
          replace r41504 := r41504.step hs
          replace a41509 := a41509.step hs
          replace r41501 := r41501.step hs
          replace r41535 := r41535.step hs
          replace tb := tb.step hs
          obtain rfl := Option.some.inj q41549
          exact ⟨(!x41553), (.c rfl (.c rfl (.c rfl (.c rfl (.c rfl (.c rfl (.c rfl .n))))))), rfl, hp, r41504, r41501, a41509, r41535, tb⟩
      ·
        rintro x41546 w41547 ⟨hy, hp, r41504, r41501, a41509, r41535, tb⟩
        replace hy := hy.symm
        subst hy
        apply go
        refine sel_of (fun hc => ?_) (fun hc => ?_)
        ·
          have h := cond_t h hc
          obtain ⟨y41557, q41558, h⟩ := bind_some h
          refine W.cut (γ := Bool) (fun g => [(4, (.bool (g)))]) (fun g w' => y41557 = (g) ∧ w41547 = w') ?_ ?_
          ·
            apply go
            refine sel_of (fun hc => ?_) (fun hc => ?_)
            ·
              have q41558 := cond_t q41558 hc
              refine sel_of (fun hc => ?_) (fun hc => ?_)
              ·
                have q41558 := cond_t q41558 hc
                refine ev0 (rn_len rfl rfl Tryd.underlying27 r41535) ?_
                refine sel_of (fun hc => ?_) (fun hc => ?_)
                ·
                  have q41558 := cond_t q41558 hc
                  obtain rfl := Option.some.inj q41558
                  exact ⟨(x41536 == 0), (.c rfl .n), rfl, rfl⟩
                ·
                  have q41558 := cond_f q41558 hc
                  obtain rfl := Option.some.inj q41558
                  exact ⟨false, (.c rfl .n), rfl, rfl⟩
              ·
                have q41558 := cond_f q41558 hc
                obtain rfl := Option.some.inj q41558
                exact ⟨false, (.c rfl .n), rfl, rfl⟩
            ·
              have q41558 := cond_f q41558 hc
              obtain rfl := Option.some.inj q41558
              exact ⟨false, (.c rfl .n), rfl, rfl⟩
          ·
            rintro x41556 _ ⟨hy, rfl⟩
            replace hy := hy.symm
            subst hy
            apply go
            obtain rfl := Option.some.inj h
            exact ⟨rfl, hp.ch⟩
        ·
          have h := cond_f h hc
          apply go
          apply go
          obtain ⟨y41560, q41561, h⟩ := bind_some h
          refine W.cut (γ := Bool) (fun g => [(1, v41503), (2, (.pointer (some (p41507)))), (5, v41534), (7, (.int .i64 x41536)), (94, (.bool (g)))]) (fun g w' => y41560 = (g) ∧ w41547 = w') ?_ ?_
          ·
            apply go
            refine sel_of (fun hc => ?_) (fun hc => ?_)
            ·
              have q41561 := cond_t q41561 hc
              obtain rfl := Option.some.inj q41561
              exact ⟨true, (.c rfl (.c rfl (.c rfl (.c rfl (.c rfl .n))))), rfl, rfl⟩
            ·
              have q41561 := cond_f q41561 hc
              refine sel_of (fun hc => ?_) (fun hc => ?_)
              ·
                have q41561 := cond_t q41561 hc
                obtain rfl := Option.some.inj q41561
                exact ⟨true, (.c rfl (.c rfl (.c rfl (.c rfl (.c rfl .n))))), rfl, rfl⟩
              ·
                have q41561 := cond_f q41561 hc
                refine ev0 (rn_len rfl rfl Tryd.underlying27 r41535) ?_
                refine ev0 (rn_field rfl rfl FO24_0) ?_
                refine ev (rn_load rfl rfl (run_loadVar1 T3 (a41509.2 0 _ rfl))) ?_
                refine sel_of (fun hc => ?_) (fun hc => ?_)
                ·
                  have q41561 := cond_t q41561 hc
                  obtain rfl := Option.some.inj q41561
                  exact ⟨true, (.c rfl (.c rfl (.c rfl (.c rfl (.c rfl .n))))), rfl, rfl⟩
                ·
                  have q41561 := cond_f q41561 hc
                  refine ev0 (rn_field rfl rfl FO24_0) ?_
                  refine ev (rn_load rfl rfl (run_loadVar1 T3 (a41509.2 0 _ rfl))) ?_
                  obtain rfl := Option.some.inj q41561
                  exact ⟨(decide (x41536 > x41499.N)), (.c rfl (.c rfl (.c rfl (.c rfl (.c rfl .n))))), rfl, rfl⟩
          ·
            rintro x41559 _ ⟨hy, rfl⟩
            replace hy := hy.symm
            subst hy
            apply go
            refine sel_of (fun hc => ?_) (fun hc => ?_)
            ·
              have h := cond_t h hc
              apply go
              apply go
              apply go
              obtain rfl := Option.some.inj h
              exact ⟨rfl, hp.ch⟩
            ·
              have h := cond_f h hc
              apply go
              apply go
              apply go
              refine ev0 (rn_field rfl rfl FO24_0) ?_
              refine ev (rn_load rfl rfl (run_loadVar1 T3 (a41509.2 0 _ rfl))) ?_
              obtain ⟨x41562, q41563, h⟩ := bind_some h
              refine ev_make (d := (dI .i64)) (x0 := 0) hp rfl rfl rfl Tryd.underlying27 T3 (fun _ _ => rfl) (Nat.le_of_ble_eq_true rfl) q41563 ?_
              intro v41564 e41565 w41566 hp hs o41567
              replace r41504 := r41504.step hs
              replace a41509 := a41509.step hs
              replace r41501 := r41501.step hs
              replace r41535 := r41535.step hs
              replace tb := tb.step hs
              obtain ⟨y41645, q41646, h⟩ := bind_some h
              refine W.cut (γ := ((List Int) × Ent)) (fun g => [(2, (.pointer (some (p41507)))), (5, v41534), (7, (.int .i64 x41536)), (9, v41564)]) (fun g w' => y41645 = (g.1) ∧ Hp ⟨w0, I0, []⟩ I41533 [(g.2)] w' ∧ RepS dPair w' I41533 v41500 x41499.E ∧ At w' I41533 p41507 [(.int .i64 x41499.N), v41500] ∧ RepS (dI .i64) w' I41533 v41534 x41529 ∧ OwnS (dI .i64) 3 w' I41533 v41564 (g.2) (g.1) ∧ At w' I41533 ⟨0, 0, none⟩ (tab64.map (.int .u8))) ?_ ?_
              ·
                apply go
                apply go
                apply go
                refine W.loop q41646 (γ := Ent) (fun s g => [(1, v41503), (2, (.pointer (some (p41507)))), (5, v41534), (7, (.int .i64 x41536)), (9, v41564), (10, (.int .i64 (s.2)))]) (fun s g w' => Hp ⟨w0, I0, []⟩ I41533 [(g)] w' ∧ RepS (dI .i64) w' I41533 v41503 x41502 ∧ RepS dPair w' I41533 v41500 x41499.E ∧ At w' I41533 p41507 [(.int .i64 x41499.N), v41500] ∧ RepS (dI .i64) w' I41533 v41534 x41529 ∧ OwnS (dI .i64) 3 w' I41533 v41564 (g) (s.1) ∧ At w' I41533 ⟨0, 0, none⟩ (tab64.map (.int .u8))) e41565 (.c rfl (.c rfl (.c rfl (.c rfl (.c rfl (.c rfl .n)))))) ⟨hp, r41504, r41501, a41509, r41535, o41567, tb⟩ ?_
                rintro ⟨x41666, x41670⟩ e41668 w41695 y41696 ⟨hp, r41504, r41501, a41509, r41535, o41669, tb⟩ q41697 q41698
                unfold law26_OrderingLater_L1 at q41697
                apply go
                apply go
                apply go
                refine ev0 (rn_field rfl rfl FO24_0) ?_
                refine ev (rn_load rfl rfl (run_loadVar1 T3 (a41509.2 0 _ rfl))) ?_
                apply go
                refine sel_of (fun hc => ?_) (fun hc => ?_)
                ·
                  have q41697 := cond_t q41697 hc
                  apply go
                  apply go
                  apply go
                  apply go
                  obtain ⟨x41699, q41700, q41697⟩ := bind_some q41697
                  refine ev_index rfl rfl rfl Tryd.underlying27 T3 r41504 q41700 ?_
                  intro p41701 c41702 d41703 a41704
                  obtain rfl : c41702 = [(.int .i64 x41699)] := d41703
                  refine ev (rn_load rfl rfl (run_loadVar1 T3 (a41704.2 0 _ rfl))) ?_
                  obtain ⟨x41705, q41706, q41697⟩ := bind_some q41697
                  refine ev_indexO rfl rfl rfl Tryd.underlying27 T3 o41669 q41706 ?_
                  intro g41707 c41708 h41711 d41709 l41710
                  refine ev_storeE hp (i := 0) rfl h41711 rfl rfl rfl T3 o41669 q41706 (x0 := x41670) rfl ?_
                  intro e41714 w41713 hp hs o41715
                  replace r41504 := r41504.step hs
                  replace a41509 := a41509.step hs
                  replace r41501 := r41501.step hs
                  replace r41535 := r41535.step hs
                  replace tb := tb.step hs
                  apply go
                  exact ⟨_, (Option.some.inj q41697).symm, e41714, (.c rfl (.c rfl (.c rfl (.c rfl (.c rfl (.c rfl .n)))))), ⟨hp, r41504, r41501, a41509, r41535, o41715, tb⟩⟩
                ·
                  have q41697 := cond_f q41697 hc
                  apply go
                  have q41718 := congrArg some (q41698 _ (Option.some.inj q41697).symm)
                  obtain rfl := Option.some.inj q41718
                  exact ⟨(x41666, e41668), (.c rfl (.c rfl (.c rfl (.c rfl .n)))), rfl, hp, r41501, a41509, r41535, o41669, tb⟩
              ·
                rintro ⟨x41640, e41642⟩ w41644 ⟨hy, hp, r41501, a41509, r41535, o41643, tb⟩
                replace hy := hy.symm
                subst hy
                obtain ⟨y42004, q42005, h⟩ := bind_some h
                refine W.cut (γ := Unit) (fun _ => [(2, (.pointer (some (p41507)))), (5, v41534), (7, (.int .i64 x41536)), (9, v41564)]) (fun _ w' => y42004 = .go () ∧ Hp ⟨w0, I0, []⟩ I41533 [e41642] w' ∧ RepS dPair w' I41533 v41500 x41499.E ∧ At w' I41533 p41507 [(.int .i64 x41499.N), v41500] ∧ RepS (dI .i64) w' I41533 v41534 x41529 ∧ OwnS (dI .i64) 3 w' I41533 v41564 e41642 x41640 ∧ At w' I41533 ⟨0, 0, none⟩ (tab64.map (.int .u8))) ?_ ?_
                ·
                  apply go
                  apply go
                  apply go
                  refine W.loop q42005 (γ := Unit) (fun s _ => [(2, (.pointer (some (p41507)))), (5, v41534), (7, (.int .i64 x41536)), (9, v41564), (11, (.int .i64 (s)))]) (fun s _ w' => Hp ⟨w0, I0, []⟩ I41533 [e41642] w' ∧ RepS dPair w' I41533 v41500 x41499.E ∧ At w' I41533 p41507 [(.int .i64 x41499.N), v41500] ∧ RepS (dI .i64) w' I41533 v41534 x41529 ∧ OwnS (dI .i64) 3 w' I41533 v41564 e41642 x41640 ∧ At w' I41533 ⟨0, 0, none⟩ (tab64.map (.int .u8))) () (.c rfl (.c rfl (.c rfl (.c rfl (.c rfl .n))))) ⟨hp, r41501, a41509, r41535, o41643, tb⟩ ?_
                  rintro x42098 ⟨⟩ w42192 y42193 ⟨hp, r41501, a41509, r41535, o41643, tb⟩ q42194 q42195
                  unfold law26_OrderingLater_L3 at q42194
                  apply go
                  apply go
                  apply go
                  refine ev0 (rn_field rfl rfl FO24_0) ?_
                  refine ev (rn_load rfl rfl (run_loadVar1 T3 (a41509.2 0 _ rfl))) ?_
                  apply go
                  refine sel_of (fun hc => ?_) (fun hc => ?_)
                  ·
                    have q42194 := cond_t q42194 hc
                    apply go
                    apply go
                    apply go
                    obtain ⟨y42242, q42243, q42194⟩ := bind_some q42194
                    refine W.cut (γ := Bool) (fun g => [(2, (.pointer (some (p41507)))), (5, v41534), (7, (.int .i64 x41536)), (9, v41564), (11, (.int .i64 x42098)), (151, (.bool (g)))]) (fun g w' => y42242 = (g) ∧ Hp ⟨w0, I0, []⟩ I41533 [e41642] w' ∧ RepS dPair w' I41533 v41500 x41499.E ∧ At w' I41533 p41507 [(.int .i64 x41499.N), v41500] ∧ RepS (dI .i64) w' I41533 v41534 x41529 ∧ OwnS (dI .i64) 3 w' I41533 v41564 e41642 x41640 ∧ At w' I41533 ⟨0, 0, none⟩ (tab64.map (.int .u8))) ?_ ?_
                    ·
                      refine W.quiet (fun w' => Ch [] w42192 w') MX (by kernel_rfl) (Ch.drew [] w42192) ?_
                      obtain ⟨x42244, q42245, q42243⟩ := bind_some q42243
                      refine evq_index rfl rfl rfl Tryd.underlying27 T3 r41535 q42245 ?_
                      intro p42246 c42247 d42248 a42249
                      obtain rfl : c42247 = [(.int .i64 x42244)] := d42248
                      refine evq (fun w' hw => rn_load rfl rfl (run_loadVar1 T3 ((a42249.step (hp.stp hw)).2 0 _ rfl))) ?_
                      refine sel_of (fun hc => ?_) (fun hc => ?_)
                      ·
                        have q42243 := cond_t q42243 hc
                        intro w42250 hc
                        have hs := hp.stp hc
                        replace hp := hp.ext hc
                        replace a41509 := a41509.step hs
                        replace r41501 := r41501.step hs
                        replace r41535 := r41535.step hs
                        replace o41643 := o41643.step hs
                        replace tb := tb.step hs
                        obtain rfl := Option.some.inj q42243
                        exact ⟨true, (.c rfl (.c rfl (.c rfl (.c rfl (.c rfl (.c rfl .n)))))), rfl, hp, r41501, a41509, r41535, o41643, tb⟩
                      ·
                        have q42243 := cond_f q42243 hc
                        obtain ⟨x42251, q42252, q42243⟩ := bind_some q42243
                        refine evq_index rfl rfl rfl Tryd.underlying27 T3 r41535 q42252 ?_
                        intro p42253 c42254 d42255 a42256
                        obtain rfl : c42254 = [(.int .i64 x42251)] := d42255
                        refine evq (fun w' hw => rn_load rfl rfl (run_loadVar1 T3 ((a42256.step (hp.stp hw)).2 0 _ rfl))) ?_
                        refine evq0 (rn_field rfl rfl FO24_0) ?_
                        refine evq (fun w' hw => rn_load rfl rfl (run_loadVar1 T3 ((a41509.step (hp.stp hw)).2 0 _ rfl))) ?_
                        refine sel_of (fun hc => ?_) (fun hc => ?_)
                        ·
                          have q42243 := cond_t q42243 hc
                          intro w42257 hc
                          have hs := hp.stp hc
                          replace hp := hp.ext hc
                          replace a41509 := a41509.step hs
                          replace r41501 := r41501.step hs
                          replace r41535 := r41535.step hs
                          replace o41643 := o41643.step hs
                          replace a42256 := a42256.step hs
                          replace tb := tb.step hs
                          obtain rfl := Option.some.inj q42243
                          exact ⟨true, (.c rfl (.c rfl (.c rfl (.c rfl (.c rfl (.c rfl .n)))))), rfl, hp, r41501, a41509, r41535, o41643, tb⟩
                        ·
                          have q42243 := cond_f q42243 hc
                          obtain ⟨x42258, q42259, q42243⟩ := bind_some q42243
                          refine evq_index rfl rfl rfl Tryd.underlying27 T3 r41535 q42259 ?_
                          intro p42260 c42261 d42262 a42263
                          obtain rfl : c42261 = [(.int .i64 x42258)] := d42262
                          refine evq (fun w' hw => rn_load rfl rfl (run_loadVar1 T3 ((a42263.step (hp.stp hw)).2 0 _ rfl))) ?_
                          refine sel_of (fun hc => ?_) (fun hc => ?_)
                          ·
                            have q42243 := cond_t q42243 hc
                            obtain ⟨x42264, q42265, q42243⟩ := bind_some q42243
                            refine evq_index rfl rfl rfl Tryd.underlying27 T3 r41535 q42265 ?_
                            intro p42266 c42267 d42268 a42269
                            obtain rfl : c42267 = [(.int .i64 x42264)] := d42268
                            refine evq (fun w' hw => rn_load rfl rfl (run_loadVar1 T3 ((a42269.step (hp.stp hw)).2 0 _ rfl))) ?_
                            obtain ⟨x42270, q42271, q42243⟩ := bind_some q42243
                            refine evq_indexO rfl rfl rfl Tryd.underlying27 T3 o41643 q42271 ?_
                            intro g42272 c42273 h42276 d42274 l42275
                            refine evq (fun w' hw => rn_load rfl rfl (run_loadVar1 T3 ((hp.ext hw).cellE (i := 0) rfl h42276 d42274 (j := 0) rfl))) ?_
                            obtain ⟨x42278, q42279, q42243⟩ := bind_some q42243
                            refine evq_indexO rfl rfl rfl Tryd.underlying27 T3 o41643 q42279 ?_
                            intro g42280 c42281 h42284 d42282 l42283
                            refine evq (fun w' hw => rn_load rfl rfl (run_loadVar1 T3 ((hp.ext hw).cellE (i := 0) rfl h42284 d42282 (j := 0) rfl))) ?_
                            intro w42286 hc
                            have hs := hp.stp hc
                            replace hp := hp.ext hc
                            replace a41509 := a41509.step hs
                            replace r41501 := r41501.step hs
                            replace r41535 := r41535.step hs
                            replace o41643 := o41643.step hs
                            replace a42256 := a42256.step hs
                            replace a42263 := a42263.step hs
                            replace a42269 := a42269.step hs
                            replace tb := tb.step hs
                            obtain rfl := Option.some.inj q42243
                            exact ⟨(decide (x42270 ≤ x42278)), (.c rfl (.c rfl (.c rfl (.c rfl (.c rfl (.c rfl .n)))))), rfl, hp, r41501, a41509, r41535, o41643, tb⟩
                          ·
                            have q42243 := cond_f q42243 hc
                            intro w42287 hc
                            have hs := hp.stp hc
                            replace hp := hp.ext hc
                            replace a41509 := a41509.step hs
                            replace r41501 := r41501.step hs
                            replace r41535 := r41535.step hs
                            replace o41643 := o41643.step hs
                            replace a42256 := a42256.step hs
                            replace a42263 := a42263.step hs
                            replace tb := tb.step hs
                            obtain rfl := Option.some.inj q42243
                            exact ⟨false, (.c rfl (.c rfl (.c rfl (.c rfl (.c rfl (.c rfl .n)))))), rfl, hp, r41501, a41509, r41535, o41643, tb⟩
                    ·
                      rintro x42240 w42241 ⟨hy, hp, r41501, a41509, r41535, o41643, tb⟩
                      replace hy := hy.symm
                      subst hy
                      apply go
                      refine sel_of (fun hc => ?_) (fun hc => ?_)
                      ·
                        have q42194 := cond_t q42194 hc
                        apply go
                        apply go
                        apply go
                        have q42288 := congrArg some (q42195 _ (Option.some.inj q42194).symm)
                        obtain rfl := Option.some.inj q42288
                        obtain rfl := Option.some.inj h
                        exact ⟨rfl, hp.ch⟩
                      ·
                        have q42194 := cond_f q42194 hc
                        apply go
                        apply go
                        exact ⟨_, (Option.some.inj q42194).symm, (), (.c rfl (.c rfl (.c rfl (.c rfl (.c rfl .n))))), ⟨hp, r41501, a41509, r41535, o41643, tb⟩⟩
                  ·
                    have q42194 := cond_f q42194 hc
                    apply go
                    have q42289 := congrArg some (q42195 _ (Option.some.inj q42194).symm)
                    obtain rfl := Option.some.inj q42289
                    exact ⟨(), (.c rfl (.c rfl (.c rfl (.c rfl .n)))), rfl, hp, r41501, a41509, r41535, o41643, tb⟩
                ·
                  rintro ⟨⟩ w42003 ⟨hy, hp, r41501, a41509, r41535, o41643, tb⟩
                  replace hy := hy.symm
                  subst hy
                  obtain ⟨y43082, q43083, h⟩ := bind_some h
                  refine W.cut (γ := Unit) (fun _ => []) (fun _ w' => y43082 = .go () ∧ Hp ⟨w0, I0, []⟩ I41533 [] w' ∧ At w' I41533 ⟨0, 0, none⟩ (tab64.map (.int .u8))) ?_ ?_
                  ·
                    apply go
                    apply go
                    apply go
                    refine W.loop q43083 (γ := Unit) (fun s _ => [(2, (.pointer (some (p41507)))), (5, v41534), (7, (.int .i64 x41536)), (9, v41564), (12, (.int .i64 (s)))]) (fun s _ w' => Hp ⟨w0, I0, []⟩ I41533 [e41642] w' ∧ RepS dPair w' I41533 v41500 x41499.E ∧ At w' I41533 p41507 [(.int .i64 x41499.N), v41500] ∧ RepS (dI .i64) w' I41533 v41534 x41529 ∧ OwnS (dI .i64) 3 w' I41533 v41564 e41642 x41640 ∧ At w' I41533 ⟨0, 0, none⟩ (tab64.map (.int .u8))) () (.c rfl (.c rfl (.c rfl (.c rfl (.c rfl .n))))) ⟨hp, r41501, a41509, r41535, o41643, tb⟩ ?_
                    rintro x43345 ⟨⟩ w43608 y43609 ⟨hp, r41501, a41509, r41535, o41643, tb⟩ q43610 q43611
                    unfold law26_OrderingLater_L25 at q43610
                    apply go
                    apply go
                    apply go
                    refine ev0 (rn_field rfl rfl FO24_1) ?_
                    refine ev (rn_load rfl rfl (run_loadVar1 T22 (a41509.2 1 _ rfl))) ?_
                    refine ev0 (rn_len rfl rfl Tryd.underlying22 r41501) ?_
                    apply go
                    refine sel_of (fun hc => ?_) (fun hc => ?_)
                    ·
                      have q43610 := cond_t q43610 hc
                      apply go
                      obtain ⟨y43742, q43743, q43610⟩ := bind_some q43610
                      refine W.cut (γ := Unit) (fun _ => [(2, (.pointer (some (p41507)))), (5, v41534), (7, (.int .i64 x41536)), (9, v41564), (12, (.int .i64 x43345))]) (fun _ w' => y43742 = .go () ∧ Hp ⟨w0, I0, []⟩ I41533 [e41642] w' ∧ RepS dPair w' I41533 v41500 x41499.E ∧ At w' I41533 p41507 [(.int .i64 x41499.N), v41500] ∧ RepS (dI .i64) w' I41533 v41534 x41529 ∧ OwnS (dI .i64) 3 w' I41533 v41564 e41642 x41640 ∧ At w' I41533 ⟨0, 0, none⟩ (tab64.map (.int .u8))) ?_ ?_
                      ·
                        apply go
                        apply go
                        refine W.quiet (fun w' => Ch [] w43608 w') MX (by kernel_rfl) (Ch.drew [] w43608) ?_
                        refine evq0 (rn_field rfl rfl FO24_1) ?_
                        refine evq (fun w' hw => rn_load rfl rfl (run_loadVar1 T22 ((a41509.step (hp.stp hw)).2 1 _ rfl))) ?_
                        obtain ⟨x43744, q43745, q43743⟩ := bind_some q43743
                        refine evq_index rfl rfl rfl Tryd.underlying22 T47 r41501 q43745 ?_
                        intro p43746 c43747 d43748 a43749
                        obtain rfl := dPair_o d43748
                        refine evq0 (rn_field rfl rfl FO47_0) ?_
                        refine evq (fun w' hw => rn_load rfl rfl (run_loadVar1 T3 ((a43749.step (hp.stp hw)).2 0 _ rfl))) ?_
                        refine evq0 (rn_field rfl rfl FO24_1) ?_
                        refine evq (fun w' hw => rn_load rfl rfl (run_loadVar1 T22 ((a41509.step (hp.stp hw)).2 1 _ rfl))) ?_
                        obtain ⟨x43750, q43751, q43743⟩ := bind_some q43743
                        refine evq_index rfl rfl rfl Tryd.underlying22 T47 r41501 q43751 ?_
                        intro p43752 c43753 d43754 a43755
                        obtain rfl := dPair_o d43754
                        refine evq0 (rn_field rfl rfl FO47_1) ?_
                        refine evq (fun w' hw => rn_load rfl rfl (run_loadVar1 T3 ((a43755.step (hp.stp hw)).2 1 _ rfl))) ?_
                        intro w43756 hc
                        have hs := hp.stp hc
                        replace hp := hp.ext hc
                        replace a41509 := a41509.step hs
                        replace r41501 := r41501.step hs
                        replace r41535 := r41535.step hs
                        replace o41643 := o41643.step hs
                        replace tb := tb.step hs
                        obtain ⟨y43777, q43778, q43743⟩ := bind_some q43743
                        refine W.cut (γ := (Int × Int)) (fun g => [(2, (.pointer (some (p41507)))), (5, v41534), (7, (.int .i64 x41536)), (9, v41564), (12, (.int .i64 x43345)), (13, (.int .i64 (g.1))), (14, (.int .i64 (g.2)))]) (fun g w' => y43777 = ((g.1), (g.2)) ∧ Hp ⟨w0, I0, []⟩ I41533 [e41642] w' ∧ RepS dPair w' I41533 v41500 x41499.E ∧ At w' I41533 p41507 [(.int .i64 x41499.N), v41500] ∧ RepS (dI .i64) w' I41533 v41534 x41529 ∧ OwnS (dI .i64) 3 w' I41533 v41564 e41642 x41640 ∧ At w' I41533 ⟨0, 0, none⟩ (tab64.map (.int .u8))) ?_ ?_
                        ·
                          apply go
                          refine W.quiet (fun w' => Ch [] w43756 w') MX (by kernel_rfl) (Ch.drew [] w43756) ?_
                          obtain ⟨x43779, q43780, q43778⟩ := bind_some q43778
                          refine evq_indexO rfl rfl rfl Tryd.underlying27 T3 o41643 q43780 ?_
                          intro g43781 c43782 h43785 d43783 l43784
                          refine evq (fun w' hw => rn_load rfl rfl (run_loadVar1 T3 ((hp.ext hw).cellE (i := 0) rfl h43785 d43783 (j := 0) rfl))) ?_
                          obtain ⟨x43787, q43788, q43778⟩ := bind_some q43778
                          refine evq_indexO rfl rfl rfl Tryd.underlying27 T3 o41643 q43788 ?_
                          intro g43789 c43790 h43793 d43791 l43792
                          refine evq (fun w' hw => rn_load rfl rfl (run_loadVar1 T3 ((hp.ext hw).cellE (i := 0) rfl h43793 d43791 (j := 0) rfl))) ?_
                          intro w43795 hc
                          have hs := hp.stp hc
                          replace hp := hp.ext hc
                          replace a41509 := a41509.step hs
                          replace r41501 := r41501.step hs
                          replace r41535 := r41535.step hs
                          replace o41643 := o41643.step hs
                          replace tb := tb.step hs
                          apply go
                          refine sel_of (fun hc => ?_) (fun hc => ?_)
                          ·
                            have q43778 := cond_t q43778 hc
                            apply go
                            obtain rfl := Option.some.inj q43778
                            exact ⟨(x43750.B, x43744.A), (.c rfl (.c rfl (.c rfl (.c rfl (.c rfl (.c rfl (.c rfl .n))))))), rfl, hp, r41501, a41509, r41535, o41643, tb⟩
                          ·
                            have q43778 := cond_f q43778 hc
                            apply go
                            obtain rfl := Option.some.inj q43778
                            exact ⟨(x43744.A, x43750.B), (.c rfl (.c rfl (.c rfl (.c rfl (.c rfl (.c rfl (.c rfl .n))))))), rfl, hp, r41501, a41509, r41535, o41643, tb⟩
                        ·
                          rintro ⟨x43774, x43775⟩ w43776 ⟨hy, hp, r41501, a41509, r41535, o41643, tb⟩
                          replace hy := hy.symm
                          subst hy
                          apply go
                          apply go
                          obtain ⟨y43833, q43834, q43743⟩ := bind_some q43743
                          refine W.cut (γ := (Int × Int)) (fun g => [(2, (.pointer (some (p41507)))), (5, v41534), (7, (.int .i64 x41536)), (9, v41564), (12, (.int .i64 x43345)), (13, (.int .i64 (g.1))), (14, (.int .i64 x43775)), (15, (.int .i64 (g.2)))]) (fun g w' => y43833 = ((g.1), (g.2)) ∧ w43776 = w') ?_ ?_
                          ·
                            apply go
                            refine W.loop q43834 (γ := Unit) (fun s _ => [(2, (.pointer (some (p41507)))), (5, v41534), (7, (.int .i64 x41536)), (9, v41564), (12, (.int .i64 x43345)), (13, (.int .i64 (s.1))), (14, (.int .i64 x43775)), (15, (.int .i64 (s.2)))]) (fun s _ w' => w43776 = w') () (.c rfl (.c rfl (.c rfl (.c rfl (.c rfl (.c rfl (.c rfl (.c rfl .n)))))))) rfl ?_
                            rintro ⟨x43844, x43845⟩ ⟨⟩ _ y43857 rfl q43858 q43859
                            unfold law26_OrderingLater_L29 at q43858
                            apply go
                            obtain ⟨y43861, q43862, q43858⟩ := bind_some q43858
                            refine W.cut (γ := Bool) (fun g => [(2, (.pointer (some (p41507)))), (5, v41534), (7, (.int .i64 x41536)), (9, v41564), (12, (.int .i64 x43345)), (13, (.int .i64 x43844)), (14, (.int .i64 x43775)), (15, (.int .i64 x43845)), (188, (.bool (g)))]) (fun g w' => y43861 = (g) ∧ w43776 = w') ?_ ?_
                            ·
                              apply go
                              refine sel_of (fun hc => ?_) (fun hc => ?_)
                              ·
                                have q43862 := cond_t q43862 hc
                                obtain rfl := Option.some.inj q43862
                                exact ⟨(decide (x43844 ≥ 0)), (.c rfl (.c rfl (.c rfl (.c rfl (.c rfl (.c rfl (.c rfl (.c rfl (.c rfl .n))))))))), rfl, rfl⟩
                              ·
                                have q43862 := cond_f q43862 hc
                                obtain rfl := Option.some.inj q43862
                                exact ⟨false, (.c rfl (.c rfl (.c rfl (.c rfl (.c rfl (.c rfl (.c rfl (.c rfl (.c rfl .n))))))))), rfl, rfl⟩
                            ·
                              rintro x43860 _ ⟨hy, rfl⟩
                              replace hy := hy.symm
                              subst hy
                              apply go
                              refine sel_of (fun hc => ?_) (fun hc => ?_)
                              ·
                                have q43858 := cond_t q43858 hc
                                apply go
                                apply go
                                apply go
                                apply go
                                obtain ⟨x43863, q43864, q43858⟩ := bind_some q43858
                                refine ev_index rfl rfl rfl Tryd.underlying27 T3 r41535 q43864 ?_
                                intro p43865 c43866 d43867 a43868
                                obtain rfl : c43866 = [(.int .i64 x43863)] := d43867
                                refine ev (rn_load rfl rfl (run_loadVar1 T3 (a43868.2 0 _ rfl))) ?_
                                apply go
                                exact ⟨_, (Option.some.inj q43858).symm, (), (.c rfl (.c rfl (.c rfl (.c rfl (.c rfl (.c rfl (.c rfl (.c rfl .n)))))))), rfl⟩
                              ·
                                have q43858 := cond_f q43858 hc
                                apply go
                                have q43869 := congrArg some (q43859 _ (Option.some.inj q43858).symm)
                                obtain rfl := Option.some.inj q43869
                                exact ⟨(x43844, x43845), (.c rfl (.c rfl (.c rfl (.c rfl (.c rfl (.c rfl (.c rfl (.c rfl .n)))))))), rfl, rfl⟩
                          ·
                            rintro ⟨x43831, x43832⟩ _ ⟨hy, rfl⟩
                            replace hy := hy.symm
                            subst hy
                            obtain ⟨y43871, q43872, q43743⟩ := bind_some q43743
                            refine W.cut (γ := Bool) (fun g => [(2, (.pointer (some (p41507)))), (5, v41534), (7, (.int .i64 x41536)), (9, v41564), (12, (.int .i64 x43345)), (202, (.bool (g)))]) (fun g w' => y43871 = (g) ∧ w43776 = w') ?_ ?_
                            ·
                              apply go
                              refine sel_of (fun hc => ?_) (fun hc => ?_)
                              ·
                                have q43872 := cond_t q43872 hc
                                obtain rfl := Option.some.inj q43872
                                exact ⟨true, (.c rfl (.c rfl (.c rfl (.c rfl (.c rfl (.c rfl .n)))))), rfl, rfl⟩
                              ·
                                have q43872 := cond_f q43872 hc
                                obtain rfl := Option.some.inj q43872
                                exact ⟨(decide (x43832 > x41536)), (.c rfl (.c rfl (.c rfl (.c rfl (.c rfl (.c rfl .n)))))), rfl, rfl⟩
                            ·
                              rintro x43870 _ ⟨hy, rfl⟩
                              replace hy := hy.symm
                              subst hy
                              apply go
                              refine sel_of (fun hc => ?_) (fun hc => ?_)
                              ·
                                have q43743 := cond_t q43743 hc
                                apply go
                                apply go
                                apply go
                                obtain rfl := Option.some.inj q43743
                                have q43873 := congrArg some (q43611 _ (Option.some.inj q43610).symm)
                                obtain rfl := Option.some.inj q43873
                                obtain rfl := Option.some.inj h
                                exact ⟨rfl, hp.ch⟩
                              ·
                                have q43743 := cond_f q43743 hc
                                apply go
                                obtain rfl := Option.some.inj q43743
                                exact ⟨(), (.c rfl (.c rfl (.c rfl (.c rfl (.c rfl .n))))), rfl, hp, r41501, a41509, r41535, o41643, tb⟩
                      ·
                        rintro ⟨⟩ w43741 ⟨hy, hp, r41501, a41509, r41535, o41643, tb⟩
                        replace hy := hy.symm
                        subst hy
                        apply go
                        exact ⟨_, (Option.some.inj q43610).symm, (), (.c rfl (.c rfl (.c rfl (.c rfl (.c rfl .n))))), ⟨hp, r41501, a41509, r41535, o41643, tb⟩⟩
                    ·
                      have q43610 := cond_f q43610 hc
                      apply go
                      have q43874 := congrArg some (q43611 _ (Option.some.inj q43610).symm)
                      obtain rfl := Option.some.inj q43874
                      have hp := hp.sel [] (by decide)
                      exact ⟨(), .n, rfl, hp, tb⟩
                  ·
                    rintro ⟨⟩ w43081 ⟨hy, hp, tb⟩
                    replace hy := hy.symm
                    subst hy
                    apply go
                    apply go
                    apply go
                    obtain rfl := Option.some.inj h
                    exact ⟨rfl, hp.ch⟩

end Go.Proofs.YtgmiencjoghnnaaDoor
