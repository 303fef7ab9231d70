/-
  Each function of the program computes the plain function of its name.
-/
import Derived.Test.YtgmiencjoghnnaaDoorFactsA
namespace Go.Proofs.YtgmiencjoghnnaaDoor
open Go Go.Proofs.YtgmiencjoghnnaaDoor.Gw Go.RowKit
set_option linter.unusedVariables false
attribute [local irreducible] Ev EvQ EvS EvH
def ordering_Valid_S (f : Int → (List Pair) → Option Bool) : Prop := ∀ (w0 : World) (I0 : Nat → Prop) (x1 : Int) (x2 : (List Pair)) (v3 : Value) (r4 : RepS dPair w0 I0 v3 x2) (hI : ∀ g, I0 g → g < w0.heap.size) (r : Bool), f x1 x2 = some r →
    Ret Tryd.prog 34 #[(.int .i64 x1), v3] w0 fun v w1 => v = (.bool r) ∧ Ch [] w0 w1
theorem ordering_Valid_ok (n : Nat) : ordering_Valid_S (ordering_Valid n) := by
  intro w0 I0 x1 x2 v3 r4 hI r h
  unfold ordering_Valid at h
  refine enter Tryd.func34 rfl (Nat.le_of_ble_eq_true rfl) ?_
  have hp : Hp ⟨w0, I0, []⟩ I0 [] w0 := Hp.start hI
  apply go
  apply go
  apply go
  obtain ⟨y6, q7, h⟩ := bind_some h
  refine W.cut (γ := Bool) (fun g => [(0, (.int .i64 x1)), (1, v3), (12, (.bool (g)))]) (fun g w' => y6 = (g) ∧ w0 = w') ?_ ?_
  ·
    apply go
    refine sel_of (fun hc => ?_) (fun hc => ?_)
    ·
      have q7 := cond_t q7 hc
      obtain rfl := Option.some.inj q7
      exact ⟨true, (.c rfl (.c rfl (.c rfl .n))), rfl, rfl⟩
    ·
      have q7 := cond_f q7 hc
      obtain rfl := Option.some.inj q7
      exact ⟨(decide (x1 > 64)), (.c rfl (.c rfl (.c rfl .n))), rfl, rfl⟩
  ·
    rintro x5 _ ⟨hy, rfl⟩
    replace hy := hy.symm
    subst hy
    apply go
    refine sel_of (fun hc => ?_) (fun hc => ?_)
    ·
      have h := cond_t h hc
      apply go
      apply go
      apply go
      obtain rfl := Option.some.inj h
      exact ⟨rfl, hp.ch⟩
    ·
      have h := cond_f h hc
      apply go
      obtain ⟨y198, q199, h⟩ := bind_some h
      refine W.cut (γ := Unit) (fun _ => []) (fun _ w' => y198 = .go () ∧ Hp ⟨w0, I0, []⟩ I0 [] w') ?_ ?_
      ·
        apply go
        apply go
        refine ev0 (rn_len rfl rfl Tryd.underlying22 r4) ?_
        apply go
        refine W.loop q199 (γ := Unit) (fun s _ => [(0, (.int .i64 x1)), (1, v3), (13, v3), (14, (.int .i64 (x2.length : Int))), (15, (.int .i64 (s)))]) (fun s _ w' => Hp ⟨w0, I0, []⟩ I0 [] w' ∧ RepS dPair w' I0 v3 x2) () (.c rfl (.c rfl (.c rfl (.c rfl (.c rfl .n))))) ⟨hp, r4⟩ ?_
        rintro x260 ⟨⟩ w322 y323 ⟨hp, r4⟩ q324 q325
        unfold ordering_Valid_L1 at q324
        apply go
        apply go
        apply go
        apply go
        refine sel_of (fun hc => ?_) (fun hc => ?_)
        ·
          have q324 := cond_t q324 hc
          apply go
          apply go
          apply go
          apply go
          apply go
          obtain ⟨x326, q327, q324⟩ := bind_some q324
          refine ev_index rfl rfl rfl Tryd.underlying22 T47 r4 q327 ?_
          intro p328 c329 d330 a331
          obtain rfl := dPair_o d330
          refine ev (rn_load rfl rfl (run_loadVarA T47 rfl a331)) ?_
          refine ev_alloc hp rfl T47 ?_
          intro g332 w333 hp hs
          replace r4 := r4.step hs
          refine ev_storeA hp (i := 0) (off := 0) (vs := [(.int .i64 x326.A), (.int .i64 x326.B)]) rfl rfl rfl rfl T47 rfl (Nat.le_of_ble_eq_true rfl) (ones_of rfl) ?_
          intro w334 hp hs
          replace r4 := r4.step hs
          apply go
          obtain ⟨y336, q337, q324⟩ := bind_some q324
          refine W.cut (γ := Bool) (fun g => [(0, (.int .i64 x1)), (1, v3), (5, (.int .i64 x260)), (6, (.pointer (some ⟨g332, 0, none⟩))), (13, v3), (14, (.int .i64 (x2.length : Int))), (15, (.int .i64 x260)), (35, (.bool (g)))]) (fun g w' => y336 = (g) ∧ w334 = w') ?_ ?_
          ·
            apply go
            refine ev0 (rn_field rfl rfl FO47_0) ?_
            refine ev (rn_load rfl rfl (run_loadVar1 T3 (hp.cell (i := 0) (off := 0) rfl rfl))) ?_
            refine sel_of (fun hc => ?_) (fun hc => ?_)
            ·
              have q337 := cond_t q337 hc
              obtain rfl := Option.some.inj q337
              exact ⟨true, (.c rfl (.c rfl (.c rfl (.c rfl (.c rfl (.c rfl (.c rfl (.c rfl .n)))))))), rfl, rfl⟩
            ·
              have q337 := cond_f q337 hc
              refine ev0 (rn_field rfl rfl FO47_0) ?_
              refine ev (rn_load rfl rfl (run_loadVar1 T3 (hp.cell (i := 0) (off := 0) rfl rfl))) ?_
              refine ev0 (rn_field rfl rfl FO47_1) ?_
              refine ev (rn_load rfl rfl (run_loadVar1 T3 (hp.cell (i := 0) (off := 1) rfl rfl))) ?_
              refine sel_of (fun hc => ?_) (fun hc => ?_)
              ·
                have q337 := cond_t q337 hc
                obtain rfl := Option.some.inj q337
                exact ⟨true, (.c rfl (.c rfl (.c rfl (.c rfl (.c rfl (.c rfl (.c rfl (.c rfl .n)))))))), rfl, rfl⟩
              ·
                have q337 := cond_f q337 hc
                refine ev0 (rn_field rfl rfl FO47_1) ?_
                refine ev (rn_load rfl rfl (run_loadVar1 T3 (hp.cell (i := 0) (off := 1) rfl rfl))) ?_
                obtain rfl := Option.some.inj q337
                exact ⟨(decide (x326.B ≥ x1)), (.c rfl (.c rfl (.c rfl (.c rfl (.c rfl (.c rfl (.c rfl (.c rfl .n)))))))), rfl, rfl⟩
          ·
            rintro x335 _ ⟨hy, rfl⟩
            replace hy := hy.symm
            subst hy
            apply go
            refine sel_of (fun hc => ?_) (fun hc => ?_)
            ·
              have q324 := cond_t q324 hc
              apply go
              apply go
              apply go
              have q338 := congrArg some (q325 _ (Option.some.inj q324).symm)
              obtain rfl := Option.some.inj q338
              obtain rfl := Option.some.inj h
              exact ⟨rfl, hp.ch⟩
            ·
              have q324 := cond_f q324 hc
              apply go
              obtain ⟨y363, q364, q324⟩ := bind_some q324
              refine W.cut (γ := Bool) (fun g => [(0, (.int .i64 x1)), (1, v3), (13, v3), (14, (.int .i64 (x2.length : Int))), (15, (.int .i64 x260)), (70, (.bool (g)))]) (fun g w' => y363 = (g) ∧ Hp ⟨w0, I0, []⟩ I0 [] w' ∧ RepS dPair w' I0 v3 x2) ?_ ?_
              ·
                refine W.quiet (fun w' => Ch [] w334 w') MX (by kernel_rfl) (Ch.drew [] w334) ?_
                refine sel_of (fun hc => ?_) (fun hc => ?_)
                ·
                  have q364 := cond_t q364 hc
                  obtain ⟨x365, q366, q364⟩ := bind_some q364
                  refine evq_index rfl rfl rfl Tryd.underlying22 T47 r4 q366 ?_
                  intro p367 c368 d369 a370
                  obtain rfl := dPair_o d369
                  refine evq0 (rn_field rfl rfl FO47_0) ?_
                  refine evq (fun w' hw => rn_load rfl rfl (run_loadVar1 T3 ((a370.step (hp.stp hw)).2 0 _ rfl))) ?_
                  refine evq0 (rn_field rfl rfl FO47_0) ?_
                  refine evq (fun w' hw => rn_load rfl rfl (run_loadVar1 T3 ((hp.ext hw).cell (i := 0) (off := 0) rfl rfl))) ?_
                  refine sel_of (fun hc => ?_) (fun hc => ?_)
                  ·
                    have q364 := cond_t q364 hc
                    intro w371 hc
                    have hs := hp.stp hc
                    replace hp := hp.ext hc
                    replace r4 := r4.step hs
                    replace a370 := a370.step hs
                    obtain rfl := Option.some.inj q364
                    have hp := hp.sel [] (by decide)
                    exact ⟨true, (.c rfl (.c rfl (.c rfl (.c rfl (.c rfl (.c rfl .n)))))), rfl, hp, r4⟩
                  ·
                    have q364 := cond_f q364 hc
                    obtain ⟨x372, q373, q364⟩ := bind_some q364
                    refine evq_index rfl rfl rfl Tryd.underlying22 T47 r4 q373 ?_
                    intro p374 c375 d376 a377
                    obtain rfl := dPair_o d376
                    refine evq0 (rn_field rfl rfl FO47_0) ?_
                    refine evq (fun w' hw => rn_load rfl rfl (run_loadVar1 T3 ((a377.step (hp.stp hw)).2 0 _ rfl))) ?_
                    refine evq0 (rn_field rfl rfl FO47_0) ?_
                    refine evq (fun w' hw => rn_load rfl rfl (run_loadVar1 T3 ((hp.ext hw).cell (i := 0) (off := 0) rfl rfl))) ?_
                    refine sel_of (fun hc => ?_) (fun hc => ?_)
                    ·
                      have q364 := cond_t q364 hc
                      obtain ⟨x378, q379, q364⟩ := bind_some q364
                      refine evq_index rfl rfl rfl Tryd.underlying22 T47 r4 q379 ?_
                      intro p380 c381 d382 a383
                      obtain rfl := dPair_o d382
                      refine evq0 (rn_field rfl rfl FO47_1) ?_
                      refine evq (fun w' hw => rn_load rfl rfl (run_loadVar1 T3 ((a383.step (hp.stp hw)).2 1 _ rfl))) ?_
                      refine evq0 (rn_field rfl rfl FO47_1) ?_
                      refine evq (fun w' hw => rn_load rfl rfl (run_loadVar1 T3 ((hp.ext hw).cell (i := 0) (off := 1) rfl rfl))) ?_
                      intro w384 hc
                      have hs := hp.stp hc
                      replace hp := hp.ext hc
                      replace r4 := r4.step hs
                      replace a370 := a370.step hs
                      replace a377 := a377.step hs
                      replace a383 := a383.step hs
                      obtain rfl := Option.some.inj q364
                      have hp := hp.sel [] (by decide)
                      exact ⟨(decide (x378.B ≥ x326.B)), (.c rfl (.c rfl (.c rfl (.c rfl (.c rfl (.c rfl .n)))))), rfl, hp, r4⟩
                    ·
                      have q364 := cond_f q364 hc
                      intro w385 hc
                      have hs := hp.stp hc
                      replace hp := hp.ext hc
                      replace r4 := r4.step hs
                      replace a370 := a370.step hs
                      replace a377 := a377.step hs
                      obtain rfl := Option.some.inj q364
                      have hp := hp.sel [] (by decide)
                      exact ⟨false, (.c rfl (.c rfl (.c rfl (.c rfl (.c rfl (.c rfl .n)))))), rfl, hp, r4⟩
                ·
                  have q364 := cond_f q364 hc
                  intro w386 hc
                  have hs := hp.stp hc
                  replace hp := hp.ext hc
                  replace r4 := r4.step hs
                  obtain rfl := Option.some.inj q364
                  have hp := hp.sel [] (by decide)
                  exact ⟨false, (.c rfl (.c rfl (.c rfl (.c rfl (.c rfl (.c rfl .n)))))), rfl, hp, r4⟩
              ·
                rintro x361 w362 ⟨hy, hp, r4⟩
                replace hy := hy.symm
                subst hy
                apply go
                refine sel_of (fun hc => ?_) (fun hc => ?_)
                ·
                  have q324 := cond_t q324 hc
                  apply go
                  apply go
                  apply go
                  have q387 := congrArg some (q325 _ (Option.some.inj q324).symm)
                  obtain rfl := Option.some.inj q387
                  obtain rfl := Option.some.inj h
                  exact ⟨rfl, hp.ch⟩
                ·
                  have q324 := cond_f q324 hc
                  apply go
                  apply go
                  exact ⟨_, (Option.some.inj q324).symm, (), (.c rfl (.c rfl (.c rfl (.c rfl (.c rfl .n))))), ⟨hp, r4⟩⟩
        ·
          have q324 := cond_f q324 hc
          apply go
          have q388 := congrArg some (q325 _ (Option.some.inj q324).symm)
          obtain rfl := Option.some.inj q388
          exact ⟨(), .n, rfl, hp⟩
      ·
        rintro ⟨⟩ w197 ⟨hy, hp⟩
        replace hy := hy.symm
        subst hy
        apply go
        apply go
        apply go
        obtain rfl := Option.some.inj h
        exact ⟨rfl, hp.ch⟩

end Go.Proofs.YtgmiencjoghnnaaDoor

namespace Go.Proofs.YtgmiencjoghnnaaDoor
open Go Go.Proofs.YtgmiencjoghnnaaDoor.Gw Go.RowKit
set_option linter.unusedVariables false
attribute [local irreducible] Ev EvQ EvS EvH
def ordering_build_S (f : Int → (List Pair) → Option (List Int)) : Prop := ∀ (w0 : World) (I0 : Nat → Prop) (x389 : Int) (x390 : (List Pair)) (v391 : Value) (r392 : RepS dPair w0 I0 v391 x390) (hI : ∀ g, I0 g → g < w0.heap.size) (r : (List Int)), f x389 x390 = some r →
    Ret Tryd.prog 36 #[(.int .i64 x389), v391] w0 fun v w1 => ∃ (I1 : Nat → Prop) (u393 : Value) (u394 : Ent), v = u393 ∧ Hp ⟨w0, I0, []⟩ I1 [u394] w1 ∧ OwnS (dI .u64) 52 w1 I1 u393 u394 r
theorem ordering_build_ok (n : Nat) : ordering_build_S (ordering_build n) := by
  intro w0 I0 x389 x390 v391 r392 hI r h
  unfold ordering_build at h
  refine enter Tryd.func36 rfl (Nat.le_of_ble_eq_true rfl) ?_
  have hp : Hp ⟨w0, I0, []⟩ I0 [] w0 := Hp.start hI
  apply go
  apply go
  apply go
  apply go
  obtain ⟨x395, q396, h⟩ := bind_some h
  refine ev_make (d := (dI .u64)) (x0 := 0) hp rfl rfl rfl Tryd.underlying50 T52 (fun _ _ => rfl) (Nat.le_of_ble_eq_true rfl) q396 ?_
  intro v397 e398 w399 hp hs o400
  replace r392 := r392.step hs
  obtain ⟨y586, q587, h⟩ := bind_some h
  refine W.cut (γ := ((List Int) × Ent)) (fun g => [(5, v397)]) (fun g w' => y586 = (g.1) ∧ Hp ⟨w0, I0, []⟩ I0 [(g.2)] w' ∧ OwnS (dI .u64) 52 w' I0 v397 (g.2) (g.1)) ?_ ?_
  ·
    apply go
    apply go
    refine ev0 (rn_len rfl rfl Tryd.underlying22 r392) ?_
    apply go
    refine W.loop q587 (γ := Ent) (fun s g => [(5, v397), (10, v391), (11, (.int .i64 (x390.length : Int))), (12, (.int .i64 (s.2)))]) (fun s g w' => Hp ⟨w0, I0, []⟩ I0 [(g)] w' ∧ OwnS (dI .u64) 52 w' I0 v397 (g) (s.1) ∧ RepS dPair w' I0 v391 x390) e398 (.c rfl (.c rfl (.c rfl (.c rfl .n)))) ⟨hp, o400, r392⟩ ?_
    rintro ⟨x643, x647⟩ e645 w708 y709 ⟨hp, o646, r392⟩ q710 q711
    unfold ordering_build_L1 at q710
    apply go
    apply go
    apply go
    apply go
    refine sel_of (fun hc => ?_) (fun hc => ?_)
    ·
      have q710 := cond_t q710 hc
      apply go
      apply go
      apply go
      apply go
      apply go
      obtain ⟨x712, q713, q710⟩ := bind_some q710
      refine ev_index rfl rfl rfl Tryd.underlying22 T47 r392 q713 ?_
      intro p714 c715 d716 a717
      obtain rfl := dPair_o d716
      refine ev (rn_load rfl rfl (run_loadVarA T47 rfl a717)) ?_
      refine ev_alloc hp rfl T47 ?_
      intro g718 w719 hp hs
      replace o646 := o646.step hs
      replace r392 := r392.step hs
      refine ev_storeA hp (i := 0) (off := 0) (vs := [(.int .i64 x712.A), (.int .i64 x712.B)]) rfl rfl rfl rfl T47 rfl (Nat.le_of_ble_eq_true rfl) (ones_of rfl) ?_
      intro w720 hp hs
      replace o646 := o646.step hs
      replace r392 := r392.step hs
      apply go
      have hs := hp.stp (Ch.drew [] w720)
      have hp := hp.drew
      replace o646 := o646.step hs
      replace r392 := r392.step hs
      refine W.tail 10 MX (by kernel_rfl) ?_
      refine evs0 (rn_field rfl rfl FO47_0) ?_
      refine evs (rn_load rfl rfl (run_loadVar1 T3 (hp.cell (i := 0) (off := 0) rfl rfl))) ?_
      obtain ⟨x722, q723, q710⟩ := bind_some q710
      refine evs_indexO rfl rfl rfl Tryd.underlying50 T52 o646 q723 ?_
      intro g724 c725 h728 d726 l727
      refine evs (rn_load rfl rfl (run_loadVar1 T52 (hp.cellE (i := 1) rfl h728 d726 (j := 0) rfl))) ?_
      refine evs0 (rn_field rfl rfl FO47_1) ?_
      refine evs (rn_load rfl rfl (run_loadVar1 T3 (hp.cell (i := 0) (off := 1) rfl rfl))) ?_
      obtain ⟨q730, _, q710⟩ := need_some q710
      refine ⟨q730, ?_⟩
      obtain ⟨x731, q732, q710⟩ := bind_some q710
      refine evs_indexO rfl rfl rfl Tryd.underlying50 T52 o646 q732 ?_
      intro g733 c734 h737 d735 l736
      refine ev_storeE hp (i := 1) rfl h737 rfl rfl rfl T52 o646 q732 (x0 := (ib .or .u64 x722 (IntKind.u64.wrap ((1 : Int) * 2 ^ min x712.B.toNat (IntKind.u64).bits)))) rfl ?_
      intro e740 w739 hp hs o741
      replace r392 := r392.step hs
      have hs := hp.stp (Ch.drew [] w739)
      have hp := hp.drew
      replace o741 := o741.step hs
      replace r392 := r392.step hs
      refine W.tail 10 MX (by kernel_rfl) ?_
      refine evs0 (rn_field rfl rfl FO47_1) ?_
      refine evs (rn_load rfl rfl (run_loadVar1 T3 (hp.cell (i := 0) (off := 1) rfl rfl))) ?_
      obtain ⟨x745, q746, q710⟩ := bind_some q710
      refine evs_indexO rfl rfl rfl Tryd.underlying50 T52 o741 q746 ?_
      intro g747 c748 h751 d749 l750
      refine evs (rn_load rfl rfl (run_loadVar1 T52 (hp.cellE (i := 1) rfl h751 d749 (j := 0) rfl))) ?_
      refine evs0 (rn_field rfl rfl FO47_0) ?_
      refine evs (rn_load rfl rfl (run_loadVar1 T3 (hp.cell (i := 0) (off := 0) rfl rfl))) ?_
      obtain ⟨q753, _, q710⟩ := need_some q710
      refine ⟨q753, ?_⟩
      obtain ⟨x754, q755, q710⟩ := bind_some q710
      refine evs_indexO rfl rfl rfl Tryd.underlying50 T52 o741 q755 ?_
      intro g756 c757 h760 d758 l759
      refine ev_storeE hp (i := 1) rfl h760 rfl rfl rfl T52 o741 q755 (x0 := (ib .or .u64 x745 (IntKind.u64.wrap ((1 : Int) * 2 ^ min x712.A.toNat (IntKind.u64).bits)))) rfl ?_
      intro e763 w762 hp hs o764
      replace r392 := r392.step hs
      apply go
      have hp := hp.sel [1] (by decide)
      exact ⟨_, (Option.some.inj q710).symm, e763, (.c rfl (.c rfl (.c rfl (.c rfl .n)))), ⟨hp, o764, r392⟩⟩
    ·
      have q710 := cond_f q710 hc
      apply go
      have q767 := congrArg some (q711 _ (Option.some.inj q710).symm)
      obtain rfl := Option.some.inj q767
      exact ⟨(x643, e645), (.c rfl .n), rfl, hp, o646⟩
  ·
    rintro ⟨x581, e583⟩ w585 ⟨hy, hp, o584⟩
    replace hy := hy.symm
    subst hy
    apply go
    apply go
    apply go
    obtain rfl := Option.some.inj h
    exact ⟨I0, v397, e583, rfl, hp, o584⟩

end Go.Proofs.YtgmiencjoghnnaaDoor

namespace Go.Proofs.YtgmiencjoghnnaaDoor
open Go Go.Proofs.YtgmiencjoghnnaaDoor.Gw Go.RowKit
set_option linter.unusedVariables false
attribute [local irreducible] Ev EvQ EvS EvH
def ordering_all_S (f : Int → Option Int) : Prop := ∀ (w0 : World) (I0 : Nat → Prop) (x768 : Int) (hI : ∀ g, I0 g → g < w0.heap.size) (r : Int), f x768 = some r →
    Ret Tryd.prog 37 #[(.int .i64 x768)] w0 fun v w1 => v = (.int .u64 r) ∧ Ch [] w0 w1
theorem ordering_all_ok (n : Nat) : ordering_all_S (ordering_all n) := by
  intro w0 I0 x768 hI r h
  unfold ordering_all at h
  refine enter Tryd.func37 rfl (Nat.le_of_ble_eq_true rfl) ?_
  have hp : Hp ⟨w0, I0, []⟩ I0 [] w0 := Hp.start hI
  apply go
  apply go
  apply go
  apply go
  apply go
  apply go
  refine sel_of (fun hc => ?_) (fun hc => ?_)
  ·
    have h := cond_t h hc
    apply go
    apply go
    apply go
    obtain rfl := Option.some.inj h
    exact ⟨rfl, hp.ch⟩
  ·
    have h := cond_f h hc
    apply go
    apply go
    apply go
    obtain ⟨q769, _, h⟩ := need_some h
    refine ⟨q769, ?_⟩
    apply go
    obtain rfl := Option.some.inj h
    exact ⟨rfl, hp.ch⟩

end Go.Proofs.YtgmiencjoghnnaaDoor

namespace Go.Proofs.YtgmiencjoghnnaaDoor
open Go Go.Proofs.YtgmiencjoghnnaaDoor.Gw Go.RowKit
set_option linter.unusedVariables false
attribute [local irreducible] Ev EvQ EvS EvH
def bits_TrailingZeros64_S (f : Int → Option Int) : Prop := ∀ (w0 : World) (I0 : Nat → Prop) (tb : At w0 I0 ⟨0, 0, none⟩ (tab64.map (.int .u8))) (x770 : Int) (hI : ∀ g, I0 g → g < w0.heap.size) (r : Int), f x770 = some r →
    Ret Tryd.prog 38 #[(.int .u64 x770)] w0 fun v w1 => v = (.int .i64 r) ∧ Ch [] w0 w1
theorem bits_TrailingZeros64_ok (n : Nat) : bits_TrailingZeros64_S (bits_TrailingZeros64 n) := by
  intro w0 I0 tb x770 hI r h
  unfold bits_TrailingZeros64 at h
  refine enter Tryd.func38 rfl (Nat.le_of_ble_eq_true rfl) ?_
  have hp : Hp ⟨w0, I0, []⟩ I0 [] w0 := Hp.start hI
  apply go
  apply go
  apply go
  apply go
  apply go
  apply go
  refine sel_of (fun hc => ?_) (fun hc => ?_)
  ·
    have h := cond_t h hc
    apply go
    apply go
    apply go
    obtain rfl := Option.some.inj h
    exact ⟨rfl, hp.ch⟩
  ·
    have h := cond_f h hc
    apply go
    apply go
    apply go
    refine ⟨by decide, ?_⟩
    obtain ⟨x771, q772, h⟩ := bind_some h
    refine ev0 (rn_indexG rfl rfl rfl Tryd.underlying67 T5 (idx_some q772).1 (idx_some q772).2.1) ?_
    refine ev (rn_load rfl rfl (run_loadVar1 T5 (tab_cell tb q772))) ?_
    refine ev0 (rn_conv rfl rfl U5 Tryd.underlying3) ?_
    apply go
    obtain rfl := Option.some.inj h
    exact ⟨rfl, hp.ch⟩

end Go.Proofs.YtgmiencjoghnnaaDoor

namespace Go.Proofs.YtgmiencjoghnnaaDoor
open Go Go.Proofs.YtgmiencjoghnnaaDoor.Gw Go.RowKit
set_option linter.unusedVariables false
attribute [local irreducible] Ev EvQ EvS EvH
def bits_OnesCount64_S (f : Int → Option Int) : Prop := ∀ (w0 : World) (I0 : Nat → Prop) (x773 : Int) (hI : ∀ g, I0 g → g < w0.heap.size) (r : Int), f x773 = some r →
    Ret Tryd.prog 39 #[(.int .u64 x773)] w0 fun v w1 => v = (.int .i64 r) ∧ Ch [] w0 w1
theorem bits_OnesCount64_ok (n : Nat) : bits_OnesCount64_S (bits_OnesCount64 n) := by
  intro w0 I0 x773 hI r h
  unfold bits_OnesCount64 at h
  refine enter Tryd.func39 rfl (Nat.le_of_ble_eq_true rfl) ?_
  have hp : Hp ⟨w0, I0, []⟩ I0 [] w0 := Hp.start hI
  apply go
  apply go
  apply go
  apply go
  refine ⟨by decide, ?_⟩
  apply go
  apply go
  refine ⟨by decide, ?_⟩
  apply go
  apply go
  refine ⟨by decide, ?_⟩
  apply go
  apply go
  refine ⟨by decide, ?_⟩
  apply go
  apply go
  refine ⟨by decide, ?_⟩
  apply go
  apply go
  refine ⟨by decide, ?_⟩
  apply go
  apply go
  refine ev0 (rn_conv rfl rfl U52 Tryd.underlying3) ?_
  apply go
  obtain rfl := Option.some.inj h
  exact ⟨rfl, hp.ch⟩

end Go.Proofs.YtgmiencjoghnnaaDoor

namespace Go.Proofs.YtgmiencjoghnnaaDoor
open Go Go.Proofs.YtgmiencjoghnnaaDoor.Gw Go.RowKit
set_option linter.unusedVariables false
attribute [local irreducible] Ev EvQ EvS EvH
def ordering_graph_eliminate_S (f : (List Int) → Int → Int → Option (List Int)) : Prop := ∀ (w0 : World) (I0 : Nat → Prop) (tb : At w0 I0 ⟨0, 0, none⟩ (tab64.map (.int .u8))) (x774 : (List Int)) (v775 : Value) (e776 : Ent) (o777 : OwnS (dI .u64) 52 w0 I0 v775 e776 x774) (x778 : Int) (x779 : Int) (hp : Hp ⟨w0, I0, (blk e776)⟩ I0 [e776] w0) (r : (List Int)), f x774 x778 x779 = some r →
    Ret Tryd.prog 40 #[v775, (.int .i64 x778), (.int .u64 x779)] w0 fun v w1 => ∃ (I1 : Nat → Prop) (u780 : Ent), v = (.tuple #[]) ∧ Hp ⟨w0, I0, (blk e776)⟩ I1 [u780] w1 ∧ OwnS (dI .u64) 52 w1 I1 v775 u780 r ∧ blk u780 = blk e776
theorem ordering_graph_eliminate_ok (n : Nat) : ordering_graph_eliminate_S (ordering_graph_eliminate n) := by
  intro w0 I0 tb x774 v775 e776 o777 x778 x779 hp r h
  unfold ordering_graph_eliminate at h
  refine enter Tryd.func40 rfl (Nat.le_of_ble_eq_true rfl) ?_
  have o777z := o777
  apply go
  apply go
  obtain ⟨x781, q782, h⟩ := bind_some h
  refine ev_indexO rfl rfl rfl Tryd.underlying50 T52 o777 q782 ?_
  intro g783 c784 h787 d785 l786
  refine ev (rn_load rfl rfl (run_loadVar1 T52 (hp.cellE (i := 0) rfl h787 d785 (j := 0) rfl))) ?_
  apply go
  apply go
  apply go
  refine W.loop h (γ := Ent) (fun s g => [(0, v775), (6, (.int .u64 (ib .and .u64 x781 x779))), (7, (.int .u64 (s.2)))]) (fun s g w' => Hp ⟨w0, I0, (blk e776)⟩ I0 [(g)] w' ∧ OwnS (dI .u64) 52 w' I0 v775 (g) (s.1) ∧ At w' I0 ⟨0, 0, none⟩ (tab64.map (.int .u8))) e776 (.c rfl (.c rfl (.c rfl .n))) ⟨hp, o777, tb⟩ ?_
  rintro ⟨x815, x819⟩ e817 w851 y852 ⟨hp, o818, tb⟩ q853 q854
  unfold ordering_graph_eliminate_L0 at q853
  apply go
  apply go
  apply go
  apply go
  refine sel_of (fun hc => ?_) (fun hc => ?_)
  ·
    have q853 := cond_t q853 hc
    apply go
    apply go
    apply go
    apply go
    apply go
    obtain ⟨x855, q856, q853⟩ := bind_some q853
    refine ev_call rfl rfl C38 (((bits_TrailingZeros64_ok n) _ _ tb x819 hp.imm _ q856).mono ?_)
    rintro _ w857 ⟨rfl, hc⟩
    have hs := hp.stp hc
    replace hp := hp.ext hc
    replace o818 := o818.step hs
    replace tb := tb.step hs
    have hs := hp.stp (Ch.drew [] w857)
    have hp := hp.drew
    replace o818 := o818.step hs
    replace tb := tb.step hs
    refine W.tail 10 MX (by kernel_rfl) ?_
    obtain ⟨x859, q860, q853⟩ := bind_some q853
    refine evs_indexO rfl rfl rfl Tryd.underlying50 T52 o818 q860 ?_
    intro g861 c862 h865 d863 l864
    refine evs (rn_load rfl rfl (run_loadVar1 T52 (hp.cellE (i := 0) rfl h865 d863 (j := 0) rfl))) ?_
    obtain ⟨q867, _, q853⟩ := need_some q853
    refine ⟨q867, ?_⟩
    obtain ⟨x868, q869, q853⟩ := bind_some q853
    refine evs_indexO rfl rfl rfl Tryd.underlying50 T52 o818 q869 ?_
    intro g870 c871 h874 d872 l873
    refine ev_storeE hp (i := 0) rfl h874 rfl rfl rfl T52 o818 q869 (x0 := (ib .or .u64 x859 (ib .andNot .u64 (ib .and .u64 x781 x779) (IntKind.u64.wrap ((1 : Int) * 2 ^ min x855.toNat (IntKind.u64).bits))))) rfl ?_
    intro e877 w876 hp hs o878
    replace tb := tb.step hs
    apply go
    exact ⟨_, (Option.some.inj q853).symm, e877, (.c rfl (.c rfl (.c rfl .n))), ⟨hp, o878, tb⟩⟩
  ·
    have q853 := cond_f q853 hc
    apply go
    have q881 := congrArg some (q854 _ (Option.some.inj q853).symm)
    obtain rfl := Option.some.inj q881
    exact ⟨I0, e817, rfl, hp, o818, (OwnS.blk o777z o818)⟩

end Go.Proofs.YtgmiencjoghnnaaDoor

namespace Go.Proofs.YtgmiencjoghnnaaDoor
open Go Go.Proofs.YtgmiencjoghnnaaDoor.Gw Go.RowKit
set_option linter.unusedVariables false
attribute [local irreducible] Ev EvQ EvS EvH
def ordering_MinDegree_S (f : Int → (List Pair) → Option ((List Int) × Int)) : Prop := ∀ (w0 : World) (I0 : Nat → Prop) (tb : At w0 I0 ⟨0, 0, none⟩ (tab64.map (.int .u8))) (x882 : Int) (x883 : (List Pair)) (v884 : Value) (r885 : RepS dPair w0 I0 v884 x883) (hI : ∀ g, I0 g → g < w0.heap.size) (r : ((List Int) × Int)), f x882 x883 = some r →
    Ret Tryd.prog 14 #[(.int .i64 x882), v884] w0 fun v w1 => ∃ (I1 : Nat → Prop) (u886 : Value), v = (.tuple #[u886, (.int .i64 r.2)]) ∧ Hp ⟨w0, I0, []⟩ I1 [] w1 ∧ RepS (dI .i64) w1 I1 u886 r.1
theorem ordering_MinDegree_ok (n : Nat) : ordering_MinDegree_S (ordering_MinDegree n) := by
  intro w0 I0 tb x882 x883 v884 r885 hI r h
  unfold ordering_MinDegree at h
  refine enter Tryd.func14 rfl (Nat.le_of_ble_eq_true rfl) ?_
  have hp : Hp ⟨w0, I0, []⟩ I0 [] w0 := Hp.start hI
  apply go
  apply go
  apply go
  apply go
  apply go
  obtain ⟨x887, q888, h⟩ := bind_some h
  refine ev_call rfl rfl C34 (((ordering_Valid_ok n) _ _  x882 x883 v884 r885 hp.imm _ q888).mono ?_)
  rintro _ w889 ⟨rfl, hc⟩
  have hs := hp.stp hc
  replace hp := hp.ext hc
  replace r885 := r885.step hs
  replace tb := tb.step hs
  apply go
  refine sel_of (fun hc => ?_) (fun hc => ?_)
  ·
    have h := cond_t h hc
    apply go
    apply go
    apply go
    obtain rfl := Option.some.inj h
    exact ⟨I0, .slice none 0 0, rfl, hp, RepS.nil _ _ _⟩
  ·
    have h := cond_f h hc
    apply go
    apply go
    apply go
    obtain ⟨x890, q891, h⟩ := bind_some h
    refine ev_call rfl rfl C36 (((ordering_build_ok n) _ _  x882 x883 v884 r885 hp.imm _ q891).mono ?_)
    rintro _ w892 ⟨I893, v894, e895, hv, hq, o896⟩
    replace hv := hv.symm
    subst hv
    have hs := hq.st
    have hp := hp.join0 hq
    replace tb := tb.step hs
    obtain ⟨x897, q898, h⟩ := bind_some h
    refine ev_call rfl rfl C37 (((ordering_all_ok n) _ _  x882 hp.imm _ q898).mono ?_)
    rintro _ w899 ⟨rfl, hc⟩
    have hs := hp.stp hc
    replace hp := hp.ext hc
    replace o896 := o896.step hs
    replace tb := tb.step hs
    apply go
    apply go
    obtain ⟨y1764, q1765, h⟩ := bind_some h
    refine W.cut (γ := ((List Int) × Value × Ent × (Nat → Prop))) (fun g => [(8, (g.2.1))]) (fun g w' => y1764 = (g.1) ∧ Hp ⟨w0, I0, []⟩ (g.2.2.2) [(g.2.2.1)] w' ∧ OwnS (dI .i64) 3 w' (g.2.2.2) (g.2.1) (g.2.2.1) (g.1) ∧ At w' (g.2.2.2) ⟨0, 0, none⟩ (tab64.map (.int .u8))) ?_ ?_
    ·
      apply go
      have hp := hp.none_
      have o2342 := OwnS.nil (dI .i64) 3 w899 I893
      have hp := hp.perm [1, 0] (by decide)
      refine W.loop q1765 (γ := (Ent × Value × Ent × (Nat → Prop))) (fun s g => [(0, (.int .i64 x882)), (6, v894), (7, (.int .u64 (s.2.1))), (8, (g.2.1))]) (fun s g w' => Hp ⟨w0, I0, []⟩ (g.2.2.2) [(g.1), (g.2.2.1)] w' ∧ OwnS (dI .u64) 52 w' (g.2.2.2) v894 (g.1) (s.1) ∧ OwnS (dI .i64) 3 w' (g.2.2.2) (g.2.1) (g.2.2.1) (s.2.2) ∧ At w' (g.2.2.2) ⟨0, 0, none⟩ (tab64.map (.int .u8))) (e895, (.slice none 0 0), none, I893) (.c rfl (.c rfl (.c rfl (.c rfl .n)))) ⟨hp, o896, o2342, tb⟩ ?_
      rintro ⟨x2044, x2048, x2049⟩ ⟨e2046, v2050, e2051, I2053⟩ w2341 y2343 ⟨hp, o2047, o2052, tb⟩ q2344 q2345
      unfold ordering_MinDegree_L11 at q2344
      apply go
      apply go
      apply go
      refine ev0 (x_lenO rfl rfl Tryd.underlying27 o2052) ?_
      apply go
      refine sel_of (fun hc => ?_) (fun hc => ?_)
      ·
        have q2344 := cond_t q2344 hc
        apply go
        apply go
        apply go
        apply go
        obtain ⟨y2476, q2477, q2344⟩ := bind_some q2344
        refine W.cut (γ := Int) (fun g => [(0, (.int .i64 x882)), (6, v894), (7, (.int .u64 x2048)), (8, v2050), (9, (.int .i64 (g)))]) (fun g w' => y2476 = (g) ∧ Hp ⟨w0, I0, []⟩ I2053 [e2046, e2051] w' ∧ OwnS (dI .u64) 52 w' I2053 v894 e2046 x2044 ∧ OwnS (dI .i64) 3 w' I2053 v2050 e2051 x2049 ∧ At w' I2053 ⟨0, 0, none⟩ (tab64.map (.int .u8))) ?_ ?_
        ·
          apply go
          apply go
          apply go
          refine W.loop q2477 (γ := Unit) (fun s _ => [(0, (.int .i64 x882)), (6, v894), (7, (.int .u64 x2048)), (8, v2050), (9, (.int .i64 (s.1))), (10, (.int .i64 (s.2.1))), (11, (.int .u64 (s.2.2)))]) (fun s _ w' => Hp ⟨w0, I0, []⟩ I2053 [e2046, e2051] w' ∧ OwnS (dI .u64) 52 w' I2053 v894 e2046 x2044 ∧ OwnS (dI .i64) 3 w' I2053 v2050 e2051 x2049 ∧ At w' I2053 ⟨0, 0, none⟩ (tab64.map (.int .u8))) () (.c rfl (.c rfl (.c rfl (.c rfl (.c rfl (.c rfl (.c rfl .n))))))) ⟨hp, o2047, o2052, tb⟩ ?_
          rintro ⟨x2517, x2518, x2519⟩ ⟨⟩ w2562 y2563 ⟨hp, o2047, o2052, tb⟩ q2564 q2565
          unfold ordering_MinDegree_L13 at q2564
          apply go
          apply go
          apply go
          apply go
          refine sel_of (fun hc => ?_) (fun hc => ?_)
          ·
            have q2564 := cond_t q2564 hc
            apply go
            obtain ⟨y2586, q2587, q2564⟩ := bind_some q2564
            refine W.cut (γ := (Int × Int)) (fun g => [(0, (.int .i64 x882)), (6, v894), (7, (.int .u64 x2048)), (8, v2050), (9, (.int .i64 (g.1))), (10, (.int .i64 (g.2))), (11, (.int .u64 x2519))]) (fun g w' => y2586 = ((g.1), (g.2)) ∧ Hp ⟨w0, I0, []⟩ I2053 [e2046, e2051] w' ∧ OwnS (dI .u64) 52 w' I2053 v894 e2046 x2044 ∧ OwnS (dI .i64) 3 w' I2053 v2050 e2051 x2049 ∧ At w' I2053 ⟨0, 0, none⟩ (tab64.map (.int .u8))) ?_ ?_
            ·
              apply go
              apply go
              apply go
              obtain ⟨x2588, q2589, q2587⟩ := bind_some q2587
              refine ev_call rfl rfl C38 (((bits_TrailingZeros64_ok n) _ _ tb x2519 hp.imm _ q2589).mono ?_)
              rintro _ w2590 ⟨rfl, hc⟩
              have hs := hp.stp hc
              replace hp := hp.ext hc
              replace o2047 := o2047.step hs
              replace o2052 := o2052.step hs
              replace tb := tb.step hs
              apply go
              apply go
              obtain ⟨x2591, q2592, q2587⟩ := bind_some q2587
              refine ev_indexO rfl rfl rfl Tryd.underlying50 T52 o2047 q2592 ?_
              intro g2593 c2594 h2597 d2595 l2596
              refine ev (rn_load rfl rfl (run_loadVar1 T52 (hp.cellE (i := 0) rfl h2597 d2595 (j := 0) rfl))) ?_
              obtain ⟨x2599, q2600, q2587⟩ := bind_some q2587
              refine ev_call rfl rfl C39 (((bits_OnesCount64_ok n) _ _  (ib .and .u64 x2591 x2048) hp.imm _ q2600).mono ?_)
              rintro _ w2601 ⟨rfl, hc⟩
              have hs := hp.stp hc
              replace hp := hp.ext hc
              replace o2047 := o2047.step hs
              replace o2052 := o2052.step hs
              replace tb := tb.step hs
              obtain ⟨y2603, q2604, q2587⟩ := bind_some q2587
              refine W.cut (γ := Bool) (fun g => [(0, (.int .i64 x882)), (6, v894), (7, (.int .u64 x2048)), (8, v2050), (9, (.int .i64 x2517)), (10, (.int .i64 x2518)), (11, (.int .u64 x2519)), (12, (.int .i64 x2588)), (13, (.int .i64 x2599)), (49, (.bool (g)))]) (fun g w' => y2603 = (g) ∧ w2601 = w') ?_ ?_
              ·
                apply go
                refine sel_of (fun hc => ?_) (fun hc => ?_)
                ·
                  have q2604 := cond_t q2604 hc
                  obtain rfl := Option.some.inj q2604
                  exact ⟨true, (.c rfl (.c rfl (.c rfl (.c rfl (.c rfl (.c rfl (.c rfl (.c rfl (.c rfl (.c rfl .n)))))))))), rfl, rfl⟩
                ·
                  have q2604 := cond_f q2604 hc
                  obtain rfl := Option.some.inj q2604
                  exact ⟨(decide (x2599 < x2518)), (.c rfl (.c rfl (.c rfl (.c rfl (.c rfl (.c rfl (.c rfl (.c rfl (.c rfl (.c rfl .n)))))))))), rfl, rfl⟩
              ·
                rintro x2602 _ ⟨hy, rfl⟩
                replace hy := hy.symm
                subst hy
                apply go
                refine sel_of (fun hc => ?_) (fun hc => ?_)
                ·
                  have q2587 := cond_t q2587 hc
                  apply go
                  obtain rfl := Option.some.inj q2587
                  exact ⟨(x2588, x2599), (.c rfl (.c rfl (.c rfl (.c rfl (.c rfl (.c rfl (.c rfl .n))))))), rfl, hp, o2047, o2052, tb⟩
                ·
                  have q2587 := cond_f q2587 hc
                  apply go
                  obtain rfl := Option.some.inj q2587
                  exact ⟨(x2517, x2518), (.c rfl (.c rfl (.c rfl (.c rfl (.c rfl (.c rfl (.c rfl .n))))))), rfl, hp, o2047, o2052, tb⟩
            ·
              rintro ⟨x2583, x2584⟩ w2585 ⟨hy, hp, o2047, o2052, tb⟩
              replace hy := hy.symm
              subst hy
              apply go
              exact ⟨_, (Option.some.inj q2564).symm, (), (.c rfl (.c rfl (.c rfl (.c rfl (.c rfl (.c rfl (.c rfl .n))))))), ⟨hp, o2047, o2052, tb⟩⟩
          ·
            have q2564 := cond_f q2564 hc
            apply go
            have q2605 := congrArg some (q2565 _ (Option.some.inj q2564).symm)
            obtain rfl := Option.some.inj q2605
            exact ⟨x2517, (.c rfl (.c rfl (.c rfl (.c rfl (.c rfl .n))))), rfl, hp, o2047, o2052, tb⟩
        ·
          rintro x2474 w2475 ⟨hy, hp, o2047, o2052, tb⟩
          replace hy := hy.symm
          subst hy
          apply go
          apply go
          obtain ⟨q2606, _, q2344⟩ := need_some q2344
          refine ⟨q2606, ?_⟩
          apply go
          apply go
          obtain ⟨x2607, q2608, q2344⟩ := bind_some q2344
          refine ev_call rfl rfl C40 (((ordering_graph_eliminate_ok n) _ _ tb x2044 v894 e2046 o2047 x2474 (ib .andNot .u64 x2048 (IntKind.u64.wrap ((1 : Int) * 2 ^ min x2474.toNat (IntKind.u64).bits))) (hp.lend (i := 0) rfl) _ q2608).mono ?_)
          rintro _ w2609 ⟨I2610, e2611, hv, hq, o2612, hsame⟩
          replace hv := hv.symm
          subst hv
          have hs := hq.st
          have hp := hp.backO (i := 0) rfl hq hsame
          replace o2052 := o2052.step hs
          replace tb := tb.step hs
          apply go
          refine ev_litN (d := (dI .i64)) (xs := [x2474]) (cs := [(.int .i64 x2474)]) hp rfl rfl Tryd.underlying27 T3 (by decide) rfl rfl (Elems.cons (d := (dI .i64)) (xs := _) rfl (Elems.nil _ _ _ _)) ?_
          intro v2613 I2615 w2614 hp hs r2616
          replace o2612 := o2612.step hs
          replace o2052 := o2052.step hs
          replace tb := tb.step hs
          obtain ⟨x2617, q2618, q2344⟩ := bind_some q2344
          refine ev_append hp (i := 1) rfl rfl rfl rfl Tryd.underlying27 T3 rfl rfl o2052 r2616 q2618 ?_
          rintro v2619 e2620 w2621 hp hs o2622
          replace o2612 := o2612.step hs
          replace tb := tb.step hs
          exact ⟨_, (Option.some.inj q2344).symm, (e2611, v2619, e2620, I2615), (.c rfl (.c rfl (.c rfl (.c rfl .n)))), ⟨hp, o2612, o2622, tb⟩⟩
      ·
        have q2344 := cond_f q2344 hc
        apply go
        have q2623 := congrArg some (q2345 _ (Option.some.inj q2344).symm)
        obtain rfl := Option.some.inj q2623
        have hp := hp.sel [1] (by decide)
        exact ⟨(x2049, v2050, e2051, I2053), (.c rfl .n), rfl, hp, o2052, tb⟩
    ·
      rintro ⟨x1758, v1759, e1760, I1762⟩ w1763 ⟨hy, hp, o1761, tb⟩
      replace hy := hy.symm
      subst hy
      apply go
      apply go
      apply go
      obtain rfl := Option.some.inj h
      have r2624 := o1761.frz hp (i := 0) rfl
      obtain ⟨hp, hs⟩ := freeze_hp hp (i := 0) rfl
      replace tb := tb.step hs
      have hp := hp.sel [] (by decide)
      exact ⟨(Ad I1762 e1760), v1759, rfl, hp, r2624⟩

end Go.Proofs.YtgmiencjoghnnaaDoor

namespace Go.Proofs.YtgmiencjoghnnaaDoor
open Go Go.Proofs.YtgmiencjoghnnaaDoor.Gw Go.RowKit
set_option linter.unusedVariables false
attribute [local irreducible] Ev EvQ EvS EvH
def base_Ints_S (f : (List Int) → (List Int) → Option Bool) : Prop := ∀ (w0 : World) (I0 : Nat → Prop) (x5512 : (List Int)) (v5513 : Value) (r5514 : RepS (dI .i64) w0 I0 v5513 x5512) (x5515 : (List Int)) (v5516 : Value) (r5517 : RepS (dI .i64) w0 I0 v5516 x5515) (hI : ∀ g, I0 g → g < w0.heap.size) (r : Bool), f x5512 x5515 = some r →
    Ret Tryd.prog 16 #[v5513, v5516] w0 fun v w1 => v = (.bool r) ∧ Ch [] w0 w1
theorem base_Ints_ok (n : Nat) : base_Ints_S (base_Ints n) := by
  intro w0 I0 x5512 v5513 r5514 x5515 v5516 r5517 hI r h
  unfold base_Ints at h
  refine enter Tryd.func16 rfl (Nat.le_of_ble_eq_true rfl) ?_
  have hp : Hp ⟨w0, I0, []⟩ I0 [] w0 := Hp.start hI
  apply go
  apply go
  apply go
  apply go
  apply go
  refine ev0 (rn_len rfl rfl Tryd.underlying27 r5514) ?_
  refine ev0 (rn_len rfl rfl Tryd.underlying27 r5517) ?_
  apply go
  refine sel_of (fun hc => ?_) (fun hc => ?_)
  ·
    have h := cond_t h hc
    apply go
    apply go
    apply go
    obtain rfl := Option.some.inj h
    exact ⟨rfl, hp.ch⟩
  ·
    have h := cond_f h hc
    apply go
    obtain ⟨y5566, q5567, h⟩ := bind_some h
    refine W.cut (γ := Unit) (fun _ => []) (fun _ w' => y5566 = .go () ∧ Hp ⟨w0, I0, []⟩ I0 [] w') ?_ ?_
    ·
      apply go
      apply go
      apply go
      refine W.loop q5567 (γ := Unit) (fun s _ => [(0, v5513), (1, v5516), (5, (.int .i64 (s)))]) (fun s _ w' => Hp ⟨w0, I0, []⟩ I0 [] w' ∧ RepS (dI .i64) w' I0 v5513 x5512 ∧ RepS (dI .i64) w' I0 v5516 x5515) () (.c rfl (.c rfl (.c rfl .n))) ⟨hp, r5514, r5517⟩ ?_
      rintro x5581 ⟨⟩ w5596 y5597 ⟨hp, r5514, r5517⟩ q5598 q5599
      unfold base_Ints_L1 at q5598
      apply go
      apply go
      apply go
      refine ev0 (rn_len rfl rfl Tryd.underlying27 r5514) ?_
      apply go
      refine sel_of (fun hc => ?_) (fun hc => ?_)
      ·
        have q5598 := cond_t q5598 hc
        apply go
        apply go
        apply go
        apply go
        refine W.quiet (fun w' => Ch [] w5596 w') MX (by kernel_rfl) (Ch.drew [] w5596) ?_
        obtain ⟨x5600, q5601, q5598⟩ := bind_some q5598
        refine evq_index rfl rfl rfl Tryd.underlying27 T3 r5514 q5601 ?_
        intro p5602 c5603 d5604 a5605
        obtain rfl : c5603 = [(.int .i64 x5600)] := d5604
        refine evq (fun w' hw => rn_load rfl rfl (run_loadVar1 T3 ((a5605.step (hp.stp hw)).2 0 _ rfl))) ?_
        obtain ⟨x5606, q5607, q5598⟩ := bind_some q5598
        refine evq_index rfl rfl rfl Tryd.underlying27 T3 r5517 q5607 ?_
        intro p5608 c5609 d5610 a5611
        obtain rfl : c5609 = [(.int .i64 x5606)] := d5610
        refine evq (fun w' hw => rn_load rfl rfl (run_loadVar1 T3 ((a5611.step (hp.stp hw)).2 0 _ rfl))) ?_
        intro w5612 hc
        have hs := hp.stp hc
        replace hp := hp.ext hc
        replace r5514 := r5514.step hs
        replace r5517 := r5517.step hs
        apply go
        refine sel_of (fun hc => ?_) (fun hc => ?_)
        ·
          have q5598 := cond_t q5598 hc
          apply go
          apply go
          apply go
          have q5613 := congrArg some (q5599 _ (Option.some.inj q5598).symm)
          obtain rfl := Option.some.inj q5613
          obtain rfl := Option.some.inj h
          exact ⟨rfl, hp.ch⟩
        ·
          have q5598 := cond_f q5598 hc
          apply go
          apply go
          exact ⟨_, (Option.some.inj q5598).symm, (), (.c rfl (.c rfl (.c rfl .n))), ⟨hp, r5514, r5517⟩⟩
      ·
        have q5598 := cond_f q5598 hc
        apply go
        have q5614 := congrArg some (q5599 _ (Option.some.inj q5598).symm)
        obtain rfl := Option.some.inj q5614
        exact ⟨(), .n, rfl, hp⟩
    ·
      rintro ⟨⟩ w5565 ⟨hy, hp⟩
      replace hy := hy.symm
      subst hy
      apply go
      apply go
      apply go
      obtain rfl := Option.some.inj h
      exact ⟨rfl, hp.ch⟩

end Go.Proofs.YtgmiencjoghnnaaDoor

namespace Go.Proofs.YtgmiencjoghnnaaDoor
open Go Go.Proofs.YtgmiencjoghnnaaDoor.Gw Go.RowKit
set_option linter.unusedVariables false
attribute [local irreducible] Ev EvQ EvS EvH
def ordering_permutation_S (f : Int → (List Int) → Option Bool) : Prop := ∀ (w0 : World) (I0 : Nat → Prop) (x2625 : Int) (x2626 : (List Int)) (v2627 : Value) (r2628 : RepS (dI .i64) w0 I0 v2627 x2626) (hI : ∀ g, I0 g → g < w0.heap.size) (r : Bool), f x2625 x2626 = some r →
    Ret Tryd.prog 47 #[(.int .i64 x2625), v2627] w0 fun v w1 => v = (.bool r) ∧ Ch [] w0 w1
theorem ordering_permutation_ok (n : Nat) : ordering_permutation_S (ordering_permutation n) := by
  intro w0 I0 x2625 x2626 v2627 r2628 hI r h
  unfold ordering_permutation at h
  refine enter Tryd.func47 rfl (Nat.le_of_ble_eq_true rfl) ?_
  have hp : Hp ⟨w0, I0, []⟩ I0 [] w0 := Hp.start hI
  apply go
  apply go
  apply go
  apply go
  apply go
  refine ev0 (rn_len rfl rfl Tryd.underlying27 r2628) ?_
  apply go
  refine sel_of (fun hc => ?_) (fun hc => ?_)
  ·
    have h := cond_t h hc
    apply go
    apply go
    apply go
    obtain rfl := Option.some.inj h
    exact ⟨rfl, hp.ch⟩
  ·
    have h := cond_f h hc
    apply go
    apply go
    apply go
    obtain ⟨y2674, q2675, h⟩ := bind_some h
    refine W.cut (γ := Unit) (fun _ => []) (fun _ w' => y2674 = .go () ∧ w0 = w') ?_ ?_
    ·
      apply go
      apply go
      refine ev0 (rn_len rfl rfl Tryd.underlying27 r2628) ?_
      apply go
      refine W.loop q2675 (γ := Unit) (fun s _ => [(0, (.int .i64 x2625)), (5, (.int .u64 (s.1))), (12, v2627), (13, (.int .i64 (x2626.length : Int))), (14, (.int .i64 (s.2)))]) (fun s _ w' => w0 = w') () (.c rfl (.c rfl (.c rfl (.c rfl (.c rfl .n))))) rfl ?_
      rintro ⟨x2688, x2689⟩ ⟨⟩ _ y2704 rfl q2705 q2706
      unfold ordering_permutation_L1 at q2705
      apply go
      apply go
      apply go
      apply go
      refine sel_of (fun hc => ?_) (fun hc => ?_)
      ·
        have q2705 := cond_t q2705 hc
        apply go
        apply go
        apply go
        apply go
        apply go
        obtain ⟨x2707, q2708, q2705⟩ := bind_some q2705
        refine ev_index rfl rfl rfl Tryd.underlying27 T3 r2628 q2708 ?_
        intro p2709 c2710 d2711 a2712
        obtain rfl : c2710 = [(.int .i64 x2707)] := d2711
        refine ev (rn_load rfl rfl (run_loadVar1 T3 (a2712.2 0 _ rfl))) ?_
        apply go
        obtain ⟨y2715, q2716, q2705⟩ := bind_some q2705
        refine W.cut (γ := Bool) (fun g => [(0, (.int .i64 x2625)), (5, (.int .u64 x2688)), (7, (.int .i64 x2707)), (12, v2627), (13, (.int .i64 (x2626.length : Int))), (14, (.int .i64 x2689)), (31, (.bool (g)))]) (fun g w' => y2715 = (g) ∧ w0 = w') ?_ ?_
        ·
          apply go
          refine sel_of (fun hc => ?_) (fun hc => ?_)
          ·
            have q2716 := cond_t q2716 hc
            obtain rfl := Option.some.inj q2716
            exact ⟨true, (.c rfl (.c rfl (.c rfl (.c rfl (.c rfl (.c rfl (.c rfl .n))))))), rfl, rfl⟩
          ·
            have q2716 := cond_f q2716 hc
            refine sel_of (fun hc => ?_) (fun hc => ?_)
            ·
              have q2716 := cond_t q2716 hc
              obtain rfl := Option.some.inj q2716
              exact ⟨true, (.c rfl (.c rfl (.c rfl (.c rfl (.c rfl (.c rfl (.c rfl .n))))))), rfl, rfl⟩
            ·
              have q2716 := cond_f q2716 hc
              obtain ⟨q2717, _, q2716⟩ := need_some q2716
              refine ⟨q2717, ?_⟩
              obtain rfl := Option.some.inj q2716
              exact ⟨((ib .and .u64 (x2688.fdiv (2 ^ min x2707.toNat (IntKind.u64).bits)) 1) != 0), (.c rfl (.c rfl (.c rfl (.c rfl (.c rfl (.c rfl (.c rfl .n))))))), rfl, rfl⟩
        ·
          rintro x2714 _ ⟨hy, rfl⟩
          replace hy := hy.symm
          subst hy
          apply go
          refine sel_of (fun hc => ?_) (fun hc => ?_)
          ·
            have q2705 := cond_t q2705 hc
            apply go
            apply go
            apply go
            have q2718 := congrArg some (q2706 _ (Option.some.inj q2705).symm)
            obtain rfl := Option.some.inj q2718
            obtain rfl := Option.some.inj h
            exact ⟨rfl, hp.ch⟩
          ·
            have q2705 := cond_f q2705 hc
            apply go
            apply go
            obtain ⟨q2719, _, q2705⟩ := need_some q2705
            refine ⟨q2719, ?_⟩
            apply go
            exact ⟨_, (Option.some.inj q2705).symm, (), (.c rfl (.c rfl (.c rfl (.c rfl (.c rfl .n))))), rfl⟩
      ·
        have q2705 := cond_f q2705 hc
        apply go
        have q2720 := congrArg some (q2706 _ (Option.some.inj q2705).symm)
        obtain rfl := Option.some.inj q2720
        exact ⟨(), .n, rfl, rfl⟩
    ·
      rintro ⟨⟩ _ ⟨hy, rfl⟩
      replace hy := hy.symm
      subst hy
      apply go
      apply go
      apply go
      obtain rfl := Option.some.inj h
      exact ⟨rfl, hp.ch⟩

end Go.Proofs.YtgmiencjoghnnaaDoor

namespace Go.Proofs.YtgmiencjoghnnaaDoor
open Go Go.Proofs.YtgmiencjoghnnaaDoor.Gw Go.RowKit
set_option linter.unusedVariables false
attribute [local irreducible] Ev EvQ EvS EvH
def ordering_filled_S (f : Int → (List Pair) → (List Int) → Option ((List Int) × Int)) : Prop := ∀ (w0 : World) (I0 : Nat → Prop) (tb : At w0 I0 ⟨0, 0, none⟩ (tab64.map (.int .u8))) (x2721 : Int) (x2722 : (List Pair)) (v2723 : Value) (r2724 : RepS dPair w0 I0 v2723 x2722) (x2725 : (List Int)) (v2726 : Value) (r2727 : RepS (dI .i64) w0 I0 v2726 x2725) (hI : ∀ g, I0 g → g < w0.heap.size) (r : ((List Int) × Int)), f x2721 x2722 x2725 = some r →
    Ret Tryd.prog 43 #[(.int .i64 x2721), v2723, v2726] w0 fun v w1 => ∃ (I1 : Nat → Prop) (u2728 : Value) (u2729 : Ent), v = (.tuple #[u2728, (.int .i64 r.2)]) ∧ Hp ⟨w0, I0, []⟩ I1 [u2729] w1 ∧ OwnS (dI .u64) 52 w1 I1 u2728 u2729 r.1
theorem ordering_filled_ok (n : Nat) : ordering_filled_S (ordering_filled n) := by
  intro w0 I0 tb x2721 x2722 v2723 r2724 x2725 v2726 r2727 hI r h
  unfold ordering_filled at h
  refine enter Tryd.func43 rfl (Nat.le_of_ble_eq_true rfl) ?_
  have hp : Hp ⟨w0, I0, []⟩ I0 [] w0 := Hp.start hI
  apply go
  apply go
  apply go
  apply go
  apply go
  obtain ⟨x2730, q2731, h⟩ := bind_some h
  refine ev_call rfl rfl C34 (((ordering_Valid_ok n) _ _  x2721 x2722 v2723 r2724 hp.imm _ q2731).mono ?_)
  rintro _ w2732 ⟨rfl, hc⟩
  have hs := hp.stp hc
  replace hp := hp.ext hc
  replace r2724 := r2724.step hs
  replace r2727 := r2727.step hs
  replace tb := tb.step hs
  apply go
  refine sel_of (fun hc => ?_) (fun hc => ?_)
  ·
    have h := cond_t h hc
    apply go
    apply go
    apply go
    obtain rfl := Option.some.inj h
    have hp := hp.none_
    have o2733 := OwnS.nil (dI .u64) 52 w2732 I0
    exact ⟨I0, (.slice none 0 0), none, rfl, hp, o2733⟩
  ·
    have h := cond_f h hc
    apply go
    apply go
    apply go
    apply go
    obtain ⟨x2734, q2735, h⟩ := bind_some h
    refine ev_call rfl rfl C47 (((ordering_permutation_ok n) _ _  x2721 x2725 v2726 r2727 hp.imm _ q2735).mono ?_)
    rintro _ w2736 ⟨rfl, hc⟩
    have hs := hp.stp hc
    replace hp := hp.ext hc
    replace r2724 := r2724.step hs
    replace r2727 := r2727.step hs
    replace tb := tb.step hs
    apply go
    refine sel_of (fun hc => ?_) (fun hc => ?_)
    ·
      have h := cond_t h hc
      apply go
      apply go
      apply go
      obtain rfl := Option.some.inj h
      have hp := hp.none_
      have o2737 := OwnS.nil (dI .u64) 52 w2736 I0
      exact ⟨I0, (.slice none 0 0), none, rfl, hp, o2737⟩
    ·
      have h := cond_f h hc
      apply go
      apply go
      apply go
      obtain ⟨x2738, q2739, h⟩ := bind_some h
      refine ev_call rfl rfl C36 (((ordering_build_ok n) _ _  x2721 x2722 v2723 r2724 hp.imm _ q2739).mono ?_)
      rintro _ w2740 ⟨I2741, v2742, e2743, hv, hq, o2744⟩
      replace hv := hv.symm
      subst hv
      have hs := hq.st
      have hp := hp.join0 hq
      replace r2727 := r2727.step hs
      replace tb := tb.step hs
      obtain ⟨x2745, q2746, h⟩ := bind_some h
      refine ev_call rfl rfl C37 (((ordering_all_ok n) _ _  x2721 hp.imm _ q2746).mono ?_)
      rintro _ w2747 ⟨rfl, hc⟩
      have hs := hp.stp hc
      replace hp := hp.ext hc
      replace r2727 := r2727.step hs
      replace o2744 := o2744.step hs
      replace tb := tb.step hs
      obtain ⟨y2812, q2813, h⟩ := bind_some h
      refine W.cut (γ := ((List Int) × Ent × (Nat → Prop))) (fun g => [(8, v2742)]) (fun g w' => y2812 = (g.1) ∧ Hp ⟨w0, I0, []⟩ (g.2.2) [(g.2.1)] w' ∧ OwnS (dI .u64) 52 w' (g.2.2) v2742 (g.2.1) (g.1) ∧ At w' (g.2.2) ⟨0, 0, none⟩ (tab64.map (.int .u8))) ?_ ?_
      ·
        apply go
        apply go
        refine ev0 (rn_len rfl rfl Tryd.underlying27 r2727) ?_
        apply go
        refine W.loop q2813 (γ := (Ent × (Nat → Prop))) (fun s g => [(8, v2742), (9, (.int .u64 (s.2.1))), (25, v2726), (26, (.int .i64 (x2725.length : Int))), (27, (.int .i64 (s.2.2)))]) (fun s g w' => Hp ⟨w0, I0, []⟩ (g.2) [(g.1)] w' ∧ OwnS (dI .u64) 52 w' (g.2) v2742 (g.1) (s.1) ∧ RepS (dI .i64) w' (g.2) v2726 x2725 ∧ At w' (g.2) ⟨0, 0, none⟩ (tab64.map (.int .u8))) (e2743, I2741) (.c rfl (.c rfl (.c rfl (.c rfl (.c rfl .n))))) ⟨hp, o2744, r2727, tb⟩ ?_
        rintro ⟨x2827, x2831, x2832⟩ ⟨e2829, I2833⟩ w2854 y2855 ⟨hp, o2830, r2727, tb⟩ q2856 q2857
        unfold ordering_filled_L1 at q2856
        apply go
        apply go
        apply go
        apply go
        refine sel_of (fun hc => ?_) (fun hc => ?_)
        ·
          have q2856 := cond_t q2856 hc
          apply go
          apply go
          apply go
          apply go
          apply go
          obtain ⟨x2858, q2859, q2856⟩ := bind_some q2856
          refine ev_index rfl rfl rfl Tryd.underlying27 T3 r2727 q2859 ?_
          intro p2860 c2861 d2862 a2863
          obtain rfl : c2861 = [(.int .i64 x2858)] := d2862
          refine ev (rn_load rfl rfl (run_loadVar1 T3 (a2863.2 0 _ rfl))) ?_
          apply go
          apply go
          obtain ⟨q2864, _, q2856⟩ := need_some q2856
          refine ⟨q2864, ?_⟩
          apply go
          obtain ⟨x2865, q2866, q2856⟩ := bind_some q2856
          refine ev_call rfl rfl C40 (((ordering_graph_eliminate_ok n) _ _ tb x2827 v2742 e2829 o2830 x2858 (ib .andNot .u64 x2831 (IntKind.u64.wrap ((1 : Int) * 2 ^ min x2858.toNat (IntKind.u64).bits))) (hp.lend (i := 0) rfl) _ q2866).mono ?_)
          rintro _ w2867 ⟨I2868, e2869, hv, hq, o2870, hsame⟩
          replace hv := hv.symm
          subst hv
          have hs := hq.st
          have hp := hp.backO (i := 0) rfl hq hsame
          replace r2727 := r2727.step hs
          replace tb := tb.step hs
          apply go
          exact ⟨_, (Option.some.inj q2856).symm, (e2869, I2868), (.c rfl (.c rfl (.c rfl (.c rfl (.c rfl .n))))), ⟨hp, o2870, r2727, tb⟩⟩
        ·
          have q2856 := cond_f q2856 hc
          apply go
          have q2871 := congrArg some (q2857 _ (Option.some.inj q2856).symm)
          obtain rfl := Option.some.inj q2871
          exact ⟨(x2827, e2829, I2833), (.c rfl .n), rfl, hp, o2830, tb⟩
      ·
        rintro ⟨x2806, e2808, I2810⟩ w2811 ⟨hy, hp, o2809, tb⟩
        replace hy := hy.symm
        subst hy
        apply go
        apply go
        apply go
        obtain rfl := Option.some.inj h
        exact ⟨I2810, v2742, e2808, rfl, hp, o2809⟩

end Go.Proofs.YtgmiencjoghnnaaDoor

namespace Go.Proofs.YtgmiencjoghnnaaDoor
open Go Go.Proofs.YtgmiencjoghnnaaDoor.Gw Go.RowKit
set_option linter.unusedVariables false
attribute [local irreducible] Ev EvQ EvS EvH
def ordering_Fill_S (f : Int → (List Pair) → (List Int) → Option ((List Pair) × Int)) : Prop := ∀ (w0 : World) (I0 : Nat → Prop) (tb : At w0 I0 ⟨0, 0, none⟩ (tab64.map (.int .u8))) (x2872 : Int) (x2873 : (List Pair)) (v2874 : Value) (r2875 : RepS dPair w0 I0 v2874 x2873) (x2876 : (List Int)) (v2877 : Value) (r2878 : RepS (dI .i64) w0 I0 v2877 x2876) (hI : ∀ g, I0 g → g < w0.heap.size) (r : ((List Pair) × Int)), f x2872 x2873 x2876 = some r →
    Ret Tryd.prog 17 #[(.int .i64 x2872), v2874, v2877] w0 fun v w1 => ∃ (I1 : Nat → Prop) (u2879 : Value), v = (.tuple #[u2879, (.int .i64 r.2)]) ∧ Hp ⟨w0, I0, []⟩ I1 [] w1 ∧ RepS dPair w1 I1 u2879 r.1
theorem ordering_Fill_ok (n : Nat) : ordering_Fill_S (ordering_Fill n) := by
  intro w0 I0 tb x2872 x2873 v2874 r2875 x2876 v2877 r2878 hI r h
  unfold ordering_Fill at h
  refine enter Tryd.func17 rfl (Nat.le_of_ble_eq_true rfl) ?_
  have hp : Hp ⟨w0, I0, []⟩ I0 [] w0 := Hp.start hI
  apply go
  apply go
  apply go
  apply go
  obtain ⟨⟨x2880, x2881⟩, q2882, h⟩ := bind_some h
  refine ev_call rfl rfl C43 (((ordering_filled_ok n) _ _ tb x2872 x2873 v2874 r2875 x2876 v2877 r2878 hp.imm _ q2882).mono ?_)
  rintro _ w2883 ⟨I2884, v2885, e2886, hv, hq, o2887⟩
  replace hv := hv.symm
  subst hv
  have hs := hq.st
  have hp := hp.join0 hq
  replace r2875 := r2875.step hs
  replace tb := tb.step hs
  apply go
  apply go
  apply go
  apply go
  refine sel_of (fun hc => ?_) (fun hc => ?_)
  ·
    have h := cond_t h hc
    apply go
    apply go
    apply go
    obtain rfl := Option.some.inj h
    have hp := hp.sel [] (by decide)
    exact ⟨I2884, .slice none 0 0, rfl, hp, RepS.nil _ _ _⟩
  ·
    have h := cond_f h hc
    apply go
    apply go
    apply go
    obtain ⟨x2888, q2889, h⟩ := bind_some h
    refine ev_call rfl rfl C36 (((ordering_build_ok n) _ _  x2872 x2873 v2874 r2875 hp.imm _ q2889).mono ?_)
    rintro _ w2890 ⟨I2891, v2892, e2893, hv, hq, o2894⟩
    replace hv := hv.symm
    subst hv
    have hs := hq.st
    have hp := hp.join0 hq
    replace o2887 := o2887.step hs
    replace tb := tb.step hs
    apply go
    apply go
    obtain ⟨y4205, q4206, h⟩ := bind_some h
    refine W.cut (γ := ((List Pair) × Value × Ent × (Nat → Prop))) (fun g => [(11, (g.2.1))]) (fun g w' => y4205 = (g.1) ∧ Hp ⟨w0, I0, []⟩ (g.2.2.2) [(g.2.2.1)] w' ∧ OwnS dPair 47 w' (g.2.2.2) (g.2.1) (g.2.2.1) (g.1) ∧ At w' (g.2.2.2) ⟨0, 0, none⟩ (tab64.map (.int .u8))) ?_ ?_
    ·
      apply go
      apply go
      apply go
      have hp := hp.none_
      have o5080 := OwnS.nil dPair 47 w2890 I2891
      have hp := hp.perm [2, 1, 0] (by decide)
      refine W.loop q4206 (γ := (Value × Ent × (Nat → Prop))) (fun s g => [(0, (.int .i64 x2872)), (8, v2885), (10, v2892), (11, (g.1)), (27, (.int .i64 x2872)), (28, (.int .i64 (s.2)))]) (fun s g w' => Hp ⟨w0, I0, []⟩ (g.2.2) [e2886, e2893, (g.2.1)] w' ∧ OwnS (dI .u64) 52 w' (g.2.2) v2885 e2886 x2880 ∧ OwnS (dI .u64) 52 w' (g.2.2) v2892 e2893 x2888 ∧ OwnS dPair 47 w' (g.2.2) (g.1) (g.2.1) (s.1) ∧ At w' (g.2.2) ⟨0, 0, none⟩ (tab64.map (.int .u8))) ((.slice none 0 0), none, I2891) (.c rfl (.c rfl (.c rfl (.c rfl (.c rfl (.c rfl .n)))))) ⟨hp, o2887, o2894, o5080, tb⟩ ?_
      rintro ⟨x4641, x4645⟩ ⟨v4642, e4643, I4646⟩ w5079 y5081 ⟨hp, o2887, o2894, o4644, tb⟩ q5082 q5083
      unfold ordering_Fill_L11 at q5082
      apply go
      apply go
      apply go
      apply go
      refine sel_of (fun hc => ?_) (fun hc => ?_)
      ·
        have q5082 := cond_t q5082 hc
        apply go
        obtain ⟨y5299, q5300, q5082⟩ := bind_some q5082
        refine W.cut (γ := ((List Pair) × Value × Ent × (Nat → Prop))) (fun g => [(0, (.int .i64 x2872)), (8, v2885), (10, v2892), (11, (g.2.1)), (27, (.int .i64 x2872)), (28, (.int .i64 x4645))]) (fun g w' => y5299 = (g.1) ∧ Hp ⟨w0, I0, []⟩ (g.2.2.2) [e2886, e2893, (g.2.2.1)] w' ∧ OwnS (dI .u64) 52 w' (g.2.2.2) v2885 e2886 x2880 ∧ OwnS (dI .u64) 52 w' (g.2.2.2) v2892 e2893 x2888 ∧ OwnS dPair 47 w' (g.2.2.2) (g.2.1) (g.2.2.1) (g.1) ∧ At w' (g.2.2.2) ⟨0, 0, none⟩ (tab64.map (.int .u8))) ?_ ?_
        ·
          apply go
          apply go
          apply go
          apply go
          apply go
          apply go
          refine W.loop q5300 (γ := (Value × Ent × (Nat → Prop))) (fun s g => [(0, (.int .i64 x2872)), (8, v2885), (10, v2892), (11, (g.1)), (12, (.int .i64 x4645)), (13, (.int .i64 (s.2))), (27, (.int .i64 x2872)), (28, (.int .i64 x4645))]) (fun s g w' => Hp ⟨w0, I0, []⟩ (g.2.2) [e2886, e2893, (g.2.1)] w' ∧ OwnS (dI .u64) 52 w' (g.2.2) v2885 e2886 x2880 ∧ OwnS (dI .u64) 52 w' (g.2.2) v2892 e2893 x2888 ∧ OwnS dPair 47 w' (g.2.2) (g.1) (g.2.1) (s.1) ∧ At w' (g.2.2) ⟨0, 0, none⟩ (tab64.map (.int .u8))) (v4642, e4643, I4646) (.c rfl (.c rfl (.c rfl (.c rfl (.c rfl (.c rfl (.c rfl (.c rfl .n)))))))) ⟨hp, o2887, o2894, o4644, tb⟩ ?_
          rintro ⟨x5365, x5369⟩ ⟨v5366, e5367, I5370⟩ w5441 y5442 ⟨hp, o2887, o2894, o5368, tb⟩ q5443 q5444
          unfold ordering_Fill_L13 at q5443
          apply go
          apply go
          apply go
          apply go
          refine sel_of (fun hc => ?_) (fun hc => ?_)
          ·
            have q5443 := cond_t q5443 hc
            apply go
            obtain ⟨y5479, q5480, q5443⟩ := bind_some q5443
            refine W.cut (γ := ((List Pair) × Value × Ent × (Nat → Prop))) (fun g => [(0, (.int .i64 x2872)), (8, v2885), (10, v2892), (11, (g.2.1)), (12, (.int .i64 x4645)), (13, (.int .i64 x5369)), (27, (.int .i64 x2872)), (28, (.int .i64 x4645))]) (fun g w' => y5479 = (g.1) ∧ Hp ⟨w0, I0, []⟩ (g.2.2.2) [e2886, e2893, (g.2.2.1)] w' ∧ OwnS (dI .u64) 52 w' (g.2.2.2) v2885 e2886 x2880 ∧ OwnS (dI .u64) 52 w' (g.2.2.2) v2892 e2893 x2888 ∧ OwnS dPair 47 w' (g.2.2.2) (g.2.1) (g.2.2.1) (g.1) ∧ At w' (g.2.2.2) ⟨0, 0, none⟩ (tab64.map (.int .u8))) ?_ ?_
            ·
              apply go
              apply go
              refine W.quiet (fun w' => Ch [] w5441 w') MX (by kernel_rfl) (Ch.drew [] w5441) ?_
              obtain ⟨x5481, q5482, q5480⟩ := bind_some q5480
              refine evq_indexO rfl rfl rfl Tryd.underlying50 T52 o2887 q5482 ?_
              intro g5483 c5484 h5487 d5485 l5486
              refine evq (fun w' hw => rn_load rfl rfl (run_loadVar1 T52 ((hp.ext hw).cellE (i := 0) rfl h5487 d5485 (j := 0) rfl))) ?_
              obtain ⟨x5489, q5490, q5480⟩ := bind_some q5480
              refine evq_indexO rfl rfl rfl Tryd.underlying50 T52 o2894 q5490 ?_
              intro g5491 c5492 h5495 d5493 l5494
              refine evq (fun w' hw => rn_load rfl rfl (run_loadVar1 T52 ((hp.ext hw).cellE (i := 1) rfl h5495 d5493 (j := 0) rfl))) ?_
              obtain ⟨q5497, _, q5480⟩ := need_some q5480
              refine ⟨q5497, ?_⟩
              intro w5498 hc
              have hs := hp.stp hc
              replace hp := hp.ext hc
              replace o2887 := o2887.step hs
              replace o2894 := o2894.step hs
              replace o5368 := o5368.step hs
              replace tb := tb.step hs
              apply go
              refine sel_of (fun hc => ?_) (fun hc => ?_)
              ·
                have q5480 := cond_t q5480 hc
                apply go
                refine ev0 (fun w => rn_build (cs := [(.int .i64 x4645), (.int .i64 x5369)]) rfl rfl T47 PL47 rfl) ?_
                refine ev_litN (d := dPair) (xs := [(Pair.mk x4645 x5369)]) (cs := [(.int .i64 x4645), (.int .i64 x5369)]) hp rfl rfl Tryd.underlying22 T47 (by decide) rfl rfl (Elems.cons (d := dPair) (xs := _) dPair_m (Elems.nil _ _ _ _)) ?_
                intro v5499 I5501 w5500 hp hs r5502
                replace o2887 := o2887.step hs
                replace o2894 := o2894.step hs
                replace o5368 := o5368.step hs
                replace tb := tb.step hs
                obtain ⟨x5503, q5504, q5480⟩ := bind_some q5480
                refine ev_append hp (i := 2) rfl rfl rfl rfl Tryd.underlying22 T47 rfl rfl o5368 r5502 q5504 ?_
                rintro v5505 e5506 w5507 hp hs o5508
                replace o2887 := o2887.step hs
                replace o2894 := o2894.step hs
                replace tb := tb.step hs
                obtain rfl := Option.some.inj q5480
                exact ⟨(x5503, v5505, e5506, I5501), (.c rfl (.c rfl (.c rfl (.c rfl (.c rfl (.c rfl (.c rfl (.c rfl .n)))))))), rfl, hp, o2887, o2894, o5508, tb⟩
              ·
                have q5480 := cond_f q5480 hc
                apply go
                obtain rfl := Option.some.inj q5480
                exact ⟨(x5365, v5366, e5367, I5370), (.c rfl (.c rfl (.c rfl (.c rfl (.c rfl (.c rfl (.c rfl (.c rfl .n)))))))), rfl, hp, o2887, o2894, o5368, tb⟩
            ·
              rintro ⟨x5473, v5474, e5475, I5477⟩ w5478 ⟨hy, hp, o2887, o2894, o5476, tb⟩
              replace hy := hy.symm
              subst hy
              apply go
              exact ⟨_, (Option.some.inj q5443).symm, (v5474, e5475, I5477), (.c rfl (.c rfl (.c rfl (.c rfl (.c rfl (.c rfl (.c rfl (.c rfl .n)))))))), ⟨hp, o2887, o2894, o5476, tb⟩⟩
          ·
            have q5443 := cond_f q5443 hc
            apply go
            have q5509 := congrArg some (q5444 _ (Option.some.inj q5443).symm)
            obtain rfl := Option.some.inj q5509
            exact ⟨(x5365, v5366, e5367, I5370), (.c rfl (.c rfl (.c rfl (.c rfl (.c rfl (.c rfl .n)))))), rfl, hp, o2887, o2894, o5368, tb⟩
        ·
          rintro ⟨x5293, v5294, e5295, I5297⟩ w5298 ⟨hy, hp, o2887, o2894, o5296, tb⟩
          replace hy := hy.symm
          subst hy
          apply go
          exact ⟨_, (Option.some.inj q5082).symm, (v5294, e5295, I5297), (.c rfl (.c rfl (.c rfl (.c rfl (.c rfl (.c rfl .n)))))), ⟨hp, o2887, o2894, o5296, tb⟩⟩
      ·
        have q5082 := cond_f q5082 hc
        apply go
        have q5510 := congrArg some (q5083 _ (Option.some.inj q5082).symm)
        obtain rfl := Option.some.inj q5510
        have hp := hp.sel [2] (by decide)
        exact ⟨(x4641, v4642, e4643, I4646), (.c rfl .n), rfl, hp, o4644, tb⟩
    ·
      rintro ⟨x4199, v4200, e4201, I4203⟩ w4204 ⟨hy, hp, o4202, tb⟩
      replace hy := hy.symm
      subst hy
      apply go
      apply go
      apply go
      obtain rfl := Option.some.inj h
      have r5511 := o4202.frz hp (i := 0) rfl
      obtain ⟨hp, hs⟩ := freeze_hp hp (i := 0) rfl
      replace tb := tb.step hs
      have hp := hp.sel [] (by decide)
      exact ⟨(Ad I4203 e4201), v4200, rfl, hp, r5511⟩

end Go.Proofs.YtgmiencjoghnnaaDoor

namespace Go.Proofs.YtgmiencjoghnnaaDoor
open Go Go.Proofs.YtgmiencjoghnnaaDoor.Gw Go.RowKit
set_option linter.unusedVariables false
attribute [local irreducible] Ev EvQ EvS EvH
def base_Pairs_S (f : (List Pair) → (List Pair) → Option Bool) : Prop := ∀ (w0 : World) (I0 : Nat → Prop) (x5615 : (List Pair)) (v5616 : Value) (r5617 : RepS dPair w0 I0 v5616 x5615) (x5618 : (List Pair)) (v5619 : Value) (r5620 : RepS dPair w0 I0 v5619 x5618) (hI : ∀ g, I0 g → g < w0.heap.size) (r : Bool), f x5615 x5618 = some r →
    Ret Tryd.prog 19 #[v5616, v5619] w0 fun v w1 => v = (.bool r) ∧ Ch [] w0 w1
theorem base_Pairs_ok (n : Nat) : base_Pairs_S (base_Pairs n) := by
  intro w0 I0 x5615 v5616 r5617 x5618 v5619 r5620 hI r h
  unfold base_Pairs at h
  refine enter Tryd.func19 rfl (Nat.le_of_ble_eq_true rfl) ?_
  have hp : Hp ⟨w0, I0, []⟩ I0 [] w0 := Hp.start hI
  apply go
  apply go
  apply go
  apply go
  apply go
  refine ev0 (rn_len rfl rfl Tryd.underlying22 r5617) ?_
  refine ev0 (rn_len rfl rfl Tryd.underlying22 r5620) ?_
  apply go
  refine sel_of (fun hc => ?_) (fun hc => ?_)
  ·
    have h := cond_t h hc
    apply go
    apply go
    apply go
    obtain rfl := Option.some.inj h
    exact ⟨rfl, hp.ch⟩
  ·
    have h := cond_f h hc
    apply go
    obtain ⟨y5669, q5670, h⟩ := bind_some h
    refine W.cut (γ := Unit) (fun _ => []) (fun _ w' => y5669 = .go () ∧ Hp ⟨w0, I0, []⟩ I0 [] w') ?_ ?_
    ·
      apply go
      apply go
      apply go
      refine W.loop q5670 (γ := Unit) (fun s _ => [(0, v5616), (1, v5619), (5, (.int .i64 (s)))]) (fun s _ w' => Hp ⟨w0, I0, []⟩ I0 [] w' ∧ RepS dPair w' I0 v5616 x5615 ∧ RepS dPair w' I0 v5619 x5618) () (.c rfl (.c rfl (.c rfl .n))) ⟨hp, r5617, r5620⟩ ?_
      rintro x5684 ⟨⟩ w5699 y5700 ⟨hp, r5617, r5620⟩ q5701 q5702
      unfold base_Pairs_L1 at q5701
      apply go
      apply go
      apply go
      refine ev0 (rn_len rfl rfl Tryd.underlying22 r5617) ?_
      apply go
      refine sel_of (fun hc => ?_) (fun hc => ?_)
      ·
        have q5701 := cond_t q5701 hc
        apply go
        apply go
        apply go
        apply go
        refine W.quiet (fun w' => Ch [] w5699 w') MX (by kernel_rfl) (Ch.drew [] w5699) ?_
        obtain ⟨x5703, q5704, q5701⟩ := bind_some q5701
        refine evq_index rfl rfl rfl Tryd.underlying22 T47 r5617 q5704 ?_
        intro p5705 c5706 d5707 a5708
        obtain rfl := dPair_o d5707
        refine evq (fun w' hw => rn_load rfl rfl (run_loadVarA T47 rfl (a5708.step (hp.stp hw)))) ?_
        obtain ⟨x5709, q5710, q5701⟩ := bind_some q5701
        refine evq_index rfl rfl rfl Tryd.underlying22 T47 r5620 q5710 ?_
        intro p5711 c5712 d5713 a5714
        obtain rfl := dPair_o d5713
        refine evq (fun w' hw => rn_load rfl rfl (run_loadVarA T47 rfl (a5714.step (hp.stp hw)))) ?_
        refine evq0 (rn_neA rfl rfl rfl (EQ47 x5703.A x5703.B x5709.A x5709.B)) ?_
        intro w5715 hc
        have hs := hp.stp hc
        replace hp := hp.ext hc
        replace r5617 := r5617.step hs
        replace r5620 := r5620.step hs
        apply go
        refine sel_of (fun hc => ?_) (fun hc => ?_)
        ·
          have q5701 := cond_t q5701 hc
          apply go
          apply go
          apply go
          have q5716 := congrArg some (q5702 _ (Option.some.inj q5701).symm)
          obtain rfl := Option.some.inj q5716
          obtain rfl := Option.some.inj h
          exact ⟨rfl, hp.ch⟩
        ·
          have q5701 := cond_f q5701 hc
          apply go
          apply go
          exact ⟨_, (Option.some.inj q5701).symm, (), (.c rfl (.c rfl (.c rfl .n))), ⟨hp, r5617, r5620⟩⟩
      ·
        have q5701 := cond_f q5701 hc
        apply go
        have q5717 := congrArg some (q5702 _ (Option.some.inj q5701).symm)
        obtain rfl := Option.some.inj q5717
        exact ⟨(), .n, rfl, hp⟩
    ·
      rintro ⟨⟩ w5668 ⟨hy, hp⟩
      replace hy := hy.symm
      subst hy
      apply go
      apply go
      apply go
      obtain rfl := Option.some.inj h
      exact ⟨rfl, hp.ch⟩

end Go.Proofs.YtgmiencjoghnnaaDoor

namespace Go.Proofs.YtgmiencjoghnnaaDoor
open Go Go.Proofs.YtgmiencjoghnnaaDoor.Gw Go.RowKit
set_option linter.unusedVariables false
attribute [local irreducible] Ev EvQ EvS EvH
def law26_awake_S (f : Option Bool) : Prop := ∀ (w0 : World) (I0 : Nat → Prop) (tb : At w0 I0 ⟨0, 0, none⟩ (tab64.map (.int .u8)))  (hI : ∀ g, I0 g → g < w0.heap.size) (r : Bool), f  = some r →
    Ret Tryd.prog 12 #[] w0 fun v w1 => v = (.bool r) ∧ Ch [] w0 w1
theorem law26_awake_ok (n : Nat) : law26_awake_S (law26_awake n) := by
  intro w0 I0 tb hI r h
  unfold law26_awake at h
  refine enter Tryd.func12 rfl (Nat.le_of_ble_eq_true rfl) ?_
  have hp : Hp ⟨w0, I0, []⟩ I0 [] w0 := Hp.start hI
  apply go
  apply go
  apply go
  apply go
  refine ev0 (fun w => rn_build (cs := [(.int .i64 0), (.int .i64 1)]) rfl rfl T47 PL47 rfl) ?_
  refine ev0 (fun w => rn_build (cs := [(.int .i64 0), (.int .i64 3)]) rfl rfl T47 PL47 rfl) ?_
  refine ev0 (fun w => rn_build (cs := [(.int .i64 1), (.int .i64 2)]) rfl rfl T47 PL47 rfl) ?_
  refine ev0 (fun w => rn_build (cs := [(.int .i64 2), (.int .i64 3)]) rfl rfl T47 PL47 rfl) ?_
  refine ev_litN (d := dPair) (xs := [(Pair.mk 0 1), (Pair.mk 0 3), (Pair.mk 1 2), (Pair.mk 2 3)]) (cs := [(.int .i64 0), (.int .i64 1), (.int .i64 0), (.int .i64 3), (.int .i64 1), (.int .i64 2), (.int .i64 2), (.int .i64 3)]) hp rfl rfl Tryd.underlying22 T47 (by decide) rfl rfl (Elems.cons (d := dPair) (xs := _) dPair_m (Elems.cons (d := dPair) (xs := _) dPair_m (Elems.cons (d := dPair) (xs := _) dPair_m (Elems.cons (d := dPair) (xs := _) dPair_m (Elems.nil _ _ _ _))))) ?_
  intro v5718 I5720 w5719 hp hs r5721
  replace tb := tb.step hs
  apply go
  apply go
  obtain ⟨⟨x5722, x5723⟩, q5724, h⟩ := bind_some h
  refine ev_call rfl rfl C14 (((ordering_MinDegree_ok n) _ _ tb 4 [(Pair.mk 0 1), (Pair.mk 0 3), (Pair.mk 1 2), (Pair.mk 2 3)] v5718 r5721 hp.imm _ q5724).mono ?_)
  rintro _ w5725 ⟨I5726, v5727, hv, hq, r5728⟩
  replace hv := hv.symm
  subst hv
  have hs := hq.st
  have hp := hp.join0 hq
  replace r5721 := r5721.step hs
  replace tb := tb.step hs
  apply go
  apply go
  refine ev_litN (d := (dI .i64)) (xs := [0, 1, 2, 3]) (cs := [(.int .i64 0), (.int .i64 1), (.int .i64 2), (.int .i64 3)]) hp rfl rfl Tryd.underlying27 T3 (by decide) rfl rfl (Elems.cons (d := (dI .i64)) (xs := _) rfl (Elems.cons (d := (dI .i64)) (xs := _) rfl (Elems.cons (d := (dI .i64)) (xs := _) rfl (Elems.cons (d := (dI .i64)) (xs := _) rfl (Elems.nil _ _ _ _))))) ?_
  intro v5729 I5731 w5730 hp hs r5732
  replace r5728 := r5728.step hs
  replace r5721 := r5721.step hs
  replace tb := tb.step hs
  obtain ⟨⟨x5733, x5734⟩, q5735, h⟩ := bind_some h
  refine ev_call rfl rfl C17 (((ordering_Fill_ok n) _ _ tb 4 [(Pair.mk 0 1), (Pair.mk 0 3), (Pair.mk 1 2), (Pair.mk 2 3)] v5718 r5721 [0, 1, 2, 3] v5729 r5732 hp.imm _ q5735).mono ?_)
  rintro _ w5736 ⟨I5737, v5738, hv, hq, r5739⟩
  replace hv := hv.symm
  subst hv
  have hs := hq.st
  have hp := hp.join0 hq
  replace r5728 := r5728.step hs
  replace tb := tb.step hs
  obtain ⟨y5757, q5758, h⟩ := bind_some h
  refine W.cut (γ := (Bool × (Nat → Prop))) (fun g => [(0, (.bool (g.1)))]) (fun g w' => y5757 = (g.1) ∧ Hp ⟨w0, I0, []⟩ (g.2) [] w' ∧ At w' (g.2) ⟨0, 0, none⟩ (tab64.map (.int .u8))) ?_ ?_
  ·
    apply go
    refine sel_of (fun hc => ?_) (fun hc => ?_)
    ·
      have q5758 := cond_t q5758 hc
      refine ev_litN (d := (dI .i64)) (xs := [0, 1, 2, 3]) (cs := [(.int .i64 0), (.int .i64 1), (.int .i64 2), (.int .i64 3)]) hp rfl rfl Tryd.underlying27 T3 (by decide) rfl rfl (Elems.cons (d := (dI .i64)) (xs := _) rfl (Elems.cons (d := (dI .i64)) (xs := _) rfl (Elems.cons (d := (dI .i64)) (xs := _) rfl (Elems.cons (d := (dI .i64)) (xs := _) rfl (Elems.nil _ _ _ _))))) ?_
      intro v5759 I5761 w5760 hp hs r5762
      replace r5739 := r5739.step hs
      replace r5728 := r5728.step hs
      replace tb := tb.step hs
      obtain ⟨x5763, q5764, q5758⟩ := bind_some q5758
      refine ev_call rfl rfl C16 (((base_Ints_ok n) _ _  x5722 v5727 r5728 [0, 1, 2, 3] v5759 r5762 hp.imm _ q5764).mono ?_)
      rintro _ w5765 ⟨rfl, hc⟩
      have hs := hp.stp hc
      replace hp := hp.ext hc
      replace r5739 := r5739.step hs
      replace tb := tb.step hs
      refine sel_of (fun hc => ?_) (fun hc => ?_)
      ·
        have q5758 := cond_t q5758 hc
        refine sel_of (fun hc => ?_) (fun hc => ?_)
        ·
          have q5758 := cond_t q5758 hc
          refine ev0 (fun w => rn_build (cs := [(.int .i64 1), (.int .i64 3)]) rfl rfl T47 PL47 rfl) ?_
          refine ev_litN (d := dPair) (xs := [(Pair.mk 1 3)]) (cs := [(.int .i64 1), (.int .i64 3)]) hp rfl rfl Tryd.underlying22 T47 (by decide) rfl rfl (Elems.cons (d := dPair) (xs := _) dPair_m (Elems.nil _ _ _ _)) ?_
          intro v5766 I5768 w5767 hp hs r5769
          replace r5739 := r5739.step hs
          replace tb := tb.step hs
          obtain ⟨x5770, q5771, q5758⟩ := bind_some q5758
          refine ev_call rfl rfl C19 (((base_Pairs_ok n) _ _  x5733 v5738 r5739 [(Pair.mk 1 3)] v5766 r5769 hp.imm _ q5771).mono ?_)
          rintro _ w5772 ⟨rfl, hc⟩
          have hs := hp.stp hc
          replace hp := hp.ext hc
          replace tb := tb.step hs
          obtain rfl := Option.some.inj q5758
          exact ⟨(x5770, I5768), (.c rfl .n), rfl, hp, tb⟩
        ·
          have q5758 := cond_f q5758 hc
          obtain rfl := Option.some.inj q5758
          exact ⟨(false, I5761), (.c rfl .n), rfl, hp, tb⟩
      ·
        have q5758 := cond_f q5758 hc
        obtain rfl := Option.some.inj q5758
        exact ⟨(false, I5761), (.c rfl .n), rfl, hp, tb⟩
    ·
      have q5758 := cond_f q5758 hc
      obtain rfl := Option.some.inj q5758
      exact ⟨(false, I5737), (.c rfl .n), rfl, hp, tb⟩
  ·
    rintro ⟨x5754, I5755⟩ w5756 ⟨hy, hp, tb⟩
    replace hy := hy.symm
    subst hy
    apply go
    obtain rfl := Option.some.inj h
    exact ⟨rfl, hp.ch⟩

end Go.Proofs.YtgmiencjoghnnaaDoor

namespace Go.Proofs.YtgmiencjoghnnaaDoor
open Go Go.Proofs.YtgmiencjoghnnaaDoor.Gw Go.RowKit
set_option linter.unusedVariables false
attribute [local irreducible] Ev EvQ EvS EvH
def law26_few_S (f : Graph → Option Bool) : Prop := ∀ (w0 : World) (I0 : Nat → Prop) (x5773 : Graph) (v5774 : Value) (r5775 : RepS dPair w0 I0 v5774 x5773.E) (hI : ∀ g, I0 g → g < w0.heap.size) (r : Bool), f x5773 = some r →
    Ret Tryd.prog 13 #[(.agg #[(.int .i64 x5773.N), v5774])] w0 fun v w1 => v = (.bool r) ∧ Ch [] w0 w1
theorem law26_few_ok (n : Nat) : law26_few_S (law26_few n) := by
  intro w0 I0 x5773 v5774 r5775 hI r h
  unfold law26_few at h
  refine enter Tryd.func13 rfl (Nat.le_of_ble_eq_true rfl) ?_
  have hp : Hp ⟨w0, I0, []⟩ I0 [] w0 := Hp.start hI
  apply go
  apply go
  refine ev_boxI hp rfl rfl ?_
  intro p5778 I5779 w5777 hp hs a5780
  replace r5775 := r5775.step hs
  obtain ⟨y5782, q5783, h⟩ := bind_some h
  refine W.cut (γ := Bool) (fun g => [(2, (.bool (g)))]) (fun g w' => y5782 = (g) ∧ w5777 = w') ?_ ?_
  ·
    apply go
    refine ev0 (rn_field rfl rfl FO24_1) ?_
    refine ev (rn_load rfl rfl (run_loadVar1 T22 (a5780.2 1 _ rfl))) ?_
    refine ev0 (rn_len rfl rfl Tryd.underlying22 r5775) ?_
    refine sel_of (fun hc => ?_) (fun hc => ?_)
    ·
      have q5783 := cond_t q5783 hc
      refine ev0 (rn_field rfl rfl FO24_0) ?_
      refine ev (rn_load rfl rfl (run_loadVar1 T3 (a5780.2 0 _ rfl))) ?_
      obtain rfl := Option.some.inj q5783
      exact ⟨(decide (x5773.N ≤ 24)), (.c rfl .n), rfl, rfl⟩
    ·
      have q5783 := cond_f q5783 hc
      obtain rfl := Option.some.inj q5783
      exact ⟨false, (.c rfl .n), rfl, rfl⟩
  ·
    rintro x5781 _ ⟨hy, rfl⟩
    replace hy := hy.symm
    subst hy
    apply go
    obtain rfl := Option.some.inj h
    exact ⟨rfl, hp.ch⟩

end Go.Proofs.YtgmiencjoghnnaaDoor

namespace Go.Proofs.YtgmiencjoghnnaaDoor
open Go Go.Proofs.YtgmiencjoghnnaaDoor.Gw Go.RowKit
set_option linter.unusedVariables false
attribute [local irreducible] Ev EvQ EvS EvH
def ordering_Reaches_S (f : Int → (List Pair) → (List Int) → Int → Int → Option Bool) : Prop := ∀ (w0 : World) (I0 : Nat → Prop) (tb : At w0 I0 ⟨0, 0, none⟩ (tab64.map (.int .u8))) (x31249 : Int) (x31250 : (List Pair)) (v31251 : Value) (r31252 : RepS dPair w0 I0 v31251 x31250) (x31253 : (List Int)) (v31254 : Value) (r31255 : RepS (dI .i64) w0 I0 v31254 x31253) (x31256 : Int) (x31257 : Int) (hI : ∀ g, I0 g → g < w0.heap.size) (r : Bool), f x31249 x31250 x31253 x31256 x31257 = some r →
    Ret Tryd.prog 21 #[(.int .i64 x31249), v31251, v31254, (.int .i64 x31256), (.int .i64 x31257)] w0 fun v w1 => v = (.bool r) ∧ Ch [] w0 w1
theorem ordering_Reaches_ok (n : Nat) : ordering_Reaches_S (ordering_Reaches n) := by
  intro w0 I0 tb x31249 x31250 v31251 r31252 x31253 v31254 r31255 x31256 x31257 hI r h
  unfold ordering_Reaches at h
  refine enter Tryd.func21 rfl (Nat.le_of_ble_eq_true rfl) ?_
  have hp : Hp ⟨w0, I0, []⟩ I0 [] w0 := Hp.start hI
  apply go
  apply go
  apply go
  obtain ⟨y31266, q31267, h⟩ := bind_some h
  refine W.cut (γ := Bool) (fun g => [(0, (.int .i64 x31249)), (1, v31251), (2, v31254), (3, (.int .i64 x31256)), (4, (.int .i64 x31257)), (51, (.bool (g)))]) (fun g w' => y31266 = (g) ∧ Hp ⟨w0, I0, []⟩ I0 [] w' ∧ RepS dPair w' I0 v31251 x31250 ∧ RepS (dI .i64) w' I0 v31254 x31253 ∧ At w' I0 ⟨0, 0, none⟩ (tab64.map (.int .u8))) ?_ ?_
  ·
    apply go
    obtain ⟨x31268, q31269, q31267⟩ := bind_some q31267
    refine ev_call rfl rfl C34 (((ordering_Valid_ok n) _ _  x31249 x31250 v31251 r31252 hp.imm _ q31269).mono ?_)
    rintro _ w31270 ⟨rfl, hc⟩
    have hs := hp.stp hc
    replace hp := hp.ext hc
    replace r31252 := r31252.step hs
    replace r31255 := r31255.step hs
    replace tb := tb.step hs
    refine sel_of (fun hc => ?_) (fun hc => ?_)
    ·
      have q31267 := cond_t q31267 hc
      obtain rfl := Option.some.inj q31267
      exact ⟨true, (.c rfl (.c rfl (.c rfl (.c rfl (.c rfl (.c rfl .n)))))), rfl, hp, r31252, r31255, tb⟩
    ·
      have q31267 := cond_f q31267 hc
      obtain ⟨x31271, q31272, q31267⟩ := bind_some q31267
      refine ev_call rfl rfl C47 (((ordering_permutation_ok n) _ _  x31249 x31253 v31254 r31255 hp.imm _ q31272).mono ?_)
      rintro _ w31273 ⟨rfl, hc⟩
      have hs := hp.stp hc
      replace hp := hp.ext hc
      replace r31252 := r31252.step hs
      replace r31255 := r31255.step hs
      replace tb := tb.step hs
      refine sel_of (fun hc => ?_) (fun hc => ?_)
      ·
        have q31267 := cond_t q31267 hc
        obtain rfl := Option.some.inj q31267
        exact ⟨true, (.c rfl (.c rfl (.c rfl (.c rfl (.c rfl (.c rfl .n)))))), rfl, hp, r31252, r31255, tb⟩
      ·
        have q31267 := cond_f q31267 hc
        refine sel_of (fun hc => ?_) (fun hc => ?_)
        ·
          have q31267 := cond_t q31267 hc
          obtain rfl := Option.some.inj q31267
          exact ⟨true, (.c rfl (.c rfl (.c rfl (.c rfl (.c rfl (.c rfl .n)))))), rfl, hp, r31252, r31255, tb⟩
        ·
          have q31267 := cond_f q31267 hc
          refine sel_of (fun hc => ?_) (fun hc => ?_)
          ·
            have q31267 := cond_t q31267 hc
            obtain rfl := Option.some.inj q31267
            exact ⟨true, (.c rfl (.c rfl (.c rfl (.c rfl (.c rfl (.c rfl .n)))))), rfl, hp, r31252, r31255, tb⟩
          ·
            have q31267 := cond_f q31267 hc
            refine sel_of (fun hc => ?_) (fun hc => ?_)
            ·
              have q31267 := cond_t q31267 hc
              obtain rfl := Option.some.inj q31267
              exact ⟨true, (.c rfl (.c rfl (.c rfl (.c rfl (.c rfl (.c rfl .n)))))), rfl, hp, r31252, r31255, tb⟩
            ·
              have q31267 := cond_f q31267 hc
              refine sel_of (fun hc => ?_) (fun hc => ?_)
              ·
                have q31267 := cond_t q31267 hc
                obtain rfl := Option.some.inj q31267
                exact ⟨true, (.c rfl (.c rfl (.c rfl (.c rfl (.c rfl (.c rfl .n)))))), rfl, hp, r31252, r31255, tb⟩
              ·
                have q31267 := cond_f q31267 hc
                obtain rfl := Option.some.inj q31267
                exact ⟨(x31256 == x31257), (.c rfl (.c rfl (.c rfl (.c rfl (.c rfl (.c rfl .n)))))), rfl, hp, r31252, r31255, tb⟩
  ·
    rintro x31264 w31265 ⟨hy, hp, r31252, r31255, tb⟩
    replace hy := hy.symm
    subst hy
    apply go
    refine sel_of (fun hc => ?_) (fun hc => ?_)
    ·
      have h := cond_t h hc
      apply go
      apply go
      apply go
      obtain rfl := Option.some.inj h
      exact ⟨rfl, hp.ch⟩
    ·
      have h := cond_f h hc
      apply go
      apply go
      apply go
      obtain ⟨x31274, q31275, h⟩ := bind_some h
      refine ev_call rfl rfl C36 (((ordering_build_ok n) _ _  x31249 x31250 v31251 r31252 hp.imm _ q31275).mono ?_)
      rintro _ w31276 ⟨I31277, v31278, e31279, hv, hq, o31280⟩
      replace hv := hv.symm
      subst hv
      have hs := hq.st
      have hp := hp.join0 hq
      replace r31255 := r31255.step hs
      replace tb := tb.step hs
      apply go
      apply go
      obtain ⟨y31321, q31322, h⟩ := bind_some h
      refine W.cut (γ := Int) (fun g => [(3, (.int .i64 x31256)), (4, (.int .i64 x31257)), (11, v31278), (12, (.int .u64 (g)))]) (fun g w' => y31321 = (g) ∧ w31276 = w') ?_ ?_
      ·
        apply go
        apply go
        refine ev0 (rn_len rfl rfl Tryd.underlying27 r31255) ?_
        apply go
        refine W.loop q31322 (γ := Unit) (fun s _ => [(3, (.int .i64 x31256)), (4, (.int .i64 x31257)), (11, v31278), (12, (.int .u64 (s.1))), (55, v31254), (56, (.int .i64 (x31253.length : Int))), (57, (.int .i64 (s.2)))]) (fun s _ w' => w31276 = w') () (.c rfl (.c rfl (.c rfl (.c rfl (.c rfl (.c rfl (.c rfl .n))))))) rfl ?_
        rintro ⟨x31333, x31334⟩ ⟨⟩ _ y31347 rfl q31348 q31349
        unfold ordering_Reaches_L1 at q31348
        apply go
        apply go
        apply go
        apply go
        refine sel_of (fun hc => ?_) (fun hc => ?_)
        ·
          have q31348 := cond_t q31348 hc
          apply go
          apply go
          apply go
          apply go
          apply go
          obtain ⟨x31350, q31351, q31348⟩ := bind_some q31348
          refine ev_index rfl rfl rfl Tryd.underlying27 T3 r31255 q31351 ?_
          intro p31352 c31353 d31354 a31355
          obtain rfl : c31353 = [(.int .i64 x31350)] := d31354
          refine ev (rn_load rfl rfl (run_loadVar1 T3 (a31355.2 0 _ rfl))) ?_
          apply go
          obtain ⟨y31357, q31358, q31348⟩ := bind_some q31348
          refine W.cut (γ := Bool) (fun g => [(3, (.int .i64 x31256)), (4, (.int .i64 x31257)), (11, v31278), (12, (.int .u64 x31333)), (14, (.int .i64 x31350)), (55, v31254), (56, (.int .i64 (x31253.length : Int))), (57, (.int .i64 x31334)), (68, (.bool (g)))]) (fun g w' => y31357 = (g) ∧ w31276 = w') ?_ ?_
          ·
            apply go
            refine sel_of (fun hc => ?_) (fun hc => ?_)
            ·
              have q31358 := cond_t q31358 hc
              obtain rfl := Option.some.inj q31358
              exact ⟨true, (.c rfl (.c rfl (.c rfl (.c rfl (.c rfl (.c rfl (.c rfl (.c rfl (.c rfl .n))))))))), rfl, rfl⟩
            ·
              have q31358 := cond_f q31358 hc
              obtain rfl := Option.some.inj q31358
              exact ⟨(x31350 == x31257), (.c rfl (.c rfl (.c rfl (.c rfl (.c rfl (.c rfl (.c rfl (.c rfl (.c rfl .n))))))))), rfl, rfl⟩
          ·
            rintro x31356 _ ⟨hy, rfl⟩
            replace hy := hy.symm
            subst hy
            apply go
            refine sel_of (fun hc => ?_) (fun hc => ?_)
            ·
              have q31348 := cond_t q31348 hc
              apply go
              have q31359 := congrArg some (q31349 _ (Option.some.inj q31348).symm)
              obtain rfl := Option.some.inj q31359
              exact ⟨x31333, (.c rfl (.c rfl (.c rfl (.c rfl .n)))), rfl, rfl⟩
            ·
              have q31348 := cond_f q31348 hc
              apply go
              apply go
              obtain ⟨q31360, _, q31348⟩ := need_some q31348
              refine ⟨q31360, ?_⟩
              apply go
              exact ⟨_, (Option.some.inj q31348).symm, (), (.c rfl (.c rfl (.c rfl (.c rfl (.c rfl (.c rfl (.c rfl .n))))))), rfl⟩
        ·
          have q31348 := cond_f q31348 hc
          apply go
          have q31361 := congrArg some (q31349 _ (Option.some.inj q31348).symm)
          obtain rfl := Option.some.inj q31361
          exact ⟨x31333, (.c rfl (.c rfl (.c rfl (.c rfl .n)))), rfl, rfl⟩
      ·
        rintro x31320 _ ⟨hy, rfl⟩
        replace hy := hy.symm
        subst hy
        apply go
        refine W.quiet (fun w' => Ch [] w31276 w') MX (by kernel_rfl) (Ch.drew [] w31276) ?_
        obtain ⟨q31362, _, h⟩ := need_some h
        refine ⟨q31362, ?_⟩
        obtain ⟨q31363, _, h⟩ := need_some h
        refine ⟨q31363, ?_⟩
        intro w31364 hc
        have hs := hp.stp hc
        replace hp := hp.ext hc
        replace o31280 := o31280.step hs
        replace tb := tb.step hs
        obtain ⟨y31436, q31437, h⟩ := bind_some h
        refine W.cut (γ := Unit) (fun _ => []) (fun _ w' => y31436 = .go () ∧ Hp ⟨w0, I0, []⟩ I31277 [] w' ∧ At w' I31277 ⟨0, 0, none⟩ (tab64.map (.int .u8))) ?_ ?_
        ·
          apply go
          refine W.loop q31437 (γ := Unit) (fun s _ => [(4, (.int .i64 x31257)), (11, v31278), (12, (.int .u64 x31320)), (15, (.int .u64 (s.1))), (16, (.int .u64 (s.2)))]) (fun s _ w' => Hp ⟨w0, I0, []⟩ I31277 [e31279] w' ∧ OwnS (dI .u64) 52 w' I31277 v31278 e31279 x31274 ∧ At w' I31277 ⟨0, 0, none⟩ (tab64.map (.int .u8))) () (.c rfl (.c rfl (.c rfl (.c rfl (.c rfl .n))))) ⟨hp, o31280, tb⟩ ?_
          rintro ⟨x31458, x31459⟩ ⟨⟩ w31482 y31483 ⟨hp, o31280, tb⟩ q31484 q31485
          unfold ordering_Reaches_L3 at q31484
          apply go
          apply go
          apply go
          apply go
          refine sel_of (fun hc => ?_) (fun hc => ?_)
          ·
            have q31484 := cond_t q31484 hc
            apply go
            apply go
            apply go
            apply go
            obtain ⟨x31486, q31487, q31484⟩ := bind_some q31484
            refine ev_call rfl rfl C38 (((bits_TrailingZeros64_ok n) _ _ tb x31459 hp.imm _ q31487).mono ?_)
            rintro _ w31488 ⟨rfl, hc⟩
            have hs := hp.stp hc
            replace hp := hp.ext hc
            replace o31280 := o31280.step hs
            replace tb := tb.step hs
            apply go
            apply go
            apply go
            apply go
            apply go
            obtain ⟨x31489, q31490, q31484⟩ := bind_some q31484
            refine ev_indexO rfl rfl rfl Tryd.underlying50 T52 o31280 q31490 ?_
            intro g31491 c31492 h31495 d31493 l31494
            refine ev (rn_load rfl rfl (run_loadVar1 T52 (hp.cellE (i := 0) rfl h31495 d31493 (j := 0) rfl))) ?_
            obtain ⟨q31497, _, q31484⟩ := need_some q31484
            refine ⟨q31497, ?_⟩
            apply go
            refine sel_of (fun hc => ?_) (fun hc => ?_)
            ·
              have q31484 := cond_t q31484 hc
              apply go
              apply go
              apply go
              have q31498 := congrArg some (q31485 _ (Option.some.inj q31484).symm)
              obtain rfl := Option.some.inj q31498
              obtain rfl := Option.some.inj h
              exact ⟨rfl, hp.ch⟩
            ·
              have q31484 := cond_f q31484 hc
              apply go
              apply go
              apply go
              obtain ⟨x31499, q31500, q31484⟩ := bind_some q31484
              refine ev_indexO rfl rfl rfl Tryd.underlying50 T52 o31280 q31500 ?_
              intro g31501 c31502 h31505 d31503 l31504
              refine ev (rn_load rfl rfl (run_loadVar1 T52 (hp.cellE (i := 0) rfl h31505 d31503 (j := 0) rfl))) ?_
              apply go
              apply go
              apply go
              exact ⟨_, (Option.some.inj q31484).symm, (), (.c rfl (.c rfl (.c rfl (.c rfl (.c rfl .n))))), ⟨hp, o31280, tb⟩⟩
          ·
            have q31484 := cond_f q31484 hc
            apply go
            have q31507 := congrArg some (q31485 _ (Option.some.inj q31484).symm)
            obtain rfl := Option.some.inj q31507
            have hp := hp.sel [] (by decide)
            exact ⟨(), .n, rfl, hp, tb⟩
        ·
          rintro ⟨⟩ w31435 ⟨hy, hp, tb⟩
          replace hy := hy.symm
          subst hy
          apply go
          apply go
          apply go
          obtain rfl := Option.some.inj h
          exact ⟨rfl, hp.ch⟩

end Go.Proofs.YtgmiencjoghnnaaDoor

namespace Go.Proofs.YtgmiencjoghnnaaDoor
open Go Go.Proofs.YtgmiencjoghnnaaDoor.Gw Go.RowKit
set_option linter.unusedVariables false
attribute [local irreducible] Ev EvQ EvS EvH
def law26_has_S (f : (List Pair) → Int → Int → Option Bool) : Prop := ∀ (w0 : World) (I0 : Nat → Prop) (x31549 : (List Pair)) (v31550 : Value) (r31551 : RepS dPair w0 I0 v31550 x31549) (x31552 : Int) (x31553 : Int) (hI : ∀ g, I0 g → g < w0.heap.size) (r : Bool), f x31549 x31552 x31553 = some r →
    Ret Tryd.prog 22 #[v31550, (.int .i64 x31552), (.int .i64 x31553)] w0 fun v w1 => v = (.bool r) ∧ Ch [] w0 w1
theorem law26_has_ok (n : Nat) : law26_has_S (law26_has n) := by
  intro w0 I0 x31549 v31550 r31551 x31552 x31553 hI r h
  unfold law26_has at h
  refine enter Tryd.func22 rfl (Nat.le_of_ble_eq_true rfl) ?_
  have hp : Hp ⟨w0, I0, []⟩ I0 [] w0 := Hp.start hI
  apply go
  apply go
  obtain ⟨y31642, q31643, h⟩ := bind_some h
  refine W.cut (γ := Unit) (fun _ => []) (fun _ w' => y31642 = .go () ∧ w0 = w') ?_ ?_
  ·
    apply go
    apply go
    apply go
    refine W.loop q31643 (γ := Unit) (fun s _ => [(0, v31550), (1, (.int .i64 x31552)), (2, (.int .i64 x31553)), (7, (.int .i64 (s)))]) (fun s _ w' => w0 = w') () (.c rfl (.c rfl (.c rfl (.c rfl .n)))) rfl ?_
    rintro x31671 ⟨⟩ _ y31700 rfl q31701 q31702
    unfold law26_has_L1 at q31701
    apply go
    apply go
    apply go
    refine ev0 (rn_len rfl rfl Tryd.underlying22 r31551) ?_
    apply go
    refine sel_of (fun hc => ?_) (fun hc => ?_)
    ·
      have q31701 := cond_t q31701 hc
      apply go
      apply go
      apply go
      obtain ⟨y31716, q31717, q31701⟩ := bind_some q31701
      refine W.cut (γ := Bool) (fun g => [(0, v31550), (1, (.int .i64 x31552)), (2, (.int .i64 x31553)), (7, (.int .i64 x31671)), (33, (.bool (g)))]) (fun g w' => y31716 = (g) ∧ w0 = w') ?_ ?_
      ·
        apply go
        obtain ⟨x31718, q31719, q31717⟩ := bind_some q31717
        refine ev_index rfl rfl rfl Tryd.underlying22 T47 r31551 q31719 ?_
        intro p31720 c31721 d31722 a31723
        obtain rfl := dPair_o d31722
        refine ev0 (rn_field rfl rfl FO47_0) ?_
        refine ev (rn_load rfl rfl (run_loadVar1 T3 (a31723.2 0 _ rfl))) ?_
        refine ev0 (rn_min rfl rfl rfl) ?_
        refine sel_of (fun hc => ?_) (fun hc => ?_)
        ·
          have q31717 := cond_t q31717 hc
          obtain ⟨x31724, q31725, q31717⟩ := bind_some q31717
          refine ev_index rfl rfl rfl Tryd.underlying22 T47 r31551 q31725 ?_
          intro p31726 c31727 d31728 a31729
          obtain rfl := dPair_o d31728
          refine ev0 (rn_field rfl rfl FO47_1) ?_
          refine ev (rn_load rfl rfl (run_loadVar1 T3 (a31729.2 1 _ rfl))) ?_
          refine ev0 (rn_max rfl rfl rfl) ?_
          obtain rfl := Option.some.inj q31717
          exact ⟨(x31724.B == (if x31553 > x31552 then x31553 else x31552)), (.c rfl (.c rfl (.c rfl (.c rfl (.c rfl .n))))), rfl, rfl⟩
        ·
          have q31717 := cond_f q31717 hc
          obtain rfl := Option.some.inj q31717
          exact ⟨false, (.c rfl (.c rfl (.c rfl (.c rfl (.c rfl .n))))), rfl, rfl⟩
      ·
        rintro x31715 _ ⟨hy, rfl⟩
        replace hy := hy.symm
        subst hy
        apply go
        refine sel_of (fun hc => ?_) (fun hc => ?_)
        ·
          have q31701 := cond_t q31701 hc
          apply go
          apply go
          apply go
          have q31730 := congrArg some (q31702 _ (Option.some.inj q31701).symm)
          obtain rfl := Option.some.inj q31730
          obtain rfl := Option.some.inj h
          exact ⟨rfl, hp.ch⟩
        ·
          have q31701 := cond_f q31701 hc
          apply go
          apply go
          exact ⟨_, (Option.some.inj q31701).symm, (), (.c rfl (.c rfl (.c rfl (.c rfl .n)))), rfl⟩
    ·
      have q31701 := cond_f q31701 hc
      apply go
      have q31731 := congrArg some (q31702 _ (Option.some.inj q31701).symm)
      obtain rfl := Option.some.inj q31731
      exact ⟨(), .n, rfl, rfl⟩
  ·
    rintro ⟨⟩ _ ⟨hy, rfl⟩
    replace hy := hy.symm
    subst hy
    apply go
    apply go
    apply go
    obtain rfl := Option.some.inj h
    exact ⟨rfl, hp.ch⟩

end Go.Proofs.YtgmiencjoghnnaaDoor

namespace Go.Proofs.YtgmiencjoghnnaaDoor
open Go Go.Proofs.YtgmiencjoghnnaaDoor.Gw Go.RowKit
set_option linter.unusedVariables false
attribute [local irreducible] Ev EvQ EvS EvH
def law26_OrderingPaths_S (f : Graph → (List Int) → Option Bool) : Prop := ∀ (w0 : World) (I0 : Nat → Prop) (tb : At w0 I0 ⟨0, 0, none⟩ (tab64.map (.int .u8))) (x31732 : Graph) (v31733 : Value) (r31734 : RepS dPair w0 I0 v31733 x31732.E) (x31735 : (List Int)) (v31736 : Value) (r31737 : RepS (dI .i64) w0 I0 v31736 x31735) (hI : ∀ g, I0 g → g < w0.heap.size) (r : Bool), f x31732 x31735 = some r →
    Ret Tryd.prog 6 #[(.agg #[(.int .i64 x31732.N), v31733]), v31736] w0 fun v w1 => v = (.bool r) ∧ Ch [] w0 w1
theorem law26_OrderingPaths_ok (n : Nat) : law26_OrderingPaths_S (law26_OrderingPaths n) := by
  intro w0 I0 tb x31732 v31733 r31734 x31735 v31736 r31737 hI r h
  unfold law26_OrderingPaths at h
  refine enter Tryd.func6 rfl (Nat.le_of_ble_eq_true rfl) ?_
  have hp : Hp ⟨w0, I0, []⟩ I0 [] w0 := Hp.start hI
  apply go
  apply go
  refine ev_boxI hp rfl rfl ?_
  intro p31740 I31741 w31739 hp hs a31742
  replace r31737 := r31737.step hs
  replace r31734 := r31734.step hs
  replace tb := tb.step hs
  apply go
  obtain ⟨y31751, q31752, h⟩ := bind_some h
  refine W.cut (γ := Bool) (fun g => [(1, v31736), (2, (.pointer (some (p31740)))), (26, (.bool (g)))]) (fun g w' => y31751 = (g) ∧ Hp ⟨w0, I0, []⟩ I31741 [] w' ∧ RepS (dI .i64) w' I31741 v31736 x31735 ∧ RepS dPair w' I31741 v31733 x31732.E ∧ At w' I31741 p31740 [(.int .i64 x31732.N), v31733] ∧ At w' I31741 ⟨0, 0, none⟩ (tab64.map (.int .u8))) ?_ ?_
  ·
    apply go
    obtain ⟨x31753, q31754, q31752⟩ := bind_some q31752
    refine ev_call rfl rfl C12 (((law26_awake_ok n) _ _ tb  hp.imm _ q31754).mono ?_)
    rintro _ w31755 ⟨rfl, hc⟩
    have hs := hp.stp hc
    replace hp := hp.ext hc
    replace r31737 := r31737.step hs
    replace a31742 := a31742.step hs
    replace r31734 := r31734.step hs
    replace tb := tb.step hs
    refine sel_of (fun hc => ?_) (fun hc => ?_)
    ·
      have q31752 := cond_t q31752 hc
      obtain rfl := Option.some.inj q31752
      exact ⟨true, (.c rfl (.c rfl (.c rfl .n))), rfl, hp, r31737, r31734, a31742, tb⟩
    ·
      have q31752 := cond_f q31752 hc
      refine ev (rn_load rfl rfl (run_loadVarA T24 rfl a31742)) ?_
      obtain ⟨x31756, q31757, q31752⟩ := bind_some q31752
      refine ev_call rfl rfl C13 (((law26_few_ok n) _ _  (Graph.mk x31732.N x31732.E) v31733 r31734 hp.imm _ q31757).mono ?_)
      rintro _ w31758 ⟨rfl, hc⟩
      have hs := hp.stp hc
      replace hp := hp.ext hc
      replace r31737 := r31737.step hs
      replace a31742 := a31742.step hs
      replace r31734 := r31734.step hs
      replace tb := tb.step hs
      refine sel_of (fun hc => ?_) (fun hc => ?_)
      ·
        have q31752 := cond_t q31752 hc
        obtain rfl := Option.some.inj q31752
        exact ⟨true, (.c rfl (.c rfl (.c rfl .n))), rfl, hp, r31737, r31734, a31742, tb⟩
      ·
        have q31752 := cond_f q31752 hc
        refine ev0 (rn_field rfl rfl FO24_0) ?_
        refine ev (rn_load rfl rfl (run_loadVar1 T3 (a31742.2 0 _ rfl))) ?_
        refine sel_of (fun hc => ?_) (fun hc => ?_)
        ·
          have q31752 := cond_t q31752 hc
          obtain rfl := Option.some.inj q31752
          exact ⟨true, (.c rfl (.c rfl (.c rfl .n))), rfl, hp, r31737, r31734, a31742, tb⟩
        ·
          have q31752 := cond_f q31752 hc
          refine ev0 (rn_len rfl rfl Tryd.underlying27 r31737) ?_
          obtain rfl := Option.some.inj q31752
          exact ⟨(decide ((x31735.length : Int) > 100)), (.c rfl (.c rfl (.c rfl .n))), rfl, hp, r31737, r31734, a31742, tb⟩
  ·
    rintro x31749 w31750 ⟨hy, hp, r31737, r31734, a31742, tb⟩
    replace hy := hy.symm
    subst hy
    apply go
    refine sel_of (fun hc => ?_) (fun hc => ?_)
    ·
      have h := cond_t h hc
      apply go
      apply go
      obtain ⟨x31759, q31760, h⟩ := bind_some h
      refine ev_call rfl rfl C12 (((law26_awake_ok n) _ _ tb  hp.imm _ q31760).mono ?_)
      rintro _ w31761 ⟨rfl, hc⟩
      have hs := hp.stp hc
      replace hp := hp.ext hc
      replace tb := tb.step hs
      apply go
      obtain rfl := Option.some.inj h
      exact ⟨rfl, hp.ch⟩
    ·
      have h := cond_f h hc
      apply go
      apply go
      apply go
      refine ev0 (rn_field rfl rfl FO24_0) ?_
      refine ev (rn_load rfl rfl (run_loadVar1 T3 (a31742.2 0 _ rfl))) ?_
      refine ev0 (rn_field rfl rfl FO24_1) ?_
      refine ev (rn_load rfl rfl (run_loadVar1 T22 (a31742.2 1 _ rfl))) ?_
      obtain ⟨⟨x31762, x31763⟩, q31764, h⟩ := bind_some h
      refine ev_call rfl rfl C17 (((ordering_Fill_ok n) _ _ tb x31732.N x31732.E v31733 r31734 x31735 v31736 r31737 hp.imm _ q31764).mono ?_)
      rintro _ w31765 ⟨I31766, v31767, hv, hq, r31768⟩
      replace hv := hv.symm
      subst hv
      have hs := hq.st
      have hp := hp.join0 hq
      replace r31737 := r31737.step hs
      replace a31742 := a31742.step hs
      replace r31734 := r31734.step hs
      replace tb := tb.step hs
      obtain ⟨y32177, q32178, h⟩ := bind_some h
      refine W.cut (γ := Unit) (fun _ => []) (fun _ w' => y32177 = .go () ∧ Hp ⟨w0, I0, []⟩ I31766 [] w' ∧ At w' I31766 ⟨0, 0, none⟩ (tab64.map (.int .u8))) ?_ ?_
      ·
        apply go
        apply go
        apply go
        refine W.loop q32178 (γ := Unit) (fun s _ => [(1, v31736), (2, (.pointer (some (p31740)))), (5, v31767), (6, (.int .i64 x31763)), (7, (.int .i64 (s)))]) (fun s _ w' => Hp ⟨w0, I0, []⟩ I31766 [] w' ∧ RepS (dI .i64) w' I31766 v31736 x31735 ∧ RepS dPair w' I31766 v31733 x31732.E ∧ At w' I31766 p31740 [(.int .i64 x31732.N), v31733] ∧ RepS dPair w' I31766 v31767 x31762 ∧ At w' I31766 ⟨0, 0, none⟩ (tab64.map (.int .u8))) () (.c rfl (.c rfl (.c rfl (.c rfl (.c rfl .n))))) ⟨hp, r31737, r31734, a31742, r31768, tb⟩ ?_
        rintro x32312 ⟨⟩ w32447 y32448 ⟨hp, r31737, r31734, a31742, r31768, tb⟩ q32449 q32450
        unfold law26_OrderingPaths_L11 at q32449
        apply go
        apply go
        apply go
        refine ev0 (rn_field rfl rfl FO24_0) ?_
        refine ev (rn_load rfl rfl (run_loadVar1 T3 (a31742.2 0 _ rfl))) ?_
        apply go
        refine sel_of (fun hc => ?_) (fun hc => ?_)
        ·
          have q32449 := cond_t q32449 hc
          apply go
          obtain ⟨y32517, q32518, q32449⟩ := bind_some q32449
          refine W.cut (γ := Unit) (fun _ => [(1, v31736), (2, (.pointer (some (p31740)))), (5, v31767), (6, (.int .i64 x31763)), (7, (.int .i64 x32312))]) (fun _ w' => y32517 = .go () ∧ Hp ⟨w0, I0, []⟩ I31766 [] w' ∧ RepS (dI .i64) w' I31766 v31736 x31735 ∧ RepS dPair w' I31766 v31733 x31732.E ∧ At w' I31766 p31740 [(.int .i64 x31732.N), v31733] ∧ RepS dPair w' I31766 v31767 x31762 ∧ At w' I31766 ⟨0, 0, none⟩ (tab64.map (.int .u8))) ?_ ?_
          ·
            apply go
            apply go
            apply go
            apply go
            refine W.loop q32518 (γ := Unit) (fun s _ => [(1, v31736), (2, (.pointer (some (p31740)))), (5, v31767), (6, (.int .i64 x31763)), (7, (.int .i64 x32312)), (8, (.int .i64 (s)))]) (fun s _ w' => Hp ⟨w0, I0, []⟩ I31766 [] w' ∧ RepS (dI .i64) w' I31766 v31736 x31735 ∧ RepS dPair w' I31766 v31733 x31732.E ∧ At w' I31766 p31740 [(.int .i64 x31732.N), v31733] ∧ RepS dPair w' I31766 v31767 x31762 ∧ At w' I31766 ⟨0, 0, none⟩ (tab64.map (.int .u8))) () (.c rfl (.c rfl (.c rfl (.c rfl (.c rfl (.c rfl .n)))))) ⟨hp, r31737, r31734, a31742, r31768, tb⟩ ?_
            rintro x32538 ⟨⟩ w32559 y32560 ⟨hp, r31737, r31734, a31742, r31768, tb⟩ q32561 q32562
            unfold law26_OrderingPaths_L13 at q32561
            apply go
            apply go
            apply go
            refine ev0 (rn_field rfl rfl FO24_0) ?_
            refine ev (rn_load rfl rfl (run_loadVar1 T3 (a31742.2 0 _ rfl))) ?_
            apply go
            refine sel_of (fun hc => ?_) (fun hc => ?_)
            ·
              have q32561 := cond_t q32561 hc
              apply go
              apply go
              apply go
              obtain ⟨y32571, q32572, q32561⟩ := bind_some q32561
              refine W.cut (γ := Bool) (fun g => [(1, v31736), (2, (.pointer (some (p31740)))), (5, v31767), (6, (.int .i64 x31763)), (7, (.int .i64 x32312)), (8, (.int .i64 x32538)), (9, (.bool (g)))]) (fun g w' => y32571 = (g) ∧ Hp ⟨w0, I0, []⟩ I31766 [] w' ∧ RepS (dI .i64) w' I31766 v31736 x31735 ∧ RepS dPair w' I31766 v31733 x31732.E ∧ At w' I31766 p31740 [(.int .i64 x31732.N), v31733] ∧ RepS dPair w' I31766 v31767 x31762 ∧ At w' I31766 ⟨0, 0, none⟩ (tab64.map (.int .u8))) ?_ ?_
              ·
                apply go
                refine sel_of (fun hc => ?_) (fun hc => ?_)
                ·
                  have q32572 := cond_t q32572 hc
                  refine sel_of (fun hc => ?_) (fun hc => ?_)
                  ·
                    have q32572 := cond_t q32572 hc
                    refine ev0 (rn_field rfl rfl FO24_1) ?_
                    refine ev (rn_load rfl rfl (run_loadVar1 T22 (a31742.2 1 _ rfl))) ?_
                    obtain ⟨x32573, q32574, q32572⟩ := bind_some q32572
                    refine ev_call rfl rfl C22 (((law26_has_ok n) _ _  x31732.E v31733 r31734 x32312 x32538 hp.imm _ q32574).mono ?_)
                    rintro _ w32575 ⟨rfl, hc⟩
                    have hs := hp.stp hc
                    replace hp := hp.ext hc
                    replace r31737 := r31737.step hs
                    replace a31742 := a31742.step hs
                    replace r31734 := r31734.step hs
                    replace r31768 := r31768.step hs
                    replace tb := tb.step hs
                    refine sel_of (fun hc => ?_) (fun hc => ?_)
                    ·
                      have q32572 := cond_t q32572 hc
                      obtain rfl := Option.some.inj q32572
                      exact ⟨true, (.c rfl (.c rfl (.c rfl (.c rfl (.c rfl (.c rfl (.c rfl .n))))))), rfl, hp, r31737, r31734, a31742, r31768, tb⟩
                    ·
                      have q32572 := cond_f q32572 hc
                      obtain ⟨x32576, q32577, q32572⟩ := bind_some q32572
                      refine ev_call rfl rfl C22 (((law26_has_ok n) _ _  x31762 v31767 r31768 x32312 x32538 hp.imm _ q32577).mono ?_)
                      rintro _ w32578 ⟨rfl, hc⟩
                      have hs := hp.stp hc
                      replace hp := hp.ext hc
                      replace r31737 := r31737.step hs
                      replace a31742 := a31742.step hs
                      replace r31734 := r31734.step hs
                      replace r31768 := r31768.step hs
                      replace tb := tb.step hs
                      obtain rfl := Option.some.inj q32572
                      exact ⟨x32576, (.c rfl (.c rfl (.c rfl (.c rfl (.c rfl (.c rfl (.c rfl .n))))))), rfl, hp, r31737, r31734, a31742, r31768, tb⟩
                  ·
                    have q32572 := cond_f q32572 hc
                    obtain rfl := Option.some.inj q32572
                    exact ⟨false, (.c rfl (.c rfl (.c rfl (.c rfl (.c rfl (.c rfl (.c rfl .n))))))), rfl, hp, r31737, r31734, a31742, r31768, tb⟩
                ·
                  have q32572 := cond_f q32572 hc
                  obtain rfl := Option.some.inj q32572
                  exact ⟨false, (.c rfl (.c rfl (.c rfl (.c rfl (.c rfl (.c rfl (.c rfl .n))))))), rfl, hp, r31737, r31734, a31742, r31768, tb⟩
              ·
                rintro x32569 w32570 ⟨hy, hp, r31737, r31734, a31742, r31768, tb⟩
                replace hy := hy.symm
                subst hy
                apply go
                apply go
                refine ev0 (rn_field rfl rfl FO24_0) ?_
                refine ev (rn_load rfl rfl (run_loadVar1 T3 (a31742.2 0 _ rfl))) ?_
                refine ev0 (rn_field rfl rfl FO24_1) ?_
                refine ev (rn_load rfl rfl (run_loadVar1 T22 (a31742.2 1 _ rfl))) ?_
                obtain ⟨x32579, q32580, q32561⟩ := bind_some q32561
                refine ev_call rfl rfl C21 (((ordering_Reaches_ok n) _ _ tb x31732.N x31732.E v31733 r31734 x31735 v31736 r31737 x32312 x32538 hp.imm _ q32580).mono ?_)
                rintro _ w32581 ⟨rfl, hc⟩
                have hs := hp.stp hc
                replace hp := hp.ext hc
                replace r31737 := r31737.step hs
                replace a31742 := a31742.step hs
                replace r31734 := r31734.step hs
                replace r31768 := r31768.step hs
                replace tb := tb.step hs
                refine ev0 (rn_neB rfl rfl rfl Tryd.underlying4) ?_
                apply go
                refine sel_of (fun hc => ?_) (fun hc => ?_)
                ·
                  have q32561 := cond_t q32561 hc
                  apply go
                  apply go
                  apply go
                  have q32582 := congrArg some (q32562 _ (Option.some.inj q32561).symm)
                  obtain rfl := Option.some.inj q32582
                  have q32583 := congrArg some (q32450 _ (Option.some.inj q32449).symm)
                  obtain rfl := Option.some.inj q32583
                  obtain rfl := Option.some.inj h
                  exact ⟨rfl, hp.ch⟩
                ·
                  have q32561 := cond_f q32561 hc
                  apply go
                  apply go
                  exact ⟨_, (Option.some.inj q32561).symm, (), (.c rfl (.c rfl (.c rfl (.c rfl (.c rfl (.c rfl .n)))))), ⟨hp, r31737, r31734, a31742, r31768, tb⟩⟩
            ·
              have q32561 := cond_f q32561 hc
              apply go
              have q32584 := congrArg some (q32562 _ (Option.some.inj q32561).symm)
              obtain rfl := Option.some.inj q32584
              exact ⟨(), (.c rfl (.c rfl (.c rfl (.c rfl (.c rfl .n))))), rfl, hp, r31737, r31734, a31742, r31768, tb⟩
          ·
            rintro ⟨⟩ w32516 ⟨hy, hp, r31737, r31734, a31742, r31768, tb⟩
            replace hy := hy.symm
            subst hy
            apply go
            exact ⟨_, (Option.some.inj q32449).symm, (), (.c rfl (.c rfl (.c rfl (.c rfl (.c rfl .n))))), ⟨hp, r31737, r31734, a31742, r31768, tb⟩⟩
        ·
          have q32449 := cond_f q32449 hc
          apply go
          have q32585 := congrArg some (q32450 _ (Option.some.inj q32449).symm)
          obtain rfl := Option.some.inj q32585
          exact ⟨(), .n, rfl, hp, tb⟩
      ·
        rintro ⟨⟩ w32176 ⟨hy, hp, tb⟩
        replace hy := hy.symm
        subst hy
        apply go
        apply go
        apply go
        obtain rfl := Option.some.inj h
        exact ⟨rfl, hp.ch⟩

end Go.Proofs.YtgmiencjoghnnaaDoor
