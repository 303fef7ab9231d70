/-
  Each function of the program computes the plain function of its name.
-/
import Derived.Test.YtcdboppghnchpaaDoorFactsA
namespace Go.Proofs.YtcdboppghnchpaaDoor
open Go Go.Proofs.YtcdboppghnchpaaDoor.Gw Go.RowKit
set_option linter.unusedVariables false
attribute [local irreducible] Ev EvQ EvS EvH
def heading_Valid_S (f : Vector → Option Bool) : Prop := ∀ (w0 : World) (I0 : Nat → Prop) (x316 : Vector) (hI : ∀ g, I0 g → g < w0.heap.size) (r : Bool), f x316 = some r →
    Ret Tryd.prog 64 #[(.agg #[(.int .i64 x316.X), (.int .i64 x316.Y), (.int .i64 x316.D)])] w0 fun v w1 => v = (.bool r) ∧ Ch [] w0 w1
theorem heading_Valid_ok (n : Nat) : heading_Valid_S (heading_Valid n) := by
  intro w0 I0 x316 hI r h
  unfold heading_Valid at h
  refine enter Tryd.func64 rfl (Nat.le_of_ble_eq_true rfl) ?_
  have hp : Hp ⟨w0, I0, []⟩ I0 [] w0 := Hp.start hI
  apply go
  apply go
  refine ev_boxI hp rfl rfl ?_
  intro p319 I320 w318 hp hs a321
  apply go
  obtain ⟨y323, q324, h⟩ := bind_some h
  refine W.cut (γ := Bool) (fun g => [(1, (.pointer (some (p319)))), (40, (.bool (g)))]) (fun g w' => y323 = (g) ∧ w318 = w') ?_ ?_
  ·
    apply go
    refine ev0 (rn_field rfl rfl FO34_2) ?_
    refine ev (rn_load rfl rfl (run_loadVar1 T3 (a321.2 2 _ rfl))) ?_
    refine sel_of (fun hc => ?_) (fun hc => ?_)
    ·
      have q324 := cond_t q324 hc
      obtain rfl := Option.some.inj q324
      exact ⟨true, (.c rfl (.c rfl .n)), rfl, rfl⟩
    ·
      have q324 := cond_f q324 hc
      refine ev0 (rn_field rfl rfl FO34_2) ?_
      refine ev (rn_load rfl rfl (run_loadVar1 T3 (a321.2 2 _ rfl))) ?_
      refine sel_of (fun hc => ?_) (fun hc => ?_)
      ·
        have q324 := cond_t q324 hc
        obtain rfl := Option.some.inj q324
        exact ⟨true, (.c rfl (.c rfl .n)), rfl, rfl⟩
      ·
        have q324 := cond_f q324 hc
        refine ev0 (rn_field rfl rfl FO34_0) ?_
        refine ev (rn_load rfl rfl (run_loadVar1 T3 (a321.2 0 _ rfl))) ?_
        refine ev0 (rn_field rfl rfl FO34_2) ?_
        refine ev (rn_load rfl rfl (run_loadVar1 T3 (a321.2 2 _ rfl))) ?_
        refine sel_of (fun hc => ?_) (fun hc => ?_)
        ·
          have q324 := cond_t q324 hc
          obtain rfl := Option.some.inj q324
          exact ⟨true, (.c rfl (.c rfl .n)), rfl, rfl⟩
        ·
          have q324 := cond_f q324 hc
          refine ev0 (rn_field rfl rfl FO34_0) ?_
          refine ev (rn_load rfl rfl (run_loadVar1 T3 (a321.2 0 _ rfl))) ?_
          refine ev0 (rn_field rfl rfl FO34_2) ?_
          refine ev (rn_load rfl rfl (run_loadVar1 T3 (a321.2 2 _ rfl))) ?_
          refine sel_of (fun hc => ?_) (fun hc => ?_)
          ·
            have q324 := cond_t q324 hc
            obtain rfl := Option.some.inj q324
            exact ⟨true, (.c rfl (.c rfl .n)), rfl, rfl⟩
          ·
            have q324 := cond_f q324 hc
            refine ev0 (rn_field rfl rfl FO34_1) ?_
            refine ev (rn_load rfl rfl (run_loadVar1 T3 (a321.2 1 _ rfl))) ?_
            refine ev0 (rn_field rfl rfl FO34_2) ?_
            refine ev (rn_load rfl rfl (run_loadVar1 T3 (a321.2 2 _ rfl))) ?_
            refine sel_of (fun hc => ?_) (fun hc => ?_)
            ·
              have q324 := cond_t q324 hc
              obtain rfl := Option.some.inj q324
              exact ⟨true, (.c rfl (.c rfl .n)), rfl, rfl⟩
            ·
              have q324 := cond_f q324 hc
              refine ev0 (rn_field rfl rfl FO34_1) ?_
              refine ev (rn_load rfl rfl (run_loadVar1 T3 (a321.2 1 _ rfl))) ?_
              refine ev0 (rn_field rfl rfl FO34_2) ?_
              refine ev (rn_load rfl rfl (run_loadVar1 T3 (a321.2 2 _ rfl))) ?_
              obtain rfl := Option.some.inj q324
              exact ⟨(decide (x316.Y > x316.D)), (.c rfl (.c rfl .n)), rfl, rfl⟩
  ·
    rintro x322 _ ⟨hy, rfl⟩
    replace hy := hy.symm
    subst hy
    apply go
    refine sel_of (fun hc => ?_) (fun hc => ?_)
    ·
      have h := cond_t h hc
      apply go
      apply go
      apply go
      obtain rfl := Option.some.inj h
      exact ⟨rfl, hp.ch⟩
    ·
      have h := cond_f h hc
      apply go
      apply go
      apply go
      refine ev0 (rn_field rfl rfl FO34_0) ?_
      refine ev (rn_load rfl rfl (run_loadVar1 T3 (a321.2 0 _ rfl))) ?_
      refine ev0 (rn_field rfl rfl FO34_0) ?_
      refine ev (rn_load rfl rfl (run_loadVar1 T3 (a321.2 0 _ rfl))) ?_
      refine ev0 (rn_field rfl rfl FO34_1) ?_
      refine ev (rn_load rfl rfl (run_loadVar1 T3 (a321.2 1 _ rfl))) ?_
      refine ev0 (rn_field rfl rfl FO34_1) ?_
      refine ev (rn_load rfl rfl (run_loadVar1 T3 (a321.2 1 _ rfl))) ?_
      refine ev0 (rn_field rfl rfl FO34_2) ?_
      refine ev (rn_load rfl rfl (run_loadVar1 T3 (a321.2 2 _ rfl))) ?_
      refine ev0 (rn_field rfl rfl FO34_2) ?_
      refine ev (rn_load rfl rfl (run_loadVar1 T3 (a321.2 2 _ rfl))) ?_
      apply go
      obtain rfl := Option.some.inj h
      exact ⟨rfl, hp.ch⟩

end Go.Proofs.YtcdboppghnchpaaDoor

namespace Go.Proofs.YtcdboppghnchpaaDoor
open Go Go.Proofs.YtcdboppghnchpaaDoor.Gw Go.RowKit
set_option linter.unusedVariables false
attribute [local irreducible] Ev EvQ EvS EvH
def heading_lowest_S (f : Int → Int → Int → Option Vector) : Prop := ∀ (w0 : World) (I0 : Nat → Prop) (x2 : Int) (x3 : Int) (x4 : Int) (hI : ∀ g, I0 g → g < w0.heap.size) (r : Vector), f x2 x3 x4 = some r →
    Ret Tryd.prog 65 #[(.int .i64 x2), (.int .i64 x3), (.int .i64 x4)] w0 fun v w1 => v = (.agg #[(.int .i64 r.X), (.int .i64 r.Y), (.int .i64 r.D)]) ∧ Ch [] w0 w1
theorem heading_lowest_ok (n : Nat) : heading_lowest_S (heading_lowest n) := by
  intro w0 I0 x2 x3 x4 hI r h
  unfold heading_lowest at h
  refine enter Tryd.func65 rfl (Nat.le_of_ble_eq_true rfl) ?_
  have hp : Hp ⟨w0, I0, []⟩ I0 [] w0 := Hp.start hI
  apply go
  apply go
  refine ev_alloc hp rfl T34 ?_
  intro g5 w6 hp hs
  apply go
  apply go
  obtain ⟨y133, q134, h⟩ := bind_some h
  refine W.cut (γ := Int) (fun g => [(0, (.int .i64 x2)), (1, (.int .i64 x3)), (2, (.int .i64 x4)), (6, (.pointer (some ⟨g5, 0, none⟩))), (7, (.int .i64 (g)))]) (fun g w' => y133 = (g) ∧ Hp ⟨w0, I0, []⟩ I0 [some (g5, [(.int .i64 0), (.int .i64 0), (.int .i64 0)], 34)] w') ?_ ?_
  ·
    apply go
    apply go
    refine ev0 (fun w => rn_buildA (cs := [(.int .i64 x2), (.int .i64 x3)]) rfl rfl T166 Tryd.underlying166 T3 rfl) ?_
    have r135 : (dA 2 (dI .i64)).rep w6 I0 [(.int .i64 x2), (.int .i64 x3)] [x2, x3] := ⟨rfl, rfl, (Elems.cons (d := (dI .i64)) (xs := _) rfl (Elems.cons (d := (dI .i64)) (xs := _) rfl (Elems.nil _ _ _ _)))⟩
    apply go
    refine W.loop q134 (γ := Unit) (fun s _ => [(0, (.int .i64 x2)), (1, (.int .i64 x3)), (2, (.int .i64 x4)), (6, (.pointer (some ⟨g5, 0, none⟩))), (7, (.int .i64 (s.1))), (13, (.agg [(.int .i64 x2), (.int .i64 x3)].toArray)), (14, (.int .i64 (s.2)))]) (fun s _ w' => Hp ⟨w0, I0, []⟩ I0 [some (g5, [(.int .i64 0), (.int .i64 0), (.int .i64 0)], 34)] w' ∧ (dA 2 (dI .i64)).rep w' I0 [(.int .i64 x2), (.int .i64 x3)] [x2, x3]) () (.c rfl (.c rfl (.c rfl (.c rfl (.c rfl (.c rfl (.c rfl .n))))))) ⟨hp, r135⟩ ?_
    rintro ⟨x174, x175⟩ ⟨⟩ w216 y217 ⟨hp, r135⟩ q218 q219
    unfold heading_lowest_L11 at q218
    apply go
    apply go
    apply go
    apply go
    refine sel_of (fun hc => ?_) (fun hc => ?_)
    ·
      have q218 := cond_t q218 hc
      apply go
      obtain ⟨y239, q240, q218⟩ := bind_some q218
      refine W.cut (γ := Int) (fun g => [(0, (.int .i64 x2)), (1, (.int .i64 x3)), (2, (.int .i64 x4)), (6, (.pointer (some ⟨g5, 0, none⟩))), (7, (.int .i64 (g))), (13, (.agg [(.int .i64 x2), (.int .i64 x3)].toArray)), (14, (.int .i64 x175))]) (fun g w' => y239 = (g) ∧ Hp ⟨w0, I0, []⟩ I0 [some (g5, [(.int .i64 0), (.int .i64 0), (.int .i64 0)], 34)] w' ∧ (dA 2 (dI .i64)).rep w' I0 [(.int .i64 x2), (.int .i64 x3)] [x2, x3]) ?_ ?_
      ·
        apply go
        apply go
        apply go
        obtain ⟨x241, q242, q240⟩ := bind_some q240
        refine ev0 (rn_indexV rfl rfl rfl Tryd.underlying166 T3 r135 q242 rfl (fun h => h)) ?_
        apply go
        apply go
        refine ev0 (rn_max rfl rfl rfl) ?_
        apply go
        refine W.loop q240 (γ := Unit) (fun s _ => [(0, (.int .i64 x2)), (1, (.int .i64 x3)), (2, (.int .i64 x4)), (6, (.pointer (some ⟨g5, 0, none⟩))), (7, (.int .i64 (s.1))), (9, (.int .i64 (s.2))), (13, (.agg [(.int .i64 x2), (.int .i64 x3)].toArray)), (14, (.int .i64 x175))]) (fun s _ w' => Hp ⟨w0, I0, []⟩ I0 [some (g5, [(.int .i64 0), (.int .i64 0), (.int .i64 0)], 34)] w' ∧ (dA 2 (dI .i64)).rep w' I0 [(.int .i64 x2), (.int .i64 x3)] [x2, x3]) () (.c rfl (.c rfl (.c rfl (.c rfl (.c rfl (.c rfl (.c rfl (.c rfl .n)))))))) ⟨hp, r135⟩ ?_
        rintro ⟨x245, x246⟩ ⟨⟩ w251 y252 ⟨hp, r135⟩ q253 q254
        unfold heading_lowest_L13 at q253
        apply go
        apply go
        apply go
        apply go
        refine sel_of (fun hc => ?_) (fun hc => ?_)
        ·
          have q253 := cond_t q253 hc
          apply go
          apply go
          refine W.quiet (fun w' => Ch [] w251 w') MX (by kernel_rfl) (Ch.drew [] w251) ?_
          obtain ⟨q255, _, q253⟩ := need_some q253
          refine ⟨q255, ?_⟩
          intro w256 hc
          have hs := hp.stp hc
          replace hp := hp.ext hc
          replace r135 := r135.step hs
          exact ⟨_, (Option.some.inj q253).symm, (), (.c rfl (.c rfl (.c rfl (.c rfl (.c rfl (.c rfl (.c rfl (.c rfl .n)))))))), ⟨hp, r135⟩⟩
        ·
          have q253 := cond_f q253 hc
          apply go
          have q257 := congrArg some (q254 _ (Option.some.inj q253).symm)
          obtain rfl := Option.some.inj q257
          exact ⟨x245, (.c rfl (.c rfl (.c rfl (.c rfl (.c rfl (.c rfl (.c rfl .n))))))), rfl, hp, r135⟩
      ·
        rintro x237 w238 ⟨hy, hp, r135⟩
        replace hy := hy.symm
        subst hy
        apply go
        exact ⟨_, (Option.some.inj q218).symm, (), (.c rfl (.c rfl (.c rfl (.c rfl (.c rfl (.c rfl (.c rfl .n))))))), ⟨hp, r135⟩⟩
    ·
      have q218 := cond_f q218 hc
      apply go
      have q258 := congrArg some (q219 _ (Option.some.inj q218).symm)
      obtain rfl := Option.some.inj q258
      exact ⟨x174, (.c rfl (.c rfl (.c rfl (.c rfl (.c rfl .n))))), rfl, hp⟩
  ·
    rintro x131 w132 ⟨hy, hp⟩
    replace hy := hy.symm
    subst hy
    apply go
    have hs := hp.stp (Ch.drew [] w132)
    have hp := hp.drew
    refine W.tail 10 MX (by kernel_rfl) ?_
    obtain ⟨q260, _, h⟩ := need_some h
    refine ⟨q260, ?_⟩
    obtain ⟨q261, _, h⟩ := need_some h
    refine ⟨q261, ?_⟩
    obtain ⟨q262, _, h⟩ := need_some h
    refine ⟨q262, ?_⟩
    refine evs0 (fun w => rn_build (cs := [(.int .i64 (IntKind.i64.wrap (x2.tdiv x131))), (.int .i64 (IntKind.i64.wrap (x3.tdiv x131))), (.int .i64 (IntKind.i64.wrap (x4.tdiv x131)))]) rfl rfl T34 PL34 rfl) ?_
    refine ev_storeA hp (i := 0) (off := 0) (vs := [(.int .i64 (IntKind.i64.wrap (x2.tdiv x131))), (.int .i64 (IntKind.i64.wrap (x3.tdiv x131))), (.int .i64 (IntKind.i64.wrap (x4.tdiv x131)))]) rfl rfl rfl rfl T34 rfl (Nat.le_of_ble_eq_true rfl) (ones_of rfl) ?_
    intro w263 hp hs
    apply go
    obtain rfl := Option.some.inj h
    refine ⟨_, run_loadVarA T34 rfl (hp.at_ (i := 0) rfl), ?_⟩
    exact ⟨rfl, hp.ch⟩

end Go.Proofs.YtcdboppghnchpaaDoor

namespace Go.Proofs.YtcdboppghnchpaaDoor
open Go Go.Proofs.YtcdboppghnchpaaDoor.Gw Go.RowKit
set_option linter.unusedVariables false
attribute [local irreducible] Ev EvQ EvS EvH
def heading_Turn_S (f : Vector → Vector → Option (Vector × Int)) : Prop := ∀ (w0 : World) (I0 : Nat → Prop) (x325 : Vector) (x326 : Vector) (hI : ∀ g, I0 g → g < w0.heap.size) (r : (Vector × Int)), f x325 x326 = some r →
    Ret Tryd.prog 30 #[(.agg #[(.int .i64 x325.X), (.int .i64 x325.Y), (.int .i64 x325.D)]), (.agg #[(.int .i64 x326.X), (.int .i64 x326.Y), (.int .i64 x326.D)])] w0 fun v w1 => v = (.tuple #[(.agg #[(.int .i64 r.1.X), (.int .i64 r.1.Y), (.int .i64 r.1.D)]), (.int .i64 r.2)]) ∧ Ch [] w0 w1
theorem heading_Turn_ok (n : Nat) : heading_Turn_S (heading_Turn n) := by
  intro w0 I0 x325 x326 hI r h
  unfold heading_Turn at h
  refine enter Tryd.func30 rfl (Nat.le_of_ble_eq_true rfl) ?_
  have hp : Hp ⟨w0, I0, []⟩ I0 [] w0 := Hp.start hI
  apply go
  apply go
  refine ev_boxI hp rfl rfl ?_
  intro p329 I330 w328 hp hs a331
  refine ev_boxI hp rfl rfl ?_
  intro p334 I335 w333 hp hs a336
  replace a331 := a331.step hs
  refine ev_alloc hp rfl T34 ?_
  intro g337 w338 hp hs
  replace a331 := a331.step hs
  replace a336 := a336.step hs
  apply go
  obtain ⟨y347, q348, h⟩ := bind_some h
  refine W.cut (γ := Bool) (fun g => [(2, (.pointer (some (p329)))), (3, (.pointer (some (p334)))), (4, (.pointer (some ⟨g337, 0, none⟩))), (14, (.bool (g)))]) (fun g w' => y347 = (g) ∧ Hp ⟨w0, I0, []⟩ I335 [some (g337, [(.int .i64 0), (.int .i64 0), (.int .i64 0)], 34)] w' ∧ At w' I335 p329 [(.int .i64 x325.X), (.int .i64 x325.Y), (.int .i64 x325.D)] ∧ At w' I335 p334 [(.int .i64 x326.X), (.int .i64 x326.Y), (.int .i64 x326.D)]) ?_ ?_
  ·
    apply go
    refine ev (rn_load rfl rfl (run_loadVarA T34 rfl a331)) ?_
    obtain ⟨x349, q350, q348⟩ := bind_some q348
    refine ev_call rfl rfl C64 (((heading_Valid_ok n) _ _  (Vector.mk x325.X x325.Y x325.D) hp.imm _ q350).mono ?_)
    rintro _ w351 ⟨rfl, hc⟩
    have hs := hp.stp hc
    replace hp := hp.ext hc
    replace a331 := a331.step hs
    replace a336 := a336.step hs
    refine sel_of (fun hc => ?_) (fun hc => ?_)
    ·
      have q348 := cond_t q348 hc
      obtain rfl := Option.some.inj q348
      exact ⟨true, (.c rfl (.c rfl (.c rfl (.c rfl .n)))), rfl, hp, a331, a336⟩
    ·
      have q348 := cond_f q348 hc
      refine ev (rn_load rfl rfl (run_loadVarA T34 rfl a336)) ?_
      obtain ⟨x352, q353, q348⟩ := bind_some q348
      refine ev_call rfl rfl C64 (((heading_Valid_ok n) _ _  (Vector.mk x326.X x326.Y x326.D) hp.imm _ q353).mono ?_)
      rintro _ w354 ⟨rfl, hc⟩
      have hs := hp.stp hc
      replace hp := hp.ext hc
      replace a331 := a331.step hs
      replace a336 := a336.step hs
      obtain rfl := Option.some.inj q348
      exact ⟨(!x352), (.c rfl (.c rfl (.c rfl (.c rfl .n)))), rfl, hp, a331, a336⟩
  ·
    rintro x345 w346 ⟨hy, hp, a331, a336⟩
    replace hy := hy.symm
    subst hy
    apply go
    refine sel_of (fun hc => ?_) (fun hc => ?_)
    ·
      have h := cond_t h hc
      apply go
      apply go
      refine ev0 (fun w => rn_build (cs := [(.int .i64 0), (.int .i64 0), (.int .i64 0)]) rfl rfl T34 PL34 rfl) ?_
      refine ev_storeA hp (i := 0) (off := 0) (vs := [(.int .i64 0), (.int .i64 0), (.int .i64 0)]) rfl rfl rfl rfl T34 rfl (Nat.le_of_ble_eq_true rfl) (ones_of rfl) ?_
      intro w355 hp hs
      apply go
      obtain rfl := Option.some.inj h
      refine ⟨_, run_loadVarA T34 rfl (hp.at_ (i := 0) rfl), ?_⟩
      exact ⟨rfl, hp.ch⟩
    ·
      have h := cond_f h hc
      apply go
      apply go
      apply go
      refine ev0 (rn_field rfl rfl FO34_0) ?_
      refine ev (rn_load rfl rfl (run_loadVar1 T3 (a331.2 0 _ rfl))) ?_
      refine ev0 (rn_field rfl rfl FO34_0) ?_
      refine ev (rn_load rfl rfl (run_loadVar1 T3 (a336.2 0 _ rfl))) ?_
      refine ev0 (rn_field rfl rfl FO34_1) ?_
      refine ev (rn_load rfl rfl (run_loadVar1 T3 (a331.2 1 _ rfl))) ?_
      refine ev0 (rn_field rfl rfl FO34_1) ?_
      refine ev (rn_load rfl rfl (run_loadVar1 T3 (a336.2 1 _ rfl))) ?_
      refine ev0 (rn_field rfl rfl FO34_0) ?_
      refine ev (rn_load rfl rfl (run_loadVar1 T3 (a331.2 0 _ rfl))) ?_
      refine ev0 (rn_field rfl rfl FO34_1) ?_
      refine ev (rn_load rfl rfl (run_loadVar1 T3 (a336.2 1 _ rfl))) ?_
      refine ev0 (rn_field rfl rfl FO34_1) ?_
      refine ev (rn_load rfl rfl (run_loadVar1 T3 (a331.2 1 _ rfl))) ?_
      refine ev0 (rn_field rfl rfl FO34_0) ?_
      refine ev (rn_load rfl rfl (run_loadVar1 T3 (a336.2 0 _ rfl))) ?_
      refine ev0 (rn_field rfl rfl FO34_2) ?_
      refine ev (rn_load rfl rfl (run_loadVar1 T3 (a331.2 2 _ rfl))) ?_
      refine ev0 (rn_field rfl rfl FO34_2) ?_
      refine ev (rn_load rfl rfl (run_loadVar1 T3 (a336.2 2 _ rfl))) ?_
      obtain ⟨x356, q357, h⟩ := bind_some h
      refine ev_call rfl rfl C65 (((heading_lowest_ok n) _ _  (IntKind.i64.wrap ((IntKind.i64.wrap (x325.X * x326.X)) - (IntKind.i64.wrap (x325.Y * x326.Y)))) (IntKind.i64.wrap ((IntKind.i64.wrap (x325.X * x326.Y)) + (IntKind.i64.wrap (x325.Y * x326.X)))) (IntKind.i64.wrap (x325.D * x326.D)) hp.imm _ q357).mono ?_)
      rintro _ w358 ⟨rfl, hc⟩
      have hs := hp.stp hc
      replace hp := hp.ext hc
      refine ev_alloc hp rfl T34 ?_
      intro g359 w360 hp hs
      refine ev_storeA hp (i := 0) (off := 0) (vs := [(.int .i64 x356.X), (.int .i64 x356.Y), (.int .i64 x356.D)]) rfl rfl rfl rfl T34 rfl (Nat.le_of_ble_eq_true rfl) (ones_of rfl) ?_
      intro w361 hp hs
      apply go
      apply go
      apply go
      refine ev0 (rn_field rfl rfl FO34_2) ?_
      refine ev (rn_load rfl rfl (run_loadVar1 T3 (hp.cell (i := 0) (off := 2) rfl rfl))) ?_
      apply go
      refine sel_of (fun hc => ?_) (fun hc => ?_)
      ·
        have h := cond_t h hc
        apply go
        apply go
        refine ev0 (fun w => rn_build (cs := [(.int .i64 0), (.int .i64 0), (.int .i64 0)]) rfl rfl T34 PL34 rfl) ?_
        refine ev_storeA hp (i := 1) (off := 0) (vs := [(.int .i64 0), (.int .i64 0), (.int .i64 0)]) rfl rfl rfl rfl T34 rfl (Nat.le_of_ble_eq_true rfl) (ones_of rfl) ?_
        intro w362 hp hs
        apply go
        obtain rfl := Option.some.inj h
        refine ⟨_, run_loadVarA T34 rfl (hp.at_ (i := 1) rfl), ?_⟩
        exact ⟨rfl, hp.ch⟩
      ·
        have h := cond_f h hc
        apply go
        apply go
        apply go
        refine ev (rn_load rfl rfl (run_loadVarA T34 rfl (hp.at_ (i := 0) rfl))) ?_
        refine ev_storeA hp (i := 1) (off := 0) (vs := [(.int .i64 x356.X), (.int .i64 x356.Y), (.int .i64 x356.D)]) rfl rfl rfl rfl T34 rfl (Nat.le_of_ble_eq_true rfl) (ones_of rfl) ?_
        intro w363 hp hs
        apply go
        obtain rfl := Option.some.inj h
        refine ⟨_, run_loadVarA T34 rfl (hp.at_ (i := 1) rfl), ?_⟩
        exact ⟨rfl, hp.ch⟩

end Go.Proofs.YtcdboppghnchpaaDoor

namespace Go.Proofs.YtcdboppghnchpaaDoor
open Go Go.Proofs.YtcdboppghnchpaaDoor.Gw Go.RowKit
set_option linter.unusedVariables false
attribute [local irreducible] Ev EvQ EvS EvH
def heading_mark_S (f : Int → Option Int) : Prop := ∀ (w0 : World) (I0 : Nat → Prop) (x1 : Int) (hI : ∀ g, I0 g → g < w0.heap.size) (r : Int), f x1 = some r →
    Ret Tryd.prog 66 #[(.int .i64 x1)] w0 fun v w1 => v = (.int .i64 r) ∧ Ch [] w0 w1
theorem heading_mark_ok (n : Nat) : heading_mark_S (heading_mark n) := by
  intro w0 I0 x1 hI r h
  unfold heading_mark at h
  refine enter Tryd.func66 rfl (Nat.le_of_ble_eq_true rfl) ?_
  have hp : Hp ⟨w0, I0, []⟩ I0 [] w0 := Hp.start hI
  apply go
  apply go
  apply go
  apply go
  apply go
  obtain rfl := Option.some.inj h
  exact ⟨rfl, hp.ch⟩

end Go.Proofs.YtcdboppghnchpaaDoor

namespace Go.Proofs.YtcdboppghnchpaaDoor
open Go Go.Proofs.YtcdboppghnchpaaDoor.Gw Go.RowKit
set_option linter.unusedVariables false
attribute [local irreducible] Ev EvQ EvS EvH
def heading_Dir_S (f : Int → Option Vector) : Prop := ∀ (w0 : World) (I0 : Nat → Prop) (x264 : Int) (hI : ∀ g, I0 g → g < w0.heap.size) (r : Vector), f x264 = some r →
    Ret Tryd.prog 31 #[(.int .i64 x264)] w0 fun v w1 => v = (.agg #[(.int .i64 r.X), (.int .i64 r.Y), (.int .i64 r.D)]) ∧ Ch [] w0 w1
theorem heading_Dir_ok (n : Nat) : heading_Dir_S (heading_Dir n) := by
  intro w0 I0 x264 hI r h
  unfold heading_Dir at h
  refine enter Tryd.func31 rfl (Nat.le_of_ble_eq_true rfl) ?_
  have hp : Hp ⟨w0, I0, []⟩ I0 [] w0 := Hp.start hI
  apply go
  apply go
  refine ev_alloc hp rfl T34 ?_
  intro g265 w266 hp hs
  apply go
  apply go
  obtain ⟨x267, q268, h⟩ := bind_some h
  refine ev_call rfl rfl C66 (((heading_mark_ok n) _ _  x264 hp.imm _ q268).mono ?_)
  rintro _ w269 ⟨rfl, hc⟩
  have hs := hp.stp hc
  replace hp := hp.ext hc
  apply go
  apply go
  refine ⟨by decide, ?_⟩
  apply go
  apply go
  obtain ⟨x270, q271, h⟩ := bind_some h
  refine ev_call rfl rfl C65 (((heading_lowest_ok n) _ _  (IntKind.i64.wrap (4096 - (IntKind.i64.wrap ((x267.tmod 64) * (x267.tmod 64))))) (IntKind.i64.wrap (128 * (x267.tmod 64))) (IntKind.i64.wrap (4096 + (IntKind.i64.wrap ((x267.tmod 64) * (x267.tmod 64))))) hp.imm _ q271).mono ?_)
  rintro _ w272 ⟨rfl, hc⟩
  have hs := hp.stp hc
  replace hp := hp.ext hc
  refine ev_alloc hp rfl T34 ?_
  intro g273 w274 hp hs
  refine ev_storeA hp (i := 0) (off := 0) (vs := [(.int .i64 x270.X), (.int .i64 x270.Y), (.int .i64 x270.D)]) rfl rfl rfl rfl T34 rfl (Nat.le_of_ble_eq_true rfl) (ones_of rfl) ?_
  intro w275 hp hs
  obtain ⟨y296, q297, h⟩ := bind_some h
  refine W.cut (γ := (Int × Int)) (fun g => [(2, (.pointer (some ⟨g265, 0, none⟩))), (4, (.pointer (some ⟨g273, 0, none⟩)))]) (fun g w' => y296 = ((g.1), (g.2)) ∧ Hp ⟨w0, I0, []⟩ I0 [some (g265, [(.int .i64 0), (.int .i64 0), (.int .i64 0)], 34), some (g273, [(.int .i64 (g.1)), (.int .i64 (g.2)), (.int .i64 x270.D)], 34)] w') ?_ ?_
  ·
    apply go
    apply go
    refine ⟨by decide, ?_⟩
    apply go
    have hp := hp.perm [1, 0] (by decide)
    refine W.loop q297 (γ := Unit) (fun s _ => [(2, (.pointer (some ⟨g265, 0, none⟩))), (4, (.pointer (some ⟨g273, 0, none⟩))), (21, (.int .i64 (IntKind.i64.wrap (x267.tdiv 64)))), (22, (.int .i64 (s.2.2)))]) (fun s _ w' => Hp ⟨w0, I0, []⟩ I0 [some (g265, [(.int .i64 0), (.int .i64 0), (.int .i64 0)], 34), some (g273, [(.int .i64 (s.1)), (.int .i64 (s.2.1)), (.int .i64 x270.D)], 34)] w') () (.c rfl (.c rfl (.c rfl (.c rfl .n)))) hp ?_
    rintro ⟨x300, x301, x302⟩ ⟨⟩ w308 y309 hp q310 q311
    unfold heading_Dir_L1 at q310
    apply go
    apply go
    apply go
    apply go
    refine sel_of (fun hc => ?_) (fun hc => ?_)
    ·
      have q310 := cond_t q310 hc
      apply go
      apply go
      apply go
      apply go
      refine ev0 (rn_field rfl rfl FO34_1) ?_
      refine ev (rn_load rfl rfl (run_loadVar1 T3 (hp.cell (i := 1) (off := 1) rfl rfl))) ?_
      refine ev0 (rn_field rfl rfl FO34_0) ?_
      refine ev (rn_load rfl rfl (run_loadVar1 T3 (hp.cell (i := 1) (off := 0) rfl rfl))) ?_
      refine ev0 (rn_field rfl rfl FO34_0) ?_
      refine ev_store1 hp (i := 1) (off := 0) rfl rfl rfl rfl T3 rfl (Nat.le_of_ble_eq_true rfl) ?_
      intro w312 hp hs
      refine ev0 (rn_field rfl rfl FO34_1) ?_
      refine ev_store1 hp (i := 1) (off := 1) rfl rfl rfl rfl T3 rfl (Nat.le_of_ble_eq_true rfl) ?_
      intro w313 hp hs
      apply go
      exact ⟨_, (Option.some.inj q310).symm, (), (.c rfl (.c rfl (.c rfl (.c rfl .n)))), hp⟩
    ·
      have q310 := cond_f q310 hc
      apply go
      have q314 := congrArg some (q311 _ (Option.some.inj q310).symm)
      obtain rfl := Option.some.inj q314
      exact ⟨(x300, x301), (.c rfl (.c rfl .n)), rfl, hp⟩
  ·
    rintro ⟨x293, x294⟩ w295 ⟨hy, hp⟩
    replace hy := hy.symm
    subst hy
    apply go
    apply go
    refine ev (rn_load rfl rfl (run_loadVarA T34 rfl (hp.at_ (i := 1) rfl))) ?_
    refine ev_storeA hp (i := 0) (off := 0) (vs := [(.int .i64 x293), (.int .i64 x294), (.int .i64 x270.D)]) rfl rfl rfl rfl T34 rfl (Nat.le_of_ble_eq_true rfl) (ones_of rfl) ?_
    intro w315 hp hs
    apply go
    obtain rfl := Option.some.inj h
    refine ⟨_, run_loadVarA T34 rfl (hp.at_ (i := 0) rfl), ?_⟩
    exact ⟨rfl, hp.ch⟩

end Go.Proofs.YtcdboppghnchpaaDoor

namespace Go.Proofs.YtcdboppghnchpaaDoor
open Go Go.Proofs.YtcdboppghnchpaaDoor.Gw Go.RowKit
set_option linter.unusedVariables false
attribute [local irreducible] Ev EvQ EvS EvH
def heading_Beam_S (f : Int → Int → Option Vector) : Prop := ∀ (w0 : World) (I0 : Nat → Prop) (x364 : Int) (x365 : Int) (hI : ∀ g, I0 g → g < w0.heap.size) (r : Vector), f x364 x365 = some r →
    Ret Tryd.prog 9 #[(.int .i64 x364), (.int .i64 x365)] w0 fun v w1 => v = (.agg #[(.int .i64 r.X), (.int .i64 r.Y), (.int .i64 r.D)]) ∧ Ch [] w0 w1
theorem heading_Beam_ok (n : Nat) : heading_Beam_S (heading_Beam n) := by
  intro w0 I0 x364 x365 hI r h
  unfold heading_Beam at h
  refine enter Tryd.func9 rfl (Nat.le_of_ble_eq_true rfl) ?_
  have hp : Hp ⟨w0, I0, []⟩ I0 [] w0 := Hp.start hI
  apply go
  apply go
  refine ev_alloc hp rfl T34 ?_
  intro g366 w367 hp hs
  apply go
  apply go
  obtain ⟨x368, q369, h⟩ := bind_some h
  refine ev_call rfl rfl C31 (((heading_Dir_ok n) _ _  x364 hp.imm _ q369).mono ?_)
  rintro _ w370 ⟨rfl, hc⟩
  have hs := hp.stp hc
  replace hp := hp.ext hc
  obtain ⟨x371, q372, h⟩ := bind_some h
  refine ev_call rfl rfl C31 (((heading_Dir_ok n) _ _  x365 hp.imm _ q372).mono ?_)
  rintro _ w373 ⟨rfl, hc⟩
  have hs := hp.stp hc
  replace hp := hp.ext hc
  obtain ⟨⟨x374, x375⟩, q376, h⟩ := bind_some h
  refine ev_call rfl rfl C30 (((heading_Turn_ok n) _ _  x368 x371 hp.imm _ q376).mono ?_)
  rintro _ w377 ⟨rfl, hc⟩
  have hs := hp.stp hc
  replace hp := hp.ext hc
  refine ev_alloc hp rfl T34 ?_
  intro g378 w379 hp hs
  refine ev_storeA hp (i := 0) (off := 0) (vs := [(.int .i64 x374.X), (.int .i64 x374.Y), (.int .i64 x374.D)]) rfl rfl rfl rfl T34 rfl (Nat.le_of_ble_eq_true rfl) (ones_of rfl) ?_
  intro w380 hp hs
  apply go
  apply go
  refine ev (rn_load rfl rfl (run_loadVarA T34 rfl (hp.at_ (i := 0) rfl))) ?_
  refine ev_storeA hp (i := 1) (off := 0) (vs := [(.int .i64 x374.X), (.int .i64 x374.Y), (.int .i64 x374.D)]) rfl rfl rfl rfl T34 rfl (Nat.le_of_ble_eq_true rfl) (ones_of rfl) ?_
  intro w381 hp hs
  apply go
  obtain rfl := Option.some.inj h
  refine ⟨_, run_loadVarA T34 rfl (hp.at_ (i := 1) rfl), ?_⟩
  exact ⟨rfl, hp.ch⟩

end Go.Proofs.YtcdboppghnchpaaDoor

namespace Go.Proofs.YtcdboppghnchpaaDoor
open Go Go.Proofs.YtcdboppghnchpaaDoor.Gw Go.RowKit
set_option linter.unusedVariables false
attribute [local irreducible] Ev EvQ EvS EvH
def integer_trim_S (f : (List Int) → Option (List Int)) : Prop := ∀ (w0 : World) (I0 : Nat → Prop) (x382 : (List Int)) (v383 : Value) (r384 : RepS (dI .u32) w0 I0 v383 x382) (hI : ∀ g, I0 g → g < w0.heap.size) (r : (List Int)), f x382 = some r →
    Ret Tryd.prog 67 #[v383] w0 fun v w1 => ∃ (I1 : Nat → Prop) (u385 : Value), v = u385 ∧ Hp ⟨w0, I0, []⟩ I1 [] w1 ∧ RepS (dI .u32) w1 I1 u385 r
theorem integer_trim_ok (n : Nat) : integer_trim_S (integer_trim n) := by
  intro w0 I0 x382 v383 r384 hI r h
  unfold integer_trim at h
  refine enter Tryd.func67 rfl (Nat.le_of_ble_eq_true rfl) ?_
  have hp : Hp ⟨w0, I0, []⟩ I0 [] w0 := Hp.start hI
  apply go
  apply go
  obtain ⟨y456, q457, h⟩ := bind_some h
  refine W.cut (γ := ((List Int) × Value)) (fun g => [(0, (g.2))]) (fun g w' => y456 = (g.1) ∧ w0 = w' ∧ RepS (dI .u32) w' I0 (g.2) (g.1)) ?_ ?_
  ·
    apply go
    refine W.loop q457 (γ := Value) (fun s g => [(0, (g))]) (fun s g w' => w0 = w' ∧ RepS (dI .u32) w' I0 (g) (s)) v383 (.c rfl .n) ⟨rfl, r384⟩ ?_
    rintro x477 v478 _ y502 ⟨rfl, r479⟩ q503 q504
    unfold integer_trim_L1 at q503
    apply go
    obtain ⟨y512, q513, q503⟩ := bind_some q503
    refine W.cut (γ := Bool) (fun g => [(0, v478), (14, (.bool (g)))]) (fun g w' => y512 = (g) ∧ w0 = w') ?_ ?_
    ·
      apply go
      refine ev0 (rn_len rfl rfl Tryd.underlying27 r479) ?_
      refine sel_of (fun hc => ?_) (fun hc => ?_)
      ·
        have q513 := cond_t q513 hc
        refine ev0 (rn_len rfl rfl Tryd.underlying27 r479) ?_
        obtain ⟨x514, q515, q513⟩ := bind_some q513
        refine ev_index rfl rfl rfl Tryd.underlying27 T131 r479 q515 ?_
        intro p516 c517 d518 a519
        obtain rfl : c517 = [(.int .u32 x514)] := d518
        refine ev (rn_load rfl rfl (run_loadVar1 T131 (a519.2 0 _ rfl))) ?_
        obtain rfl := Option.some.inj q513
        exact ⟨(x514 == 0), (.c rfl (.c rfl .n)), rfl, rfl⟩
      ·
        have q513 := cond_f q513 hc
        obtain rfl := Option.some.inj q513
        exact ⟨false, (.c rfl (.c rfl .n)), rfl, rfl⟩
    ·
      rintro x511 _ ⟨hy, rfl⟩
      replace hy := hy.symm
      subst hy
      apply go
      refine sel_of (fun hc => ?_) (fun hc => ?_)
      ·
        have q503 := cond_t q503 hc
        apply go
        apply go
        apply go
        refine ev0 (rn_len rfl rfl Tryd.underlying27 r479) ?_
        obtain ⟨x520, q521, q503⟩ := bind_some q503
        refine ev_slice (kl := .i64) (kh := .i64) rfl rfl rfl rfl Tryd.underlying27 T131 r479 q521 ?_
        intro v522 r523
        exact ⟨_, (Option.some.inj q503).symm, v522, (.c rfl .n), ⟨rfl, r523⟩⟩
      ·
        have q503 := cond_f q503 hc
        apply go
        have q524 := congrArg some (q504 _ (Option.some.inj q503).symm)
        obtain rfl := Option.some.inj q524
        exact ⟨(x477, v478), (.c rfl .n), rfl, rfl, r479⟩
  ·
    rintro ⟨x453, v454⟩ _ ⟨hy, rfl, r455⟩
    replace hy := hy.symm
    subst hy
    apply go
    apply go
    apply go
    obtain rfl := Option.some.inj h
    exact ⟨I0, v454, rfl, hp, r455⟩

end Go.Proofs.YtcdboppghnchpaaDoor

namespace Go.Proofs.YtcdboppghnchpaaDoor
open Go Go.Proofs.YtcdboppghnchpaaDoor.Gw Go.RowKit
set_option linter.unusedVariables false
attribute [local irreducible] Ev EvQ EvS EvH
def integer_made_S (f : Bool → (List Int) → Option Int_2) : Prop := ∀ (w0 : World) (I0 : Nat → Prop) (x525 : Bool) (x526 : (List Int)) (v527 : Value) (r528 : RepS (dI .u32) w0 I0 v527 x526) (hI : ∀ g, I0 g → g < w0.heap.size) (r : Int_2), f x525 x526 = some r →
    Ret Tryd.prog 63 #[(.bool x525), v527] w0 fun v w1 => ∃ (I1 : Nat → Prop) (u529 : Value), v = (.agg #[(.bool r.Neg), u529]) ∧ Hp ⟨w0, I0, []⟩ I1 [] w1 ∧ RepS (dI .u32) w1 I1 u529 r.Mag
theorem integer_made_ok (n : Nat) : integer_made_S (integer_made n) := by
  intro w0 I0 x525 x526 v527 r528 hI r h
  unfold integer_made at h
  refine enter Tryd.func63 rfl (Nat.le_of_ble_eq_true rfl) ?_
  have hp : Hp ⟨w0, I0, []⟩ I0 [] w0 := Hp.start hI
  apply go
  apply go
  refine ev_alloc hp rfl T29 ?_
  intro g530 w531 hp hs
  replace r528 := r528.step hs
  apply go
  apply go
  obtain ⟨x532, q533, h⟩ := bind_some h
  refine ev_call rfl rfl C67 (((integer_trim_ok n) _ _  x526 v527 r528 hp.imm _ q533).mono ?_)
  rintro _ w534 ⟨I535, v536, hv, hq, r537⟩
  replace hv := hv.symm
  subst hv
  have hs := hq.st
  have hp := hp.join0 hq
  apply go
  apply go
  apply go
  refine ev0 (rn_len rfl rfl Tryd.underlying27 r537) ?_
  apply go
  refine sel_of (fun hc => ?_) (fun hc => ?_)
  ·
    have h := cond_t h hc
    apply go
    apply go
    refine ev0 (fun w => rn_build (cs := [(.bool false), (.slice none 0 0)]) rfl rfl T29 PL29 rfl) ?_
    refine ev_storeA hp (i := 0) (off := 0) (vs := [(.bool false), (.slice none 0 0)]) rfl rfl rfl rfl T29 rfl (Nat.le_of_ble_eq_true rfl) (ones_of rfl) ?_
    intro w538 hp hs
    apply go
    obtain rfl := Option.some.inj h
    refine ⟨_, run_loadVarA T29 rfl (hp.at_ (i := 0) rfl), ?_⟩
    have hp := hp.sel [] (by decide)
    exact ⟨I535, .slice none 0 0, rfl, hp, RepS.nil _ _ _⟩
  ·
    have h := cond_f h hc
    apply go
    apply go
    apply go
    obtain ⟨A539, m540, m541, rfl⟩ := r537.isSl
    refine ev0 (fun w => rn_build (cs := [(.bool x525), (.slice A539 m540 m541)]) rfl rfl T29 PL29 rfl) ?_
    refine ev_storeA hp (i := 0) (off := 0) (vs := [(.bool x525), (.slice A539 m540 m541)]) rfl rfl rfl rfl T29 rfl (Nat.le_of_ble_eq_true rfl) (ones_cons rfl (ones_cons r537.one ones_nil)) ?_
    intro w543 hp hs
    replace r537 := r537.step hs
    apply go
    obtain rfl := Option.some.inj h
    refine ⟨_, run_loadVarA T29 rfl (hp.at_ (i := 0) rfl), ?_⟩
    have hp := hp.sel [] (by decide)
    exact ⟨I535, (.slice A539 m540 m541), rfl, hp, r537⟩

end Go.Proofs.YtcdboppghnchpaaDoor

namespace Go.Proofs.YtcdboppghnchpaaDoor
open Go Go.Proofs.YtcdboppghnchpaaDoor.Gw Go.RowKit
set_option linter.unusedVariables false
attribute [local irreducible] Ev EvQ EvS EvH
def integer_Of_S (f : Int → Option Int_2) : Prop := ∀ (w0 : World) (I0 : Nat → Prop) (x544 : Int) (hI : ∀ g, I0 g → g < w0.heap.size) (r : Int_2), f x544 = some r →
    Ret Tryd.prog 29 #[(.int .i64 x544)] w0 fun v w1 => ∃ (I1 : Nat → Prop) (u545 : Value), v = (.agg #[(.bool r.Neg), u545]) ∧ Hp ⟨w0, I0, []⟩ I1 [] w1 ∧ RepS (dI .u32) w1 I1 u545 r.Mag
theorem integer_Of_ok (n : Nat) : integer_Of_S (integer_Of n) := by
  intro w0 I0 x544 hI r h
  unfold integer_Of at h
  refine enter Tryd.func29 rfl (Nat.le_of_ble_eq_true rfl) ?_
  have hp : Hp ⟨w0, I0, []⟩ I0 [] w0 := Hp.start hI
  apply go
  apply go
  refine ev_alloc hp rfl T29 ?_
  intro g546 w547 hp hs
  apply go
  apply go
  refine ev0 (rn_conv rfl rfl U3 Tryd.underlying129) ?_
  obtain ⟨y549, q550, h⟩ := bind_some h
  refine W.cut (γ := Int) (fun g => [(0, (.int .i64 x544)), (2, (.pointer (some ⟨g546, 0, none⟩))), (3, (.int .u64 (g)))]) (fun g w' => y549 = (g) ∧ w547 = w') ?_ ?_
  ·
    apply go
    apply go
    apply go
    refine sel_of (fun hc => ?_) (fun hc => ?_)
    ·
      have q550 := cond_t q550 hc
      apply go
      obtain rfl := Option.some.inj q550
      exact ⟨(IntKind.u64.wrap (0 - (IntKind.u64.wrap x544))), (.c rfl (.c rfl (.c rfl .n))), rfl, rfl⟩
    ·
      have q550 := cond_f q550 hc
      apply go
      obtain rfl := Option.some.inj q550
      exact ⟨(IntKind.u64.wrap x544), (.c rfl (.c rfl (.c rfl .n))), rfl, rfl⟩
  ·
    rintro x548 _ ⟨hy, rfl⟩
    replace hy := hy.symm
    subst hy
    apply go
    apply go
    refine ev0 (rn_conv rfl rfl U129 Tryd.underlying131) ?_
    refine ⟨by decide, ?_⟩
    refine ev0 (rn_conv rfl rfl U129 Tryd.underlying131) ?_
    refine ev_litN (d := (dI .u32)) (xs := [(IntKind.u32.wrap x548), (IntKind.u32.wrap (x548.fdiv (2 ^ min (32 : Int).toNat (IntKind.u64).bits)))]) (cs := [(.int .u32 (IntKind.u32.wrap x548)), (.int .u32 (IntKind.u32.wrap (x548.fdiv (2 ^ min (32 : Int).toNat (IntKind.u64).bits))))]) hp rfl rfl Tryd.underlying27 T131 (by decide) rfl rfl (Elems.cons (d := (dI .u32)) (xs := _) rfl (Elems.cons (d := (dI .u32)) (xs := _) rfl (Elems.nil _ _ _ _))) ?_
    intro v551 I553 w552 hp hs r554
    obtain ⟨x555, q556, h⟩ := bind_some h
    refine ev_call rfl rfl C63 (((integer_made_ok n) _ _  (decide (x544 < 0)) [(IntKind.u32.wrap x548), (IntKind.u32.wrap (x548.fdiv (2 ^ min (32 : Int).toNat (IntKind.u64).bits)))] v551 r554 hp.imm _ q556).mono ?_)
    rintro _ w557 ⟨I558, v559, hv, hq, r560⟩
    replace hv := hv.symm
    subst hv
    have hs := hq.st
    have hp := hp.join0 hq
    refine ev_storeA hp (i := 0) (off := 0) (vs := [(.bool x555.Neg), v559]) rfl rfl rfl rfl T29 rfl (Nat.le_of_ble_eq_true rfl) (ones_cons rfl (ones_cons r560.one ones_nil)) ?_
    intro w561 hp hs
    replace r560 := r560.step hs
    apply go
    obtain rfl := Option.some.inj h
    refine ⟨_, run_loadVarA T29 rfl (hp.at_ (i := 0) rfl), ?_⟩
    have hp := hp.sel [] (by decide)
    exact ⟨I558, v559, rfl, hp, r560⟩

end Go.Proofs.YtcdboppghnchpaaDoor

namespace Go.Proofs.YtcdboppghnchpaaDoor
open Go Go.Proofs.YtcdboppghnchpaaDoor.Gw Go.RowKit
set_option linter.unusedVariables false
attribute [local irreducible] Ev EvQ EvS EvH
def integer_Sign_S (f : Int_2 → Option Int) : Prop := ∀ (w0 : World) (I0 : Nat → Prop) (x562 : Int_2) (v563 : Value) (r564 : RepS (dI .u32) w0 I0 v563 x562.Mag) (hI : ∀ g, I0 g → g < w0.heap.size) (r : Int), f x562 = some r →
    Ret Tryd.prog 59 #[(.agg #[(.bool x562.Neg), v563])] w0 fun v w1 => v = (.int .i64 r) ∧ Ch [] w0 w1
theorem integer_Sign_ok (n : Nat) : integer_Sign_S (integer_Sign n) := by
  intro w0 I0 x562 v563 r564 hI r h
  unfold integer_Sign at h
  refine enter Tryd.func59 rfl (Nat.le_of_ble_eq_true rfl) ?_
  have hp : Hp ⟨w0, I0, []⟩ I0 [] w0 := Hp.start hI
  apply go
  apply go
  refine ev_boxI hp rfl rfl ?_
  intro p567 I568 w566 hp hs a569
  replace r564 := r564.step hs
  apply go
  apply go
  apply go
  apply go
  refine ev0 (rn_field rfl rfl FO29_1) ?_
  refine ev (rn_load rfl rfl (run_loadVar1 T27 (a569.2 1 _ rfl))) ?_
  obtain ⟨x570, q571, h⟩ := bind_some h
  refine ev_call rfl rfl C67 (((integer_trim_ok n) _ _  x562.Mag v563 r564 hp.imm _ q571).mono ?_)
  rintro _ w572 ⟨I573, v574, hv, hq, r575⟩
  replace hv := hv.symm
  subst hv
  have hs := hq.st
  have hp := hp.join0 hq
  replace a569 := a569.step hs
  replace r564 := r564.step hs
  refine ev0 (rn_len rfl rfl Tryd.underlying27 r575) ?_
  apply go
  refine sel_of (fun hc => ?_) (fun hc => ?_)
  ·
    have h := cond_t h hc
    apply go
    apply go
    apply go
    obtain rfl := Option.some.inj h
    exact ⟨rfl, hp.ch⟩
  ·
    have h := cond_f h hc
    apply go
    apply go
    refine ev0 (rn_field rfl rfl FO29_0) ?_
    refine ev (rn_load rfl rfl (run_loadVar1 T4 (a569.2 0 _ rfl))) ?_
    apply go
    refine sel_of (fun hc => ?_) (fun hc => ?_)
    ·
      have h := cond_t h hc
      apply go
      apply go
      apply go
      obtain rfl := Option.some.inj h
      exact ⟨rfl, hp.ch⟩
    ·
      have h := cond_f h hc
      apply go
      apply go
      apply go
      apply go
      obtain rfl := Option.some.inj h
      exact ⟨rfl, hp.ch⟩

end Go.Proofs.YtcdboppghnchpaaDoor

namespace Go.Proofs.YtcdboppghnchpaaDoor
open Go Go.Proofs.YtcdboppghnchpaaDoor.Gw Go.RowKit
set_option linter.unusedVariables false
attribute [local irreducible] Ev EvQ EvS EvH
def rotation_of_S (f : Rot → Option Gauss) : Prop := ∀ (w0 : World) (I0 : Nat → Prop) (x576 : Rot) (v577 : Value) (r578 : RepS (dI .u32) w0 I0 v577 x576.P.Mag) (v579 : Value) (r580 : RepS (dI .u32) w0 I0 v579 x576.Q.Mag) (hI : ∀ g, I0 g → g < w0.heap.size) (r : Gauss), f x576 = some r →
    Ret Tryd.prog 55 #[(.agg #[(.bool x576.P.Neg), v577, (.bool x576.Q.Neg), v579])] w0 fun v w1 => ∃ (I1 : Nat → Prop) (u581 : Value) (u582 : Value), v = (.agg #[(.bool r.re.Neg), u581, (.bool r.im.Neg), u582]) ∧ Hp ⟨w0, I0, []⟩ I1 [] w1 ∧ RepS (dI .u32) w1 I1 u581 r.re.Mag ∧ RepS (dI .u32) w1 I1 u582 r.im.Mag
theorem rotation_of_ok (n : Nat) : rotation_of_S (rotation_of n) := by
  intro w0 I0 x576 v577 r578 v579 r580 hI r h
  unfold rotation_of at h
  refine enter Tryd.func55 rfl (Nat.le_of_ble_eq_true rfl) ?_
  have hp : Hp ⟨w0, I0, []⟩ I0 [] w0 := Hp.start hI
  apply go
  apply go
  refine ev_boxI hp rfl rfl ?_
  intro p585 I586 w584 hp hs a587
  replace r578 := r578.step hs
  replace r580 := r580.step hs
  refine ev_alloc hp rfl T121 ?_
  intro g588 w589 hp hs
  replace a587 := a587.step hs
  replace r578 := r578.step hs
  replace r580 := r580.step hs
  apply go
  obtain ⟨y598, q599, h⟩ := bind_some h
  refine W.cut (γ := Bool) (fun g => [(1, (.pointer (some (p585)))), (2, (.pointer (some ⟨g588, 0, none⟩))), (12, (.bool (g)))]) (fun g w' => y598 = (g) ∧ Hp ⟨w0, I0, []⟩ I586 [some (g588, [(.bool false), (.slice none 0 0), (.bool false), (.slice none 0 0)], 121)] w' ∧ RepS (dI .u32) w' I586 v577 x576.P.Mag ∧ RepS (dI .u32) w' I586 v579 x576.Q.Mag ∧ At w' I586 p585 [(.bool x576.P.Neg), v577, (.bool x576.Q.Neg), v579]) ?_ ?_
  ·
    apply go
    refine ev0 (rn_field rfl rfl FO38_0) ?_
    refine ev (rn_load rfl rfl (run_loadVarA T29 rfl ((a587.drop 0).take 2))) ?_
    obtain ⟨x600, q601, q599⟩ := bind_some q599
    refine ev_call rfl rfl C59 (((integer_Sign_ok n) _ _  (Int_2.mk x576.P.Neg x576.P.Mag) v577 r578 hp.imm _ q601).mono ?_)
    rintro _ w602 ⟨rfl, hc⟩
    have hs := hp.stp hc
    replace hp := hp.ext hc
    replace a587 := a587.step hs
    replace r578 := r578.step hs
    replace r580 := r580.step hs
    refine sel_of (fun hc => ?_) (fun hc => ?_)
    ·
      have q599 := cond_t q599 hc
      refine ev0 (rn_field rfl rfl FO38_1) ?_
      refine ev (rn_load rfl rfl (run_loadVarA T29 rfl ((a587.drop 2).take 2))) ?_
      obtain ⟨x603, q604, q599⟩ := bind_some q599
      refine ev_call rfl rfl C59 (((integer_Sign_ok n) _ _  (Int_2.mk x576.Q.Neg x576.Q.Mag) v579 r580 hp.imm _ q604).mono ?_)
      rintro _ w605 ⟨rfl, hc⟩
      have hs := hp.stp hc
      replace hp := hp.ext hc
      replace a587 := a587.step hs
      replace r578 := r578.step hs
      replace r580 := r580.step hs
      obtain rfl := Option.some.inj q599
      exact ⟨(x603 == 0), (.c rfl (.c rfl (.c rfl .n))), rfl, hp, r578, r580, a587⟩
    ·
      have q599 := cond_f q599 hc
      obtain rfl := Option.some.inj q599
      exact ⟨false, (.c rfl (.c rfl (.c rfl .n))), rfl, hp, r578, r580, a587⟩
  ·
    rintro x596 w597 ⟨hy, hp, r578, r580, a587⟩
    replace hy := hy.symm
    subst hy
    apply go
    refine sel_of (fun hc => ?_) (fun hc => ?_)
    ·
      have h := cond_t h hc
      apply go
      apply go
      obtain ⟨x606, q607, h⟩ := bind_some h
      refine ev_call rfl rfl C29 (((integer_Of_ok n) _ _  1 hp.imm _ q607).mono ?_)
      rintro _ w608 ⟨I609, v610, hv, hq, r611⟩
      replace hv := hv.symm
      subst hv
      have hs := hq.st
      have hp := hp.join0 hq
      obtain ⟨A612, m613, m614, rfl⟩ := r611.isSl
      refine ev0 (fun w => rn_build (cs := [(.bool x606.Neg), (.slice A612 m613 m614), (.bool false), (.slice none 0 0)]) rfl rfl T121 PL121 rfl) ?_
      refine ev_storeA hp (i := 0) (off := 0) (vs := [(.bool x606.Neg), (.slice A612 m613 m614), (.bool false), (.slice none 0 0)]) rfl rfl rfl rfl T121 rfl (Nat.le_of_ble_eq_true rfl) (ones_cons rfl (ones_cons r611.one (ones_cons rfl (ones_cons rfl ones_nil)))) ?_
      intro w616 hp hs
      replace r611 := r611.step hs
      apply go
      obtain rfl := Option.some.inj h
      refine ⟨_, run_loadVarA T121 rfl (hp.at_ (i := 0) rfl), ?_⟩
      have hp := hp.sel [] (by decide)
      exact ⟨I609, (.slice A612 m613 m614), .slice none 0 0, rfl, hp, r611, RepS.nil _ _ _⟩
    ·
      have h := cond_f h hc
      apply go
      apply go
      apply go
      refine ev0 (rn_field rfl rfl FO38_1) ?_
      refine ev (rn_load rfl rfl (run_loadVarA T29 rfl ((a587.drop 2).take 2))) ?_
      refine ev0 (rn_field rfl rfl FO38_0) ?_
      refine ev (rn_load rfl rfl (run_loadVarA T29 rfl ((a587.drop 0).take 2))) ?_
      obtain ⟨A617, m618, m619, rfl⟩ := r580.isSl
      obtain ⟨A621, m622, m623, rfl⟩ := r578.isSl
      refine ev0 (fun w => rn_build (cs := [(.bool x576.Q.Neg), (.slice A617 m618 m619), (.bool x576.P.Neg), (.slice A621 m622 m623)]) rfl rfl T121 PL121 rfl) ?_
      refine ev_storeA hp (i := 0) (off := 0) (vs := [(.bool x576.Q.Neg), (.slice A617 m618 m619), (.bool x576.P.Neg), (.slice A621 m622 m623)]) rfl rfl rfl rfl T121 rfl (Nat.le_of_ble_eq_true rfl) (ones_cons rfl (ones_cons r580.one (ones_cons rfl (ones_cons r578.one ones_nil)))) ?_
      intro w625 hp hs
      replace r580 := r580.step hs
      replace r578 := r578.step hs
      apply go
      obtain rfl := Option.some.inj h
      refine ⟨_, run_loadVarA T121 rfl (hp.at_ (i := 0) rfl), ?_⟩
      have hp := hp.sel [] (by decide)
      exact ⟨I586, (.slice A617 m618 m619), (.slice A621 m622 m623), rfl, hp, r580, r578⟩

end Go.Proofs.YtcdboppghnchpaaDoor

namespace Go.Proofs.YtcdboppghnchpaaDoor
open Go Go.Proofs.YtcdboppghnchpaaDoor.Gw Go.RowKit
set_option linter.unusedVariables false
attribute [local irreducible] Ev EvQ EvS EvH
def slices_Cloneuint32_uint32__S (f : (List Int) → Option (List Int)) : Prop := ∀ (w0 : World) (I0 : Nat → Prop) (x626 : (List Int)) (v627 : Value) (r628 : RepS (dI .u32) w0 I0 v627 x626) (hI : ∀ g, I0 g → g < w0.heap.size) (r : (List Int)), f x626 = some r →
    Ret Tryd.prog 87 #[v627] w0 fun v w1 => ∃ (I1 : Nat → Prop) (u629 : Value), v = u629 ∧ Hp ⟨w0, I0, []⟩ I1 [] w1 ∧ RepS (dI .u32) w1 I1 u629 r
theorem slices_Cloneuint32_uint32__ok (n : Nat) : slices_Cloneuint32_uint32__S (slices_Cloneuint32_uint32_ n) := by
  intro w0 I0 x626 v627 r628 hI r h
  unfold slices_Cloneuint32_uint32_ at h
  refine enter Tryd.func87 rfl (Nat.le_of_ble_eq_true rfl) ?_
  have hp : Hp ⟨w0, I0, []⟩ I0 [] w0 := Hp.start hI
  apply go
  apply go
  apply go
  apply go
  apply go
  rcases r628.nilcase with ⟨hv, hx⟩ | ⟨n630, hv, hx⟩ | ⟨a631, n630, hv⟩
  ·
    subst hv; subst hx
    replace h : some ([] : (List Int)) = some _ := h
    refine ev0 (rn_eqNil rfl rfl rfl Tryd.underlying27) ?_
    apply go
    apply go
    apply go
    apply go
    obtain rfl := Option.some.inj h
    exact ⟨I0, .slice none 0 0, rfl, hp, RepS.nil _ _ _⟩
  ·
    subst hv; subst hx
    replace h : some ([] : (List Int)) = some _ := h
    refine ev0 (rn_eqNil rfl rfl rfl Tryd.underlying27) ?_
    apply go
    apply go
    apply go
    apply go
    obtain rfl := Option.some.inj h
    exact ⟨I0, .slice none 0 0, rfl, hp, RepS.nil _ _ _⟩
  ·
    subst hv
    refine ev0 (rn_eqNil rfl rfl rfl Tryd.underlying27) ?_
    apply go
    apply go
    apply go
    apply go
    refine ev_litON (d := (dI .u32)) (xs := ([] : List Int)) (cs := []) hp rfl rfl Tryd.underlying27 T131 (by decide) (by decide) rfl rfl (Elems.nil _ _ _ _) ?_
    intro v632 e634 w633 hp hs o635
    replace r628 := r628.step hs
    obtain ⟨x636, q637, h⟩ := bind_some h
    refine ev_append hp (i := 0) rfl rfl rfl rfl Tryd.underlying27 T131 rfl rfl o635 r628 q637 ?_
    rintro v638 e639 w640 hp hs o641
    apply go
    obtain rfl := Option.some.inj h
    have r642 := o641.frz hp (i := 0) rfl
    obtain ⟨hp, hs⟩ := freeze_hp hp (i := 0) rfl
    have hp := hp.sel [] (by decide)
    exact ⟨(Ad I0 e639), v638, rfl, hp, r642⟩

end Go.Proofs.YtcdboppghnchpaaDoor

namespace Go.Proofs.YtcdboppghnchpaaDoor
open Go Go.Proofs.YtcdboppghnchpaaDoor.Gw Go.RowKit
set_option linter.unusedVariables false
attribute [local irreducible] Ev EvQ EvS EvH
def integer_Neg_S (f : Int_2 → Option Int_2) : Prop := ∀ (w0 : World) (I0 : Nat → Prop) (x_0 : Int_2) (v_1 : Value) (r_2 : RepS (dI .u32) w0 I0 v_1 x_0.Mag) (hI : ∀ g, I0 g → g < w0.heap.size) (r : Int_2), f x_0 = some r →
    Ret Tryd.prog 60 #[(.agg #[(.bool x_0.Neg), v_1])] w0 fun v w1 => ∃ (I1 : Nat → Prop) (u_3 : Value), v = (.agg #[(.bool r.Neg), u_3]) ∧ Hp ⟨w0, I0, []⟩ I1 [] w1 ∧ RepS (dI .u32) w1 I1 u_3 r.Mag
theorem integer_Neg_ok (n : Nat) : integer_Neg_S (integer_Neg n) := by
  intro w0 I0 x_0 v_1 r_2 hI r h
  unfold integer_Neg at h
  refine enter Tryd.func60 rfl (Nat.le_of_ble_eq_true rfl) ?_
  have hp : Hp ⟨w0, I0, []⟩ I0 [] w0 := Hp.start hI
  apply go
  apply go
  refine ev_boxI hp rfl rfl ?_
  intro p_3 I_4 w_5 hp hs a_6
  replace r_2 := r_2.step hs
  refine ev_alloc hp rfl T29 ?_
  intro g_7 w_8 hp hs
  replace a_6 := a_6.step hs
  replace r_2 := r_2.step hs
  apply go
  have hs := hp.stp (Ch.drew [] w_8)
  have hp := hp.drew
  replace a_6 := a_6.step hs
  replace r_2 := r_2.step hs
  refine W.held [(0, true), (1, true), (2, true), (3, true), (4, true), (5, false), (6, false), (7, false), (8, false)] (Stp I_4 w_8.drew I_4) MX (by kernel_rfl) (Stp.refl _ _) ?_
  have hz := Stp.refl I_4 w_8.drew
  refine evh0 (rn_field rfl rfl FO29_0) ?_
  refine evh (fun w' hw => rn_load rfl rfl (run_loadVar1 T4 ((a_6.step hw).2 0 _ rfl))) ?_
  refine evh0 (rn_field rfl rfl FO29_1) ?_
  refine evh (fun w' hw => rn_load rfl rfl (run_loadVar1 T27 ((a_6.step hw).2 1 _ rfl))) ?_
  obtain ⟨x_9, q_a, h⟩ := bind_some h
  refine ev_call rfl rfl C67 (((integer_trim_ok n) _ _  x_0.Mag v_1 r_2 hp.imm _ q_a).mono ?_)
  rintro _ w_b ⟨I_c, v_d, hv, hq, r_e⟩
  replace hv := hv.symm
  subst hv
  have hs := hq.st
  have hp := hp.join0 hq
  replace hz := hz.trans hs
  refine ⟨Stp I_c w_b I_c, Stp.refl _ _, fun x hx => hz.held hx, ?_⟩
  have hz := Stp.refl I_c w_b
  obtain ⟨x_f, q_g, h⟩ := bind_some h
  refine ev_call rfl rfl C87 (((slices_Cloneuint32_uint32__ok n) _ _  x_9 v_d r_e hp.imm _ q_g).mono ?_)
  rintro _ w_h ⟨I_i, v_j, hv, hq, r_k⟩
  replace hv := hv.symm
  subst hv
  have hs := hq.st
  have hp := hp.join0 hq
  replace hz := hz.trans hs
  refine ⟨Stp I_i w_h I_i, Stp.refl _ _, fun x hx => hz.held hx, ?_⟩
  have hz := Stp.refl I_i w_h
  obtain ⟨x_l, q_m, h⟩ := bind_some h
  refine ev_call rfl rfl C63 (((integer_made_ok n) _ _  (!x_0.Neg) x_f v_j r_k hp.imm _ q_m).mono ?_)
  rintro _ w_n ⟨I_o, v_p, hv, hq, r_q⟩
  replace hv := hv.symm
  subst hv
  have hs := hq.st
  have hp := hp.join0 hq
  replace hz := hz.trans hs
  refine ⟨Stp I_o w_n I_o, Stp.refl _ _, fun x hx => hz.held hx, ?_⟩
  have hz := Stp.refl I_o w_n
  refine ev_storeA hp (i := 0) (off := 0) (vs := [(.bool x_l.Neg), v_p]) rfl rfl rfl rfl T29 rfl (Nat.le_of_ble_eq_true rfl) (ones_cons rfl (ones_cons r_q.one ones_nil)) ?_
  intro w_r hp hs
  replace hz := hz.trans hs
  replace r_q := r_q.step hs
  refine ⟨Stp I_o w_r I_o, Stp.refl _ _, fun x hx => hz.held hx, ?_⟩
  have hz := Stp.refl I_o w_r
  apply go
  obtain rfl := Option.some.inj h
  refine ⟨_, run_loadVarA T29 rfl (hp.at_ (i := 0) rfl), ?_⟩
  have hp := hp.sel [] (by decide)
  exact ⟨I_o, v_p, rfl, hp, r_q⟩

end Go.Proofs.YtcdboppghnchpaaDoor

namespace Go.Proofs.YtcdboppghnchpaaDoor
open Go Go.Proofs.YtcdboppghnchpaaDoor.Gw Go.RowKit
set_option linter.unusedVariables false
attribute [local irreducible] Ev EvQ EvS EvH
def bits_Add32_S (f : Int → Int → Int → Option (Int × Int)) : Prop := ∀ (w0 : World) (I0 : Nat → Prop) (x_0 : Int) (x_1 : Int) (x_2 : Int) (hI : ∀ g, I0 g → g < w0.heap.size) (r : (Int × Int)), f x_0 x_1 x_2 = some r →
    Ret Tryd.prog 96 #[(.int .u32 x_0), (.int .u32 x_1), (.int .u32 x_2)] w0 fun v w1 => v = (.tuple #[(.int .u32 r.1), (.int .u32 r.2)]) ∧ Ch [] w0 w1
theorem bits_Add32_ok (n : Nat) : bits_Add32_S (bits_Add32 n) := by
  intro w0 I0 x_0 x_1 x_2 hI r h
  unfold bits_Add32 at h
  refine enter Tryd.func96 rfl (Nat.le_of_ble_eq_true rfl) ?_
  have hp : Hp ⟨w0, I0, []⟩ I0 [] w0 := Hp.start hI
  apply go
  apply go
  apply go
  apply go
  refine ev0 (rn_conv rfl rfl U131 Tryd.underlying129) ?_
  refine ev0 (rn_conv rfl rfl U131 Tryd.underlying129) ?_
  refine ev0 (rn_conv rfl rfl U131 Tryd.underlying129) ?_
  apply go
  apply go
  refine ev0 (rn_conv rfl rfl U129 Tryd.underlying131) ?_
  apply go
  apply go
  refine ⟨by decide, ?_⟩
  refine ev0 (rn_conv rfl rfl U129 Tryd.underlying131) ?_
  apply go
  obtain rfl := Option.some.inj h
  exact ⟨rfl, hp.ch⟩

end Go.Proofs.YtcdboppghnchpaaDoor

namespace Go.Proofs.YtcdboppghnchpaaDoor
open Go Go.Proofs.YtcdboppghnchpaaDoor.Gw Go.RowKit
set_option linter.unusedVariables false
attribute [local irreducible] Ev EvQ EvS EvH
def integer_plus_S (f : (List Int) → (List Int) → Option (List Int)) : Prop := ∀ (w0 : World) (I0 : Nat → Prop) (x_0 : (List Int)) (v_1 : Value) (r_2 : RepS (dI .u32) w0 I0 v_1 x_0) (x_3 : (List Int)) (v_4 : Value) (r_5 : RepS (dI .u32) w0 I0 v_4 x_3) (hI : ∀ g, I0 g → g < w0.heap.size) (r : (List Int)), f x_0 x_3 = some r →
    Ret Tryd.prog 68 #[v_1, v_4] w0 fun v w1 => ∃ (I1 : Nat → Prop) (u_6 : Value), v = u_6 ∧ Hp ⟨w0, I0, []⟩ I1 [] w1 ∧ RepS (dI .u32) w1 I1 u_6 r
theorem integer_plus_ok (n : Nat) : integer_plus_S (integer_plus n) := by
  intro w0 I0 x_0 v_1 r_2 x_3 v_4 r_5 hI r h
  unfold integer_plus at h
  refine enter Tryd.func68 rfl (Nat.le_of_ble_eq_true rfl) ?_
  have hp : Hp ⟨w0, I0, []⟩ I0 [] w0 := Hp.start hI
  apply go
  apply go
  obtain ⟨y_6, q_7, h⟩ := bind_some h
  refine W.cut (γ := ((List Int) × (List Int) × Value × Value)) (fun g => [(0, (g.2.2.1)), (1, (g.2.2.2))]) (fun g w' => y_6 = ((g.1), (g.2.1)) ∧ w0 = w' ∧ RepS (dI .u32) w' I0 (g.2.2.1) (g.1) ∧ RepS (dI .u32) w' I0 (g.2.2.2) (g.2.1)) ?_ ?_
  ·
    apply go
    apply go
    refine ev0 (rn_len rfl rfl Tryd.underlying27 r_2) ?_
    refine ev0 (rn_len rfl rfl Tryd.underlying27 r_5) ?_
    apply go
    refine sel_of (fun hc => ?_) (fun hc => ?_)
    ·
      have q_7 := cond_t q_7 hc
      apply go
      obtain rfl := Option.some.inj q_7
      exact ⟨(x_3, x_0, v_4, v_1), (.c rfl (.c rfl .n)), rfl, rfl, r_5, r_2⟩
    ·
      have q_7 := cond_f q_7 hc
      apply go
      obtain rfl := Option.some.inj q_7
      exact ⟨(x_0, x_3, v_1, v_4), (.c rfl (.c rfl .n)), rfl, rfl, r_2, r_5⟩
  ·
    rintro ⟨x_8, x_9, v_a, v_b⟩ _ ⟨hy, rfl, r_c, r_d⟩
    replace hy := hy.symm
    subst hy
    apply go
    apply go
    refine ev0 (rn_len rfl rfl Tryd.underlying27 r_c) ?_
    obtain ⟨x_e, q_f, h⟩ := bind_some h
    refine ev_makeC (d := (dI .u32)) (x0 := 0) hp rfl rfl rfl Tryd.underlying27 T131 (fun _ _ => rfl) (Nat.le_of_ble_eq_true rfl) q_f ?_
    intro v_g e_h w_i hp hs o_j
    replace r_c := r_c.step hs
    replace r_d := r_d.step hs
    apply go
    apply go
    obtain ⟨y_k, q_l, h⟩ := bind_some h
    refine W.cut (γ := ((List Int) × Int × Value × Ent × (Nat → Prop))) (fun g => [(5, (g.2.2.1)), (6, (.int .u32 (g.2.1)))]) (fun g w' => y_k = ((g.1), (g.2.1)) ∧ Hp ⟨w0, I0, []⟩ (g.2.2.2.2) [(g.2.2.2.1)] w' ∧ OwnS (dI .u32) 131 w' (g.2.2.2.2) (g.2.2.1) (g.2.2.2.1) (g.1)) ?_ ?_
    ·
      apply go
      apply go
      refine ev0 (rn_len rfl rfl Tryd.underlying27 r_c) ?_
      apply go
      refine W.loop q_l (γ := (Value × Ent × (Nat → Prop))) (fun s g => [(1, v_b), (5, (g.1)), (6, (.int .u32 (s.2.1))), (22, v_a), (23, (.int .i64 (x_8.length : Int))), (24, (.int .i64 (s.2.2)))]) (fun s g w' => Hp ⟨w0, I0, []⟩ (g.2.2) [(g.2.1)] w' ∧ RepS (dI .u32) w' (g.2.2) v_b x_9 ∧ OwnS (dI .u32) 131 w' (g.2.2) (g.1) (g.2.1) (s.1) ∧ RepS (dI .u32) w' (g.2.2) v_a x_8) (v_g, e_h, I0) (.c rfl (.c rfl (.c rfl (.c rfl (.c rfl (.c rfl .n)))))) ⟨hp, r_d, o_j, r_c⟩ ?_
      rintro ⟨x_m, x_n, x_o⟩ ⟨v_p, e_q, I_r⟩ w_s y_t ⟨hp, r_d, o_u, r_c⟩ q_v q_w
      unfold integer_plus_L1 at q_v
      apply go
      apply go
      apply go
      apply go
      refine sel_of (fun hc => ?_) (fun hc => ?_)
      ·
        have q_v := cond_t q_v hc
        apply go
        apply go
        apply go
        apply go
        apply go
        obtain ⟨x_x, q_y, q_v⟩ := bind_some q_v
        refine ev_index rfl rfl rfl Tryd.underlying27 T131 r_c q_y ?_
        intro p_z c_10 d_11 a_12
        obtain rfl : c_10 = [(.int .u32 x_x)] := d_11
        refine ev (rn_load rfl rfl (run_loadVar1 T131 (a_12.2 0 _ rfl))) ?_
        apply go
        apply go
        obtain ⟨y_13, q_14, q_v⟩ := bind_some q_v
        refine W.cut (γ := Int) (fun g => [(1, v_b), (5, v_p), (6, (.int .u32 x_n)), (8, (.int .u32 x_x)), (9, (.int .u32 (g))), (22, v_a), (23, (.int .i64 (x_8.length : Int))), (24, (.int .i64 x_o))]) (fun g w' => y_13 = (g) ∧ w_s = w') ?_ ?_
        ·
          apply go
          apply go
          refine ev0 (rn_len rfl rfl Tryd.underlying27 r_d) ?_
          apply go
          refine sel_of (fun hc => ?_) (fun hc => ?_)
          ·
            have q_14 := cond_t q_14 hc
            apply go
            obtain ⟨x_15, q_16, q_14⟩ := bind_some q_14
            refine ev_index rfl rfl rfl Tryd.underlying27 T131 r_d q_16 ?_
            intro p_17 c_18 d_19 a_1a
            obtain rfl : c_18 = [(.int .u32 x_15)] := d_19
            refine ev (rn_load rfl rfl (run_loadVar1 T131 (a_1a.2 0 _ rfl))) ?_
            obtain rfl := Option.some.inj q_14
            exact ⟨x_15, (.c rfl (.c rfl (.c rfl (.c rfl (.c rfl (.c rfl (.c rfl (.c rfl .n)))))))), rfl, rfl⟩
          ·
            have q_14 := cond_f q_14 hc
            apply go
            obtain rfl := Option.some.inj q_14
            exact ⟨0, (.c rfl (.c rfl (.c rfl (.c rfl (.c rfl (.c rfl (.c rfl (.c rfl .n)))))))), rfl, rfl⟩
        ·
          rintro x_1b _ ⟨hy, rfl⟩
          replace hy := hy.symm
          subst hy
          apply go
          apply go
          apply go
          apply go
          obtain ⟨⟨x_1c, x_1d⟩, q_1e, q_v⟩ := bind_some q_v
          refine ev_call rfl rfl C96 (((bits_Add32_ok n) _ _  x_x x_1b x_n hp.imm _ q_1e).mono ?_)
          rintro _ w_1f ⟨rfl, hc⟩
          have hs := hp.stp hc
          replace hp := hp.ext hc
          replace r_d := r_d.step hs
          replace o_u := o_u.step hs
          replace r_c := r_c.step hs
          apply go
          refine ev_litN (d := (dI .u32)) (xs := [x_1c]) (cs := [(.int .u32 x_1c)]) hp rfl rfl Tryd.underlying27 T131 (by decide) rfl rfl (Elems.cons (d := (dI .u32)) (xs := _) rfl (Elems.nil _ _ _ _)) ?_
          intro v_1g I_1h w_1i hp hs r_1j
          replace r_d := r_d.step hs
          replace r_c := r_c.step hs
          replace o_u := o_u.step hs
          obtain ⟨x_1k, q_1l, q_v⟩ := bind_some q_v
          refine ev_append hp (i := 0) rfl rfl rfl rfl Tryd.underlying27 T131 rfl rfl o_u r_1j q_1l ?_
          rintro v_1m e_1n w_1o hp hs o_1p
          replace r_d := r_d.step hs
          replace r_c := r_c.step hs
          apply go
          exact ⟨_, (Option.some.inj q_v).symm, (v_1m, e_1n, I_1h), (.c rfl (.c rfl (.c rfl (.c rfl (.c rfl (.c rfl .n)))))), ⟨hp, r_d, o_1p, r_c⟩⟩
      ·
        have q_v := cond_f q_v hc
        apply go
        have q_1q := congrArg some (q_w _ (Option.some.inj q_v).symm)
        obtain rfl := Option.some.inj q_1q
        exact ⟨(x_m, x_n, v_p, e_q, I_r), (.c rfl (.c rfl .n)), rfl, hp, o_u⟩
    ·
      rintro ⟨x_1r, x_1s, v_1t, e_1u, I_1v⟩ w_1w ⟨hy, hp, o_1x⟩
      replace hy := hy.symm
      subst hy
      apply go
      apply go
      refine ev_litN (d := (dI .u32)) (xs := [x_1s]) (cs := [(.int .u32 x_1s)]) hp rfl rfl Tryd.underlying27 T131 (by decide) rfl rfl (Elems.cons (d := (dI .u32)) (xs := _) rfl (Elems.nil _ _ _ _)) ?_
      intro v_1y I_1z w_20 hp hs r_21
      replace o_1x := o_1x.step hs
      obtain ⟨x_22, q_23, h⟩ := bind_some h
      refine ev_append hp (i := 0) rfl rfl rfl rfl Tryd.underlying27 T131 rfl rfl o_1x r_21 q_23 ?_
      rintro v_24 e_25 w_26 hp hs o_27
      apply go
      obtain rfl := Option.some.inj h
      have r_28 := o_27.frz hp (i := 0) rfl
      obtain ⟨hp, hs⟩ := freeze_hp hp (i := 0) rfl
      have hp := hp.sel [] (by decide)
      exact ⟨(Ad I_1z e_25), v_24, rfl, hp, r_28⟩

end Go.Proofs.YtcdboppghnchpaaDoor

namespace Go.Proofs.YtcdboppghnchpaaDoor
open Go Go.Proofs.YtcdboppghnchpaaDoor.Gw Go.RowKit
set_option linter.unusedVariables false
attribute [local irreducible] Ev EvQ EvS EvH
def integer_compare_S (f : (List Int) → (List Int) → Option Int) : Prop := ∀ (w0 : World) (I0 : Nat → Prop) (x673 : (List Int)) (v674 : Value) (r675 : RepS (dI .u32) w0 I0 v674 x673) (x676 : (List Int)) (v677 : Value) (r678 : RepS (dI .u32) w0 I0 v677 x676) (hI : ∀ g, I0 g → g < w0.heap.size) (r : Int), f x673 x676 = some r →
    Ret Tryd.prog 69 #[v674, v677] w0 fun v w1 => v = (.int .i64 r) ∧ Ch [] w0 w1
theorem integer_compare_ok (n : Nat) : integer_compare_S (integer_compare n) := by
  intro w0 I0 x673 v674 r675 x676 v677 r678 hI r h
  unfold integer_compare at h
  refine enter Tryd.func69 rfl (Nat.le_of_ble_eq_true rfl) ?_
  have hp : Hp ⟨w0, I0, []⟩ I0 [] w0 := Hp.start hI
  apply go
  apply go
  apply go
  apply go
  apply go
  refine ev0 (rn_len rfl rfl Tryd.underlying27 r675) ?_
  refine ev0 (rn_len rfl rfl Tryd.underlying27 r678) ?_
  apply go
  refine sel_of (fun hc => ?_) (fun hc => ?_)
  ·
    have h := cond_t h hc
    apply go
    apply go
    apply go
    refine ev0 (rn_len rfl rfl Tryd.underlying27 r675) ?_
    refine ev0 (rn_len rfl rfl Tryd.underlying27 r678) ?_
    apply go
    refine sel_of (fun hc => ?_) (fun hc => ?_)
    ·
      have h := cond_t h hc
      apply go
      apply go
      apply go
      obtain rfl := Option.some.inj h
      exact ⟨rfl, hp.ch⟩
    ·
      have h := cond_f h hc
      apply go
      apply go
      apply go
      apply go
      obtain rfl := Option.some.inj h
      exact ⟨rfl, hp.ch⟩
  ·
    have h := cond_f h hc
    apply go
    obtain ⟨y767, q768, h⟩ := bind_some h
    refine W.cut (γ := Unit) (fun _ => []) (fun _ w' => y767 = .go () ∧ Hp ⟨w0, I0, []⟩ I0 [] w') ?_ ?_
    ·
      apply go
      apply go
      refine ev0 (rn_len rfl rfl Tryd.underlying27 r675) ?_
      apply go
      refine W.loop q768 (γ := Unit) (fun s _ => [(0, v674), (1, v677), (5, (.int .i64 (s)))]) (fun s _ w' => Hp ⟨w0, I0, []⟩ I0 [] w' ∧ RepS (dI .u32) w' I0 v674 x673 ∧ RepS (dI .u32) w' I0 v677 x676) () (.c rfl (.c rfl (.c rfl .n))) ⟨hp, r675, r678⟩ ?_
      rintro x795 ⟨⟩ w823 y824 ⟨hp, r675, r678⟩ q825 q826
      unfold integer_compare_L1 at q825
      apply go
      apply go
      apply go
      apply go
      refine sel_of (fun hc => ?_) (fun hc => ?_)
      ·
        have q825 := cond_t q825 hc
        apply go
        apply go
        apply go
        apply go
        refine W.quiet (fun w' => Ch [] w823 w') MX (by kernel_rfl) (Ch.drew [] w823) ?_
        obtain ⟨x827, q828, q825⟩ := bind_some q825
        refine evq_index rfl rfl rfl Tryd.underlying27 T131 r675 q828 ?_
        intro p829 c830 d831 a832
        obtain rfl : c830 = [(.int .u32 x827)] := d831
        refine evq (fun w' hw => rn_load rfl rfl (run_loadVar1 T131 ((a832.step (hp.stp hw)).2 0 _ rfl))) ?_
        obtain ⟨x833, q834, q825⟩ := bind_some q825
        refine evq_index rfl rfl rfl Tryd.underlying27 T131 r678 q834 ?_
        intro p835 c836 d837 a838
        obtain rfl : c836 = [(.int .u32 x833)] := d837
        refine evq (fun w' hw => rn_load rfl rfl (run_loadVar1 T131 ((a838.step (hp.stp hw)).2 0 _ rfl))) ?_
        intro w839 hc
        have hs := hp.stp hc
        replace hp := hp.ext hc
        replace r675 := r675.step hs
        replace r678 := r678.step hs
        apply go
        refine sel_of (fun hc => ?_) (fun hc => ?_)
        ·
          have q825 := cond_t q825 hc
          apply go
          apply go
          refine W.quiet (fun w' => Ch [] w839 w') MX (by kernel_rfl) (Ch.drew [] w839) ?_
          obtain ⟨x840, q841, q825⟩ := bind_some q825
          refine evq_index rfl rfl rfl Tryd.underlying27 T131 r675 q841 ?_
          intro p842 c843 d844 a845
          obtain rfl : c843 = [(.int .u32 x840)] := d844
          refine evq (fun w' hw => rn_load rfl rfl (run_loadVar1 T131 ((a845.step (hp.stp hw)).2 0 _ rfl))) ?_
          obtain ⟨x846, q847, q825⟩ := bind_some q825
          refine evq_index rfl rfl rfl Tryd.underlying27 T131 r678 q847 ?_
          intro p848 c849 d850 a851
          obtain rfl : c849 = [(.int .u32 x846)] := d850
          refine evq (fun w' hw => rn_load rfl rfl (run_loadVar1 T131 ((a851.step (hp.stp hw)).2 0 _ rfl))) ?_
          intro w852 hc
          have hs := hp.stp hc
          replace hp := hp.ext hc
          apply go
          refine sel_of (fun hc => ?_) (fun hc => ?_)
          ·
            have q825 := cond_t q825 hc
            apply go
            apply go
            apply go
            have q853 := congrArg some (q826 _ (Option.some.inj q825).symm)
            obtain rfl := Option.some.inj q853
            obtain rfl := Option.some.inj h
            exact ⟨rfl, hp.ch⟩
          ·
            have q825 := cond_f q825 hc
            apply go
            apply go
            apply go
            apply go
            have q854 := congrArg some (q826 _ (Option.some.inj q825).symm)
            obtain rfl := Option.some.inj q854
            obtain rfl := Option.some.inj h
            exact ⟨rfl, hp.ch⟩
        ·
          have q825 := cond_f q825 hc
          apply go
          apply go
          exact ⟨_, (Option.some.inj q825).symm, (), (.c rfl (.c rfl (.c rfl .n))), ⟨hp, r675, r678⟩⟩
      ·
        have q825 := cond_f q825 hc
        apply go
        have q855 := congrArg some (q826 _ (Option.some.inj q825).symm)
        obtain rfl := Option.some.inj q855
        exact ⟨(), .n, rfl, hp⟩
    ·
      rintro ⟨⟩ w766 ⟨hy, hp⟩
      replace hy := hy.symm
      subst hy
      apply go
      apply go
      apply go
      obtain rfl := Option.some.inj h
      exact ⟨rfl, hp.ch⟩

end Go.Proofs.YtcdboppghnchpaaDoor

namespace Go.Proofs.YtcdboppghnchpaaDoor
open Go Go.Proofs.YtcdboppghnchpaaDoor.Gw Go.RowKit
set_option linter.unusedVariables false
attribute [local irreducible] Ev EvQ EvS EvH
def bits_Sub32_S (f : Int → Int → Int → Option (Int × Int)) : Prop := ∀ (w0 : World) (I0 : Nat → Prop) (x_0 : Int) (x_1 : Int) (x_2 : Int) (hI : ∀ g, I0 g → g < w0.heap.size) (r : (Int × Int)), f x_0 x_1 x_2 = some r →
    Ret Tryd.prog 97 #[(.int .u32 x_0), (.int .u32 x_1), (.int .u32 x_2)] w0 fun v w1 => v = (.tuple #[(.int .u32 r.1), (.int .u32 r.2)]) ∧ Ch [] w0 w1
theorem bits_Sub32_ok (n : Nat) : bits_Sub32_S (bits_Sub32 n) := by
  intro w0 I0 x_0 x_1 x_2 hI r h
  unfold bits_Sub32 at h
  refine enter Tryd.func97 rfl (Nat.le_of_ble_eq_true rfl) ?_
  have hp : Hp ⟨w0, I0, []⟩ I0 [] w0 := Hp.start hI
  apply go
  apply go
  apply go
  apply go
  apply go
  apply go
  refine ⟨by decide, ?_⟩
  apply go
  obtain rfl := Option.some.inj h
  exact ⟨rfl, hp.ch⟩

end Go.Proofs.YtcdboppghnchpaaDoor

namespace Go.Proofs.YtcdboppghnchpaaDoor
open Go Go.Proofs.YtcdboppghnchpaaDoor.Gw Go.RowKit
set_option linter.unusedVariables false
attribute [local irreducible] Ev EvQ EvS EvH
def integer_minus_S (f : (List Int) → (List Int) → Option (List Int)) : Prop := ∀ (w0 : World) (I0 : Nat → Prop) (x_0 : (List Int)) (v_1 : Value) (r_2 : RepS (dI .u32) w0 I0 v_1 x_0) (x_3 : (List Int)) (v_4 : Value) (r_5 : RepS (dI .u32) w0 I0 v_4 x_3) (hI : ∀ g, I0 g → g < w0.heap.size) (r : (List Int)), f x_0 x_3 = some r →
    Ret Tryd.prog 70 #[v_1, v_4] w0 fun v w1 => ∃ (I1 : Nat → Prop) (u_6 : Value), v = u_6 ∧ Hp ⟨w0, I0, []⟩ I1 [] w1 ∧ RepS (dI .u32) w1 I1 u_6 r
theorem integer_minus_ok (n : Nat) : integer_minus_S (integer_minus n) := by
  intro w0 I0 x_0 v_1 r_2 x_3 v_4 r_5 hI r h
  unfold integer_minus at h
  refine enter Tryd.func70 rfl (Nat.le_of_ble_eq_true rfl) ?_
  have hp : Hp ⟨w0, I0, []⟩ I0 [] w0 := Hp.start hI
  apply go
  apply go
  apply go
  apply go
  refine ev0 (rn_len rfl rfl Tryd.underlying27 r_2) ?_
  obtain ⟨x_6, q_7, h⟩ := bind_some h
  refine ev_makeC (d := (dI .u32)) (x0 := 0) hp rfl rfl rfl Tryd.underlying27 T131 (fun _ _ => rfl) (Nat.le_of_ble_eq_true rfl) q_7 ?_
  intro v_8 e_9 w_a hp hs o_b
  replace r_2 := r_2.step hs
  replace r_5 := r_5.step hs
  apply go
  apply go
  obtain ⟨y_c, q_d, h⟩ := bind_some h
  refine W.cut (γ := ((List Int) × Value × Ent × (Nat → Prop))) (fun g => [(5, (g.2.1))]) (fun g w' => y_c = (g.1) ∧ Hp ⟨w0, I0, []⟩ (g.2.2.2) [(g.2.2.1)] w' ∧ OwnS (dI .u32) 131 w' (g.2.2.2) (g.2.1) (g.2.2.1) (g.1)) ?_ ?_
  ·
    apply go
    apply go
    refine ev0 (rn_len rfl rfl Tryd.underlying27 r_2) ?_
    apply go
    refine W.loop q_d (γ := (Value × Ent × (Nat → Prop))) (fun s g => [(1, v_4), (5, (g.1)), (6, (.int .u32 (s.2.1))), (14, v_1), (15, (.int .i64 (x_0.length : Int))), (16, (.int .i64 (s.2.2)))]) (fun s g w' => Hp ⟨w0, I0, []⟩ (g.2.2) [(g.2.1)] w' ∧ RepS (dI .u32) w' (g.2.2) v_4 x_3 ∧ OwnS (dI .u32) 131 w' (g.2.2) (g.1) (g.2.1) (s.1) ∧ RepS (dI .u32) w' (g.2.2) v_1 x_0) (v_8, e_9, I0) (.c rfl (.c rfl (.c rfl (.c rfl (.c rfl (.c rfl .n)))))) ⟨hp, r_5, o_b, r_2⟩ ?_
    rintro ⟨x_e, x_f, x_g⟩ ⟨v_h, e_i, I_j⟩ w_k y_l ⟨hp, r_5, o_m, r_2⟩ q_n q_o
    unfold integer_minus_L1 at q_n
    apply go
    apply go
    apply go
    apply go
    refine sel_of (fun hc => ?_) (fun hc => ?_)
    ·
      have q_n := cond_t q_n hc
      apply go
      apply go
      apply go
      apply go
      apply go
      obtain ⟨x_p, q_q, q_n⟩ := bind_some q_n
      refine ev_index rfl rfl rfl Tryd.underlying27 T131 r_2 q_q ?_
      intro p_r c_s d_t a_u
      obtain rfl : c_s = [(.int .u32 x_p)] := d_t
      refine ev (rn_load rfl rfl (run_loadVar1 T131 (a_u.2 0 _ rfl))) ?_
      apply go
      apply go
      obtain ⟨y_v, q_w, q_n⟩ := bind_some q_n
      refine W.cut (γ := Int) (fun g => [(1, v_4), (5, v_h), (6, (.int .u32 x_f)), (8, (.int .u32 x_p)), (9, (.int .u32 (g))), (14, v_1), (15, (.int .i64 (x_0.length : Int))), (16, (.int .i64 x_g))]) (fun g w' => y_v = (g) ∧ w_k = w') ?_ ?_
      ·
        apply go
        apply go
        refine ev0 (rn_len rfl rfl Tryd.underlying27 r_5) ?_
        apply go
        refine sel_of (fun hc => ?_) (fun hc => ?_)
        ·
          have q_w := cond_t q_w hc
          apply go
          obtain ⟨x_x, q_y, q_w⟩ := bind_some q_w
          refine ev_index rfl rfl rfl Tryd.underlying27 T131 r_5 q_y ?_
          intro p_z c_10 d_11 a_12
          obtain rfl : c_10 = [(.int .u32 x_x)] := d_11
          refine ev (rn_load rfl rfl (run_loadVar1 T131 (a_12.2 0 _ rfl))) ?_
          obtain rfl := Option.some.inj q_w
          exact ⟨x_x, (.c rfl (.c rfl (.c rfl (.c rfl (.c rfl (.c rfl (.c rfl (.c rfl .n)))))))), rfl, rfl⟩
        ·
          have q_w := cond_f q_w hc
          apply go
          obtain rfl := Option.some.inj q_w
          exact ⟨0, (.c rfl (.c rfl (.c rfl (.c rfl (.c rfl (.c rfl (.c rfl (.c rfl .n)))))))), rfl, rfl⟩
      ·
        rintro x_13 _ ⟨hy, rfl⟩
        replace hy := hy.symm
        subst hy
        apply go
        apply go
        apply go
        apply go
        obtain ⟨⟨x_14, x_15⟩, q_16, q_n⟩ := bind_some q_n
        refine ev_call rfl rfl C97 (((bits_Sub32_ok n) _ _  x_p x_13 x_f hp.imm _ q_16).mono ?_)
        rintro _ w_17 ⟨rfl, hc⟩
        have hs := hp.stp hc
        replace hp := hp.ext hc
        replace r_5 := r_5.step hs
        replace o_m := o_m.step hs
        replace r_2 := r_2.step hs
        apply go
        refine ev_litN (d := (dI .u32)) (xs := [x_14]) (cs := [(.int .u32 x_14)]) hp rfl rfl Tryd.underlying27 T131 (by decide) rfl rfl (Elems.cons (d := (dI .u32)) (xs := _) rfl (Elems.nil _ _ _ _)) ?_
        intro v_18 I_19 w_1a hp hs r_1b
        replace r_5 := r_5.step hs
        replace r_2 := r_2.step hs
        replace o_m := o_m.step hs
        obtain ⟨x_1c, q_1d, q_n⟩ := bind_some q_n
        refine ev_append hp (i := 0) rfl rfl rfl rfl Tryd.underlying27 T131 rfl rfl o_m r_1b q_1d ?_
        rintro v_1e e_1f w_1g hp hs o_1h
        replace r_5 := r_5.step hs
        replace r_2 := r_2.step hs
        apply go
        exact ⟨_, (Option.some.inj q_n).symm, (v_1e, e_1f, I_19), (.c rfl (.c rfl (.c rfl (.c rfl (.c rfl (.c rfl .n)))))), ⟨hp, r_5, o_1h, r_2⟩⟩
    ·
      have q_n := cond_f q_n hc
      apply go
      have q_1i := congrArg some (q_o _ (Option.some.inj q_n).symm)
      obtain rfl := Option.some.inj q_1i
      exact ⟨(x_e, v_h, e_i, I_j), (.c rfl .n), rfl, hp, o_m⟩
  ·
    rintro ⟨x_1j, v_1k, e_1l, I_1m⟩ w_1n ⟨hy, hp, o_1o⟩
    replace hy := hy.symm
    subst hy
    apply go
    apply go
    apply go
    obtain rfl := Option.some.inj h
    have r_1p := o_1o.frz hp (i := 0) rfl
    obtain ⟨hp, hs⟩ := freeze_hp hp (i := 0) rfl
    have hp := hp.sel [] (by decide)
    exact ⟨(Ad I_1m e_1l), v_1k, rfl, hp, r_1p⟩

end Go.Proofs.YtcdboppghnchpaaDoor

namespace Go.Proofs.YtcdboppghnchpaaDoor
open Go Go.Proofs.YtcdboppghnchpaaDoor.Gw Go.RowKit
set_option linter.unusedVariables false
attribute [local irreducible] Ev EvQ EvS EvH
def integer_Add_S (f : Int_2 → Int_2 → Option Int_2) : Prop := ∀ (w0 : World) (I0 : Nat → Prop) (x_0 : Int_2) (v_1 : Value) (r_2 : RepS (dI .u32) w0 I0 v_1 x_0.Mag) (x_3 : Int_2) (v_4 : Value) (r_5 : RepS (dI .u32) w0 I0 v_4 x_3.Mag) (hI : ∀ g, I0 g → g < w0.heap.size) (r : Int_2), f x_0 x_3 = some r →
    Ret Tryd.prog 33 #[(.agg #[(.bool x_0.Neg), v_1]), (.agg #[(.bool x_3.Neg), v_4])] w0 fun v w1 => ∃ (I1 : Nat → Prop) (u_6 : Value), v = (.agg #[(.bool r.Neg), u_6]) ∧ Hp ⟨w0, I0, []⟩ I1 [] w1 ∧ RepS (dI .u32) w1 I1 u_6 r.Mag
theorem integer_Add_ok (n : Nat) : integer_Add_S (integer_Add n) := by
  intro w0 I0 x_0 v_1 r_2 x_3 v_4 r_5 hI r h
  unfold integer_Add at h
  refine enter Tryd.func33 rfl (Nat.le_of_ble_eq_true rfl) ?_
  have hp : Hp ⟨w0, I0, []⟩ I0 [] w0 := Hp.start hI
  apply go
  apply go
  refine ev_boxI hp rfl rfl ?_
  intro p_6 I_7 w_8 hp hs a_9
  replace r_5 := r_5.step hs
  replace r_2 := r_2.step hs
  refine ev_boxI hp rfl rfl ?_
  intro p_a I_b w_c hp hs a_d
  replace a_9 := a_9.step hs
  replace r_2 := r_2.step hs
  replace r_5 := r_5.step hs
  refine ev_alloc hp rfl T29 ?_
  intro g_e w_f hp hs
  replace a_9 := a_9.step hs
  replace r_2 := r_2.step hs
  replace a_d := a_d.step hs
  replace r_5 := r_5.step hs
  apply go
  have hs := hp.stp (Ch.drew [] w_f)
  have hp := hp.drew
  replace a_9 := a_9.step hs
  replace r_2 := r_2.step hs
  replace a_d := a_d.step hs
  replace r_5 := r_5.step hs
  refine W.held [(0, true), (1, true), (3, true), (4, true), (2, false), (5, false), (6, true), (7, true)] (Stp I_b w_f.drew I_b) MX (by kernel_rfl) (Stp.refl _ _) ?_
  have hz := Stp.refl I_b w_f.drew
  refine evh0 (rn_field rfl rfl FO29_1) ?_
  refine evh (fun w' hw => rn_load rfl rfl (run_loadVar1 T27 ((a_9.step hw).2 1 _ rfl))) ?_
  refine evh0 (rn_field rfl rfl FO29_1) ?_
  refine evh (fun w' hw => rn_load rfl rfl (run_loadVar1 T27 ((a_d.step hw).2 1 _ rfl))) ?_
  obtain ⟨x_g, q_h, h⟩ := bind_some h
  refine ev_call rfl rfl C67 (((integer_trim_ok n) _ _  x_0.Mag v_1 r_2 hp.imm _ q_h).mono ?_)
  rintro _ w_i ⟨I_j, v_k, hv, hq, r_l⟩
  replace hv := hv.symm
  subst hv
  have hs := hq.st
  have hp := hp.join0 hq
  replace hz := hz.trans hs
  replace a_9 := a_9.step hs
  replace r_2 := r_2.step hs
  replace a_d := a_d.step hs
  replace r_5 := r_5.step hs
  refine ⟨Stp I_j w_i I_j, Stp.refl _ _, fun x hx => hz.held hx, ?_⟩
  have hz := Stp.refl I_j w_i
  obtain ⟨x_m, q_n, h⟩ := bind_some h
  refine ev_call rfl rfl C67 (((integer_trim_ok n) _ _  x_3.Mag v_4 r_5 hp.imm _ q_n).mono ?_)
  rintro _ w_o ⟨I_p, v_q, hv, hq, r_r⟩
  replace hv := hv.symm
  subst hv
  have hs := hq.st
  have hp := hp.join0 hq
  replace hz := hz.trans hs
  replace a_9 := a_9.step hs
  replace r_2 := r_2.step hs
  replace a_d := a_d.step hs
  replace r_5 := r_5.step hs
  replace r_l := r_l.step hs
  refine ⟨Stp I_p w_o I_p, Stp.refl _ _, fun x hx => hz.held hx, ?_⟩
  have hz := Stp.refl I_p w_o
  apply go
  apply go
  apply go
  apply go
  refine ev0 (rn_field rfl rfl FO29_0) ?_
  refine ev (rn_load rfl rfl (run_loadVar1 T4 (a_9.2 0 _ rfl))) ?_
  refine ev0 (rn_field rfl rfl FO29_0) ?_
  refine ev (rn_load rfl rfl (run_loadVar1 T4 (a_d.2 0 _ rfl))) ?_
  refine ev0 (rn_eqB rfl rfl rfl Tryd.underlying4) ?_
  apply go
  refine sel_of (fun hc => ?_) (fun hc => ?_)
  ·
    have h := cond_t h hc
    apply go
    have hs := hp.stp (Ch.drew [] w_o)
    have hp := hp.drew
    replace a_9 := a_9.step hs
    replace r_2 := r_2.step hs
    replace r_l := r_l.step hs
    replace r_r := r_r.step hs
    refine W.held [(0, true), (1, true), (2, true), (3, true), (4, false), (5, false), (6, false)] (Stp I_p w_o.drew I_p) MX (by kernel_rfl) (Stp.refl _ _) ?_
    have hz := Stp.refl I_p w_o.drew
    refine evh0 (rn_field rfl rfl FO29_0) ?_
    refine evh (fun w' hw => rn_load rfl rfl (run_loadVar1 T4 ((a_9.step hw).2 0 _ rfl))) ?_
    obtain ⟨x_s, q_t, h⟩ := bind_some h
    refine ev_call rfl rfl C68 (((integer_plus_ok n) _ _  x_g v_k r_l x_m v_q r_r hp.imm _ q_t).mono ?_)
    rintro _ w_u ⟨I_v, v_w, hv, hq, r_x⟩
    replace hv := hv.symm
    subst hv
    have hs := hq.st
    have hp := hp.join0 hq
    replace hz := hz.trans hs
    refine ⟨Stp I_v w_u I_v, Stp.refl _ _, fun x hx => hz.held hx, ?_⟩
    have hz := Stp.refl I_v w_u
    obtain ⟨x_y, q_z, h⟩ := bind_some h
    refine ev_call rfl rfl C63 (((integer_made_ok n) _ _  x_0.Neg x_s v_w r_x hp.imm _ q_z).mono ?_)
    rintro _ w_10 ⟨I_11, v_12, hv, hq, r_13⟩
    replace hv := hv.symm
    subst hv
    have hs := hq.st
    have hp := hp.join0 hq
    replace hz := hz.trans hs
    refine ⟨Stp I_11 w_10 I_11, Stp.refl _ _, fun x hx => hz.held hx, ?_⟩
    have hz := Stp.refl I_11 w_10
    refine ev_storeA hp (i := 0) (off := 0) (vs := [(.bool x_y.Neg), v_12]) rfl rfl rfl rfl T29 rfl (Nat.le_of_ble_eq_true rfl) (ones_cons rfl (ones_cons r_13.one ones_nil)) ?_
    intro w_14 hp hs
    replace hz := hz.trans hs
    replace r_13 := r_13.step hs
    refine ⟨Stp I_11 w_14 I_11, Stp.refl _ _, fun x hx => hz.held hx, ?_⟩
    have hz := Stp.refl I_11 w_14
    apply go
    obtain rfl := Option.some.inj h
    refine ⟨_, run_loadVarA T29 rfl (hp.at_ (i := 0) rfl), ?_⟩
    have hp := hp.sel [] (by decide)
    exact ⟨I_11, v_12, rfl, hp, r_13⟩
  ·
    have h := cond_f h hc
    apply go
    apply go
    obtain ⟨x_15, q_16, h⟩ := bind_some h
    refine ev_call rfl rfl C69 (((integer_compare_ok n) _ _  x_g v_k r_l x_m v_q r_r hp.imm _ q_16).mono ?_)
    rintro _ w_17 ⟨rfl, hc⟩
    have hs := hp.stp hc
    replace hp := hp.ext hc
    replace a_9 := a_9.step hs
    replace r_2 := r_2.step hs
    replace a_d := a_d.step hs
    replace r_5 := r_5.step hs
    replace r_l := r_l.step hs
    replace r_r := r_r.step hs
    apply go
    refine sel_of (fun hc => ?_) (fun hc => ?_)
    ·
      have h := cond_t h hc
      apply go
      have hs := hp.stp (Ch.drew [] w_17)
      have hp := hp.drew
      replace a_9 := a_9.step hs
      replace r_2 := r_2.step hs
      replace r_l := r_l.step hs
      replace r_r := r_r.step hs
      refine W.held [(0, true), (1, true), (2, true), (3, true), (4, false), (5, false), (6, false)] (Stp I_p w_17.drew I_p) MX (by kernel_rfl) (Stp.refl _ _) ?_
      have hz := Stp.refl I_p w_17.drew
      refine evh0 (rn_field rfl rfl FO29_0) ?_
      refine evh (fun w' hw => rn_load rfl rfl (run_loadVar1 T4 ((a_9.step hw).2 0 _ rfl))) ?_
      obtain ⟨x_18, q_19, h⟩ := bind_some h
      refine ev_call rfl rfl C70 (((integer_minus_ok n) _ _  x_g v_k r_l x_m v_q r_r hp.imm _ q_19).mono ?_)
      rintro _ w_1a ⟨I_1b, v_1c, hv, hq, r_1d⟩
      replace hv := hv.symm
      subst hv
      have hs := hq.st
      have hp := hp.join0 hq
      replace hz := hz.trans hs
      refine ⟨Stp I_1b w_1a I_1b, Stp.refl _ _, fun x hx => hz.held hx, ?_⟩
      have hz := Stp.refl I_1b w_1a
      obtain ⟨x_1e, q_1f, h⟩ := bind_some h
      refine ev_call rfl rfl C63 (((integer_made_ok n) _ _  x_0.Neg x_18 v_1c r_1d hp.imm _ q_1f).mono ?_)
      rintro _ w_1g ⟨I_1h, v_1i, hv, hq, r_1j⟩
      replace hv := hv.symm
      subst hv
      have hs := hq.st
      have hp := hp.join0 hq
      replace hz := hz.trans hs
      refine ⟨Stp I_1h w_1g I_1h, Stp.refl _ _, fun x hx => hz.held hx, ?_⟩
      have hz := Stp.refl I_1h w_1g
      refine ev_storeA hp (i := 0) (off := 0) (vs := [(.bool x_1e.Neg), v_1i]) rfl rfl rfl rfl T29 rfl (Nat.le_of_ble_eq_true rfl) (ones_cons rfl (ones_cons r_1j.one ones_nil)) ?_
      intro w_1k hp hs
      replace hz := hz.trans hs
      replace r_1j := r_1j.step hs
      refine ⟨Stp I_1h w_1k I_1h, Stp.refl _ _, fun x hx => hz.held hx, ?_⟩
      have hz := Stp.refl I_1h w_1k
      apply go
      obtain rfl := Option.some.inj h
      refine ⟨_, run_loadVarA T29 rfl (hp.at_ (i := 0) rfl), ?_⟩
      have hp := hp.sel [] (by decide)
      exact ⟨I_1h, v_1i, rfl, hp, r_1j⟩
    ·
      have h := cond_f h hc
      apply go
      apply go
      have hs := hp.stp (Ch.drew [] w_17)
      have hp := hp.drew
      replace a_d := a_d.step hs
      replace r_5 := r_5.step hs
      replace r_l := r_l.step hs
      replace r_r := r_r.step hs
      refine W.held [(0, true), (1, true), (2, true), (3, true), (4, false), (5, false), (6, false)] (Stp I_p w_17.drew I_p) MX (by kernel_rfl) (Stp.refl _ _) ?_
      have hz := Stp.refl I_p w_17.drew
      refine evh0 (rn_field rfl rfl FO29_0) ?_
      refine evh (fun w' hw => rn_load rfl rfl (run_loadVar1 T4 ((a_d.step hw).2 0 _ rfl))) ?_
      obtain ⟨x_1l, q_1m, h⟩ := bind_some h
      refine ev_call rfl rfl C70 (((integer_minus_ok n) _ _  x_m v_q r_r x_g v_k r_l hp.imm _ q_1m).mono ?_)
      rintro _ w_1n ⟨I_1o, v_1p, hv, hq, r_1q⟩
      replace hv := hv.symm
      subst hv
      have hs := hq.st
      have hp := hp.join0 hq
      replace hz := hz.trans hs
      refine ⟨Stp I_1o w_1n I_1o, Stp.refl _ _, fun x hx => hz.held hx, ?_⟩
      have hz := Stp.refl I_1o w_1n
      obtain ⟨x_1r, q_1s, h⟩ := bind_some h
      refine ev_call rfl rfl C63 (((integer_made_ok n) _ _  x_3.Neg x_1l v_1p r_1q hp.imm _ q_1s).mono ?_)
      rintro _ w_1t ⟨I_1u, v_1v, hv, hq, r_1w⟩
      replace hv := hv.symm
      subst hv
      have hs := hq.st
      have hp := hp.join0 hq
      replace hz := hz.trans hs
      refine ⟨Stp I_1u w_1t I_1u, Stp.refl _ _, fun x hx => hz.held hx, ?_⟩
      have hz := Stp.refl I_1u w_1t
      refine ev_storeA hp (i := 0) (off := 0) (vs := [(.bool x_1r.Neg), v_1v]) rfl rfl rfl rfl T29 rfl (Nat.le_of_ble_eq_true rfl) (ones_cons rfl (ones_cons r_1w.one ones_nil)) ?_
      intro w_1x hp hs
      replace hz := hz.trans hs
      replace r_1w := r_1w.step hs
      refine ⟨Stp I_1u w_1x I_1u, Stp.refl _ _, fun x hx => hz.held hx, ?_⟩
      have hz := Stp.refl I_1u w_1x
      apply go
      obtain rfl := Option.some.inj h
      refine ⟨_, run_loadVarA T29 rfl (hp.at_ (i := 0) rfl), ?_⟩
      have hp := hp.sel [] (by decide)
      exact ⟨I_1u, v_1v, rfl, hp, r_1w⟩

end Go.Proofs.YtcdboppghnchpaaDoor

namespace Go.Proofs.YtcdboppghnchpaaDoor
open Go Go.Proofs.YtcdboppghnchpaaDoor.Gw Go.RowKit
set_option linter.unusedVariables false
attribute [local irreducible] Ev EvQ EvS EvH
def bits_Div32_S (f : Int → Int → Int → Option (Int × Int)) : Prop := ∀ (w0 : World) (I0 : Nat → Prop) (x856 : Int) (x857 : Int) (x858 : Int) (hI : ∀ g, I0 g → g < w0.heap.size) (r : (Int × Int)), f x856 x857 x858 = some r →
    Ret Tryd.prog 104 #[(.int .u32 x856), (.int .u32 x857), (.int .u32 x858)] w0 fun v w1 => v = (.tuple #[(.int .u32 r.1), (.int .u32 r.2)]) ∧ Ch [] w0 w1
theorem bits_Div32_ok (n : Nat) : bits_Div32_S (bits_Div32 n) := by
  intro w0 I0 x856 x857 x858 hI r h
  unfold bits_Div32 at h
  refine enter Tryd.func104 rfl (Nat.le_of_ble_eq_true rfl) ?_
  have hp : Hp ⟨w0, I0, []⟩ I0 [] w0 := Hp.start hI
  apply go
  apply go
  obtain ⟨y862, q863, h⟩ := bind_some h
  refine W.cut (γ := Unit) (fun _ => [(0, (.int .u32 x856)), (1, (.int .u32 x857)), (2, (.int .u32 x858))]) (fun _ w' => y862 = () ∧ w0 = w') ?_ ?_
  ·
    obtain ⟨y865, q866, q863⟩ := bind_some q863
    refine W.cut (γ := Bool) (fun g => [(0, (.int .u32 x856)), (1, (.int .u32 x857)), (2, (.int .u32 x858)), (15, (.bool (g)))]) (fun g w' => y865 = (g) ∧ w0 = w') ?_ ?_
    ·
      apply go
      refine sel_of (fun hc => ?_) (fun hc => ?_)
      ·
        have q866 := cond_t q866 hc
        obtain rfl := Option.some.inj q866
        exact ⟨(decide (x858 ≤ x856)), (.c rfl (.c rfl (.c rfl (.c rfl .n)))), rfl, rfl⟩
      ·
        have q866 := cond_f q866 hc
        obtain rfl := Option.some.inj q866
        exact ⟨false, (.c rfl (.c rfl (.c rfl (.c rfl .n)))), rfl, rfl⟩
    ·
      rintro x864 _ ⟨hy, rfl⟩
      replace hy := hy.symm
      subst hy
      apply go
      refine sel_of (fun hc => ?_) (fun hc => ?_)
      ·
        have q863 := cond_t q863 hc
        apply go
        cases q863
      ·
        have q863 := cond_f q863 hc
        apply go
        obtain rfl := Option.some.inj q863
        exact ⟨(), (.c rfl (.c rfl (.c rfl .n))), rfl, rfl⟩
  ·
    rintro ⟨⟩ _ ⟨hy, rfl⟩
    replace hy := hy.symm
    subst hy
    apply go
    apply go
    refine ev0 (rn_conv rfl rfl U131 Tryd.underlying129) ?_
    refine ⟨by decide, ?_⟩
    refine ev0 (rn_conv rfl rfl U131 Tryd.underlying129) ?_
    apply go
    refine W.quiet (fun w' => Ch [] w0 w') MX (by kernel_rfl) (Ch.drew [] w0) ?_
    refine evq0 (rn_conv rfl rfl U131 Tryd.underlying129) ?_
    obtain ⟨q867, _, h⟩ := need_some h
    refine ⟨q867, ?_⟩
    refine evq0 (rn_conv rfl rfl U129 Tryd.underlying131) ?_
    refine evq0 (rn_conv rfl rfl U131 Tryd.underlying129) ?_
    obtain ⟨q868, _, h⟩ := need_some h
    refine ⟨q868, ?_⟩
    refine evq0 (rn_conv rfl rfl U129 Tryd.underlying131) ?_
    intro w869 hc
    have hs := hp.stp hc
    replace hp := hp.ext hc
    apply go
    obtain rfl := Option.some.inj h
    exact ⟨rfl, hp.ch⟩

end Go.Proofs.YtcdboppghnchpaaDoor

namespace Go.Proofs.YtcdboppghnchpaaDoor
open Go Go.Proofs.YtcdboppghnchpaaDoor.Gw Go.RowKit
set_option linter.unusedVariables false
attribute [local irreducible] Ev EvQ EvS EvH
def integer_short_S (f : (List Int) → Int → Option ((List Int) × Int)) : Prop := ∀ (w0 : World) (I0 : Nat → Prop) (x870 : (List Int)) (v871 : Value) (r872 : RepS (dI .u32) w0 I0 v871 x870) (x873 : Int) (hI : ∀ g, I0 g → g < w0.heap.size) (r : ((List Int) × Int)), f x870 x873 = some r →
    Ret Tryd.prog 88 #[v871, (.int .u32 x873)] w0 fun v w1 => ∃ (I1 : Nat → Prop) (u874 : Value), v = (.tuple #[u874, (.int .u32 r.2)]) ∧ Hp ⟨w0, I0, []⟩ I1 [] w1 ∧ RepS (dI .u32) w1 I1 u874 r.1
theorem integer_short_ok (n : Nat) : integer_short_S (integer_short n) := by
  intro w0 I0 x870 v871 r872 x873 hI r h
  unfold integer_short at h
  refine enter Tryd.func88 rfl (Nat.le_of_ble_eq_true rfl) ?_
  have hp : Hp ⟨w0, I0, []⟩ I0 [] w0 := Hp.start hI
  apply go
  apply go
  apply go
  apply go
  refine ev0 (rn_len rfl rfl Tryd.underlying27 r872) ?_
  obtain ⟨x875, q876, h⟩ := bind_some h
  refine ev_make (d := (dI .u32)) (x0 := 0) hp rfl rfl rfl Tryd.underlying27 T131 (fun _ _ => rfl) (Nat.le_of_ble_eq_true rfl) q876 ?_
  intro v877 e878 w879 hp hs o880
  replace r872 := r872.step hs
  apply go
  apply go
  obtain ⟨y973, q974, h⟩ := bind_some h
  refine W.cut (γ := ((List Int) × Int × Ent)) (fun g => [(6, v877), (7, (.int .u32 (g.2.1)))]) (fun g w' => y973 = ((g.1), (g.2.1)) ∧ Hp ⟨w0, I0, []⟩ I0 [(g.2.2)] w' ∧ OwnS (dI .u32) 131 w' I0 v877 (g.2.2) (g.1)) ?_ ?_
  ·
    apply go
    apply go
    refine ev0 (rn_len rfl rfl Tryd.underlying27 r872) ?_
    apply go
    refine W.loop q974 (γ := Ent) (fun s g => [(0, v871), (1, (.int .u32 x873)), (6, v877), (7, (.int .u32 (s.2.1))), (8, (.int .i64 (s.2.2)))]) (fun s g w' => Hp ⟨w0, I0, []⟩ I0 [(g)] w' ∧ RepS (dI .u32) w' I0 v871 x870 ∧ OwnS (dI .u32) 131 w' I0 v877 (g) (s.1)) e878 (.c rfl (.c rfl (.c rfl (.c rfl (.c rfl .n))))) ⟨hp, r872, o880⟩ ?_
    rintro ⟨x998, x_0, x_1⟩ e_2 w_3 y_4 ⟨hp, r872, o_5⟩ q_6 q_7
    unfold integer_short_L1 at q_6
    apply go
    apply go
    apply go
    apply go
    refine sel_of (fun hc => ?_) (fun hc => ?_)
    ·
      have q_6 := cond_t q_6 hc
      apply go
      apply go
      apply go
      apply go
      obtain ⟨x_8, q_9, q_6⟩ := bind_some q_6
      refine ev_index rfl rfl rfl Tryd.underlying27 T131 r872 q_9 ?_
      intro p_a c_b d_c a_d
      obtain rfl : c_b = [(.int .u32 x_8)] := d_c
      refine ev (rn_load rfl rfl (run_loadVar1 T131 (a_d.2 0 _ rfl))) ?_
      obtain ⟨⟨x_e, x_f⟩, q_g, q_6⟩ := bind_some q_6
      refine ev_call rfl rfl C104 (((bits_Div32_ok n) _ _  x_0 x_8 x873 hp.imm _ q_g).mono ?_)
      rintro _ w_h ⟨rfl, hc⟩
      have hs := hp.stp hc
      replace hp := hp.ext hc
      replace r872 := r872.step hs
      replace o_5 := o_5.step hs
      obtain ⟨x_i, q_j, q_6⟩ := bind_some q_6
      refine ev_indexO rfl rfl rfl Tryd.underlying27 T131 o_5 q_j ?_
      intro g_k c_l h_m d_n l_o
      refine ev_storeE hp (i := 0) rfl h_m rfl rfl rfl T131 o_5 q_j (x0 := x_e) rfl ?_
      intro e_p w_q hp hs o_r
      replace r872 := r872.step hs
      apply go
      exact ⟨_, (Option.some.inj q_6).symm, e_p, (.c rfl (.c rfl (.c rfl (.c rfl (.c rfl .n))))), ⟨hp, r872, o_r⟩⟩
    ·
      have q_6 := cond_f q_6 hc
      apply go
      have q_s := congrArg some (q_7 _ (Option.some.inj q_6).symm)
      obtain rfl := Option.some.inj q_s
      exact ⟨(x998, x_0, e_2), (.c rfl (.c rfl .n)), rfl, hp, o_5⟩
  ·
    rintro ⟨x967, x971, e969⟩ w972 ⟨hy, hp, o970⟩
    replace hy := hy.symm
    subst hy
    apply go
    apply go
    apply go
    obtain rfl := Option.some.inj h
    have r_t := o970.frz hp (i := 0) rfl
    obtain ⟨hp, hs⟩ := freeze_hp hp (i := 0) rfl
    have hp := hp.sel [] (by decide)
    exact ⟨(Ad I0 e969), v877, rfl, hp, r_t⟩

end Go.Proofs.YtcdboppghnchpaaDoor

namespace Go.Proofs.YtcdboppghnchpaaDoor
open Go Go.Proofs.YtcdboppghnchpaaDoor.Gw Go.RowKit
set_option linter.unusedVariables false
attribute [local irreducible] Ev EvQ EvS EvH
def bits_Len32_S (f : Int → Option Int) : Prop := ∀ (w0 : World) (I0 : Nat → Prop) (x_0 : Int) (hI : ∀ g, I0 g → g < w0.heap.size) (r : Int), f x_0 = some r →
    Ret Tryd.prog 125 #[(.int .u32 x_0)] w0 fun v w1 => v = (.int .i64 r) ∧ Ch [] w0 w1
theorem bits_Len32_ok (n : Nat) : bits_Len32_S (bits_Len32 n) := by
  intro w0 I0 x_0 hI r h
  unfold bits_Len32 at h
  refine enter Tryd.func125 rfl (Nat.le_of_ble_eq_true rfl) ?_
  have hp : Hp ⟨w0, I0, []⟩ I0 [] w0 := Hp.start hI
  apply go
  apply go
  obtain ⟨y_1, q_2, h⟩ := bind_some h
  refine W.cut (γ := (Int × Int)) (fun g => [(0, (.int .u32 (g.1))), (2, (.int .i64 (g.2)))]) (fun g w' => y_1 = ((g.1), (g.2)) ∧ w0 = w') ?_ ?_
  ·
    apply go
    apply go
    apply go
    refine sel_of (fun hc => ?_) (fun hc => ?_)
    ·
      have q_2 := cond_t q_2 hc
      apply go
      apply go
      refine ⟨by decide, ?_⟩
      apply go
      obtain rfl := Option.some.inj q_2
      exact ⟨((x_0.fdiv (2 ^ min (16 : Int).toNat (IntKind.u32).bits)), 16), (.c rfl (.c rfl .n)), rfl, rfl⟩
    ·
      have q_2 := cond_f q_2 hc
      apply go
      obtain rfl := Option.some.inj q_2
      exact ⟨(x_0, 0), (.c rfl (.c rfl .n)), rfl, rfl⟩
  ·
    rintro ⟨x_3, x_4⟩ _ ⟨hy, rfl⟩
    replace hy := hy.symm
    subst hy
    obtain ⟨y_5, q_6, h⟩ := bind_some h
    refine W.cut (γ := (Int × Int)) (fun g => [(0, (.int .u32 (g.1))), (2, (.int .i64 (g.2)))]) (fun g w' => y_5 = ((g.1), (g.2)) ∧ w0 = w') ?_ ?_
    ·
      apply go
      apply go
      apply go
      refine sel_of (fun hc => ?_) (fun hc => ?_)
      ·
        have q_6 := cond_t q_6 hc
        apply go
        apply go
        refine ⟨by decide, ?_⟩
        apply go
        obtain rfl := Option.some.inj q_6
        exact ⟨((x_3.fdiv (2 ^ min (8 : Int).toNat (IntKind.u32).bits)), (IntKind.i64.wrap (x_4 + 8))), (.c rfl (.c rfl .n)), rfl, rfl⟩
      ·
        have q_6 := cond_f q_6 hc
        apply go
        obtain rfl := Option.some.inj q_6
        exact ⟨(x_3, x_4), (.c rfl (.c rfl .n)), rfl, rfl⟩
    ·
      rintro ⟨x_7, x_8⟩ _ ⟨hy, rfl⟩
      replace hy := hy.symm
      subst hy
      apply go
      apply go
      refine ev0 (rn_conv rfl rfl U131 Tryd.underlying5) ?_
      obtain ⟨x_9, q_a, h⟩ := bind_some h
      refine ev0 (rn_indexS rfl rfl rfl Tryd.underlying9 q_a) ?_
      refine ev0 (rn_conv rfl rfl U5 Tryd.underlying3) ?_
      apply go
      obtain rfl := Option.some.inj h
      exact ⟨rfl, hp.ch⟩

end Go.Proofs.YtcdboppghnchpaaDoor

namespace Go.Proofs.YtcdboppghnchpaaDoor
open Go Go.Proofs.YtcdboppghnchpaaDoor.Gw Go.RowKit
set_option linter.unusedVariables false
attribute [local irreducible] Ev EvQ EvS EvH
def bits_LeadingZeros32_S (f : Int → Option Int) : Prop := ∀ (w0 : World) (I0 : Nat → Prop) (x_0 : Int) (hI : ∀ g, I0 g → g < w0.heap.size) (r : Int), f x_0 = some r →
    Ret Tryd.prog 110 #[(.int .u32 x_0)] w0 fun v w1 => v = (.int .i64 r) ∧ Ch [] w0 w1
theorem bits_LeadingZeros32_ok (n : Nat) : bits_LeadingZeros32_S (bits_LeadingZeros32 n) := by
  intro w0 I0 x_0 hI r h
  unfold bits_LeadingZeros32 at h
  refine enter Tryd.func110 rfl (Nat.le_of_ble_eq_true rfl) ?_
  have hp : Hp ⟨w0, I0, []⟩ I0 [] w0 := Hp.start hI
  apply go
  apply go
  apply go
  apply go
  obtain ⟨x_1, q_2, h⟩ := bind_some h
  refine ev_call rfl rfl C125 (((bits_Len32_ok n) _ _  x_0 hp.imm _ q_2).mono ?_)
  rintro _ w_3 ⟨rfl, hc⟩
  have hs := hp.stp hc
  replace hp := hp.ext hc
  apply go
  obtain rfl := Option.some.inj h
  exact ⟨rfl, hp.ch⟩

end Go.Proofs.YtcdboppghnchpaaDoor

namespace Go.Proofs.YtcdboppghnchpaaDoor
open Go Go.Proofs.YtcdboppghnchpaaDoor.Gw Go.RowKit
set_option linter.unusedVariables false
attribute [local irreducible] Ev EvQ EvS EvH
def integer_shifted_S (f : (List Int) → Int → Option (List Int)) : Prop := ∀ (w0 : World) (I0 : Nat → Prop) (x_0 : (List Int)) (v_1 : Value) (r_2 : RepS (dI .u32) w0 I0 v_1 x_0) (x_3 : Int) (hI : ∀ g, I0 g → g < w0.heap.size) (r : (List Int)), f x_0 x_3 = some r →
    Ret Tryd.prog 111 #[v_1, (.int .u64 x_3)] w0 fun v w1 => ∃ (I1 : Nat → Prop) (u_4 : Value) (u_5 : Ent), v = u_4 ∧ Hp ⟨w0, I0, []⟩ I1 [u_5] w1 ∧ OwnS (dI .u32) 131 w1 I1 u_4 u_5 r
theorem integer_shifted_ok (n : Nat) : integer_shifted_S (integer_shifted n) := by
  intro w0 I0 x_0 v_1 r_2 x_3 hI r h
  unfold integer_shifted at h
  refine enter Tryd.func111 rfl (Nat.le_of_ble_eq_true rfl) ?_
  have hp : Hp ⟨w0, I0, []⟩ I0 [] w0 := Hp.start hI
  apply go
  apply go
  apply go
  apply go
  refine ev0 (rn_len rfl rfl Tryd.underlying27 r_2) ?_
  obtain ⟨x_4, q_5, h⟩ := bind_some h
  refine ev_make (d := (dI .u32)) (x0 := 0) hp rfl rfl rfl Tryd.underlying27 T131 (fun _ _ => rfl) (Nat.le_of_ble_eq_true rfl) q_5 ?_
  intro v_6 e_7 w_8 hp hs o_9
  replace r_2 := r_2.step hs
  obtain ⟨y_a, q_b, h⟩ := bind_some h
  refine W.cut (γ := ((List Int) × Ent)) (fun g => [(5, v_6)]) (fun g w' => y_a = (g.1) ∧ Hp ⟨w0, I0, []⟩ I0 [(g.2)] w' ∧ OwnS (dI .u32) 131 w' I0 v_6 (g.2) (g.1)) ?_ ?_
  ·
    apply go
    apply go
    refine ev0 (rn_len rfl rfl Tryd.underlying27 r_2) ?_
    apply go
    refine W.loop q_b (γ := Ent) (fun s g => [(1, (.int .u64 x_3)), (5, v_6), (13, v_1), (14, (.int .i64 (x_0.length : Int))), (15, (.int .i64 (s.2)))]) (fun s g w' => Hp ⟨w0, I0, []⟩ I0 [(g)] w' ∧ OwnS (dI .u32) 131 w' I0 v_6 (g) (s.1) ∧ RepS (dI .u32) w' I0 v_1 x_0) e_7 (.c rfl (.c rfl (.c rfl (.c rfl (.c rfl .n))))) ⟨hp, o_9, r_2⟩ ?_
    rintro ⟨x_c, x_d⟩ e_e w_f y_g ⟨hp, o_h, r_2⟩ q_i q_j
    unfold integer_shifted_L1 at q_i
    apply go
    apply go
    apply go
    apply go
    refine sel_of (fun hc => ?_) (fun hc => ?_)
    ·
      have q_i := cond_t q_i hc
      apply go
      apply go
      apply go
      apply go
      apply go
      obtain ⟨x_k, q_l, q_i⟩ := bind_some q_i
      refine ev_index rfl rfl rfl Tryd.underlying27 T131 r_2 q_l ?_
      intro p_m c_n d_o a_p
      obtain rfl : c_n = [(.int .u32 x_k)] := d_o
      refine ev (rn_load rfl rfl (run_loadVar1 T131 (a_p.2 0 _ rfl))) ?_
      apply go
      apply go
      refine ev0 (rn_conv rfl rfl U131 Tryd.underlying129) ?_
      obtain ⟨q_q, _, q_i⟩ := need_some q_i
      refine ⟨q_q, ?_⟩
      apply go
      apply go
      obtain ⟨x_r, q_s, q_i⟩ := bind_some q_i
      refine ev_indexO rfl rfl rfl Tryd.underlying27 T131 o_h q_s ?_
      intro g_t c_u h_v d_w l_x
      refine ev (rn_load rfl rfl (run_loadVar1 T131 (hp.cellE (i := 0) rfl h_v d_w (j := 0) rfl))) ?_
      refine ev0 (rn_conv rfl rfl U129 Tryd.underlying131) ?_
      obtain ⟨x_y, q_z, q_i⟩ := bind_some q_i
      refine ev_indexO rfl rfl rfl Tryd.underlying27 T131 o_h q_z ?_
      intro g_10 c_11 h_12 d_13 l_14
      refine ev_storeE hp (i := 0) rfl h_12 rfl rfl rfl T131 o_h q_z (x0 := (ib .or .u32 x_r (IntKind.u32.wrap (IntKind.u64.wrap ((IntKind.u64.wrap x_k) * 2 ^ min x_3.toNat (IntKind.u64).bits))))) rfl ?_
      intro e_15 w_16 hp hs o_17
      replace r_2 := r_2.step hs
      apply go
      refine ⟨by decide, ?_⟩
      refine ev0 (rn_conv rfl rfl U129 Tryd.underlying131) ?_
      obtain ⟨x_18, q_19, q_i⟩ := bind_some q_i
      refine ev_indexO rfl rfl rfl Tryd.underlying27 T131 o_17 q_19 ?_
      intro g_1a c_1b h_1c d_1d l_1e
      refine ev_storeE hp (i := 0) rfl h_1c rfl rfl rfl T131 o_17 q_19 (x0 := (IntKind.u32.wrap ((IntKind.u64.wrap ((IntKind.u64.wrap x_k) * 2 ^ min x_3.toNat (IntKind.u64).bits)).fdiv (2 ^ min (32 : Int).toNat (IntKind.u64).bits)))) rfl ?_
      intro e_1f w_1g hp hs o_1h
      replace r_2 := r_2.step hs
      apply go
      exact ⟨_, (Option.some.inj q_i).symm, e_1f, (.c rfl (.c rfl (.c rfl (.c rfl (.c rfl .n))))), ⟨hp, o_1h, r_2⟩⟩
    ·
      have q_i := cond_f q_i hc
      apply go
      have q_1i := congrArg some (q_j _ (Option.some.inj q_i).symm)
      obtain rfl := Option.some.inj q_1i
      exact ⟨(x_c, e_e), (.c rfl .n), rfl, hp, o_h⟩
  ·
    rintro ⟨x_1j, e_1k⟩ w_1l ⟨hy, hp, o_1m⟩
    replace hy := hy.symm
    subst hy
    apply go
    apply go
    apply go
    obtain rfl := Option.some.inj h
    exact ⟨I0, v_6, e_1k, rfl, hp, o_1m⟩

end Go.Proofs.YtcdboppghnchpaaDoor

namespace Go.Proofs.YtcdboppghnchpaaDoor
open Go Go.Proofs.YtcdboppghnchpaaDoor.Gw Go.RowKit
set_option linter.unusedVariables false
attribute [local irreducible] Ev EvQ EvS EvH
def integer_divide_S (f : (List Int) → (List Int) → Option ((List Int) × (List Int))) : Prop := ∀ (w0 : World) (I0 : Nat → Prop) (x_0 : (List Int)) (v_1 : Value) (r_2 : RepS (dI .u32) w0 I0 v_1 x_0) (x_3 : (List Int)) (v_4 : Value) (r_5 : RepS (dI .u32) w0 I0 v_4 x_3) (hI : ∀ g, I0 g → g < w0.heap.size) (r : ((List Int) × (List Int))), f x_0 x_3 = some r →
    Ret Tryd.prog 95 #[v_1, v_4] w0 fun v w1 => ∃ (I1 : Nat → Prop) (u_6 : Value) (u_7 : Value), v = (.tuple #[u_6, u_7]) ∧ Hp ⟨w0, I0, []⟩ I1 [] w1 ∧ RepS (dI .u32) w1 I1 u_6 r.1 ∧ RepS (dI .u32) w1 I1 u_7 r.2
theorem integer_divide_ok (n : Nat) : integer_divide_S (integer_divide n) := by
  intro w0 I0 x_0 v_1 r_2 x_3 v_4 r_5 hI r h
  unfold integer_divide at h
  refine enter Tryd.func95 rfl (Nat.le_of_ble_eq_true rfl) ?_
  have hp : Hp ⟨w0, I0, []⟩ I0 [] w0 := Hp.start hI
  apply go
  apply go
  apply go
  apply go
  apply go
  obtain ⟨x_6, q_7, h⟩ := bind_some h
  refine ev_call rfl rfl C69 (((integer_compare_ok n) _ _  x_0 v_1 r_2 x_3 v_4 r_5 hp.imm _ q_7).mono ?_)
  rintro _ w_8 ⟨rfl, hc⟩
  have hs := hp.stp hc
  replace hp := hp.ext hc
  replace r_2 := r_2.step hs
  replace r_5 := r_5.step hs
  apply go
  refine sel_of (fun hc => ?_) (fun hc => ?_)
  ·
    have h := cond_t h hc
    apply go
    apply go
    obtain ⟨x_9, q_a, h⟩ := bind_some h
    refine ev_call rfl rfl C87 (((slices_Cloneuint32_uint32__ok n) _ _  x_0 v_1 r_2 hp.imm _ q_a).mono ?_)
    rintro _ w_b ⟨I_c, v_d, hv, hq, r_e⟩
    replace hv := hv.symm
    subst hv
    have hs := hq.st
    have hp := hp.join0 hq
    apply go
    obtain rfl := Option.some.inj h
    exact ⟨I_c, .slice none 0 0, v_d, rfl, hp, RepS.nil _ _ _, r_e⟩
  ·
    have h := cond_f h hc
    apply go
    apply go
    apply go
    apply go
    refine ev0 (rn_len rfl rfl Tryd.underlying27 r_5) ?_
    apply go
    refine sel_of (fun hc => ?_) (fun hc => ?_)
    ·
      have h := cond_t h hc
      apply go
      apply go
      obtain ⟨x_f, q_g, h⟩ := bind_some h
      refine ev_index rfl rfl rfl Tryd.underlying27 T131 r_5 q_g ?_
      intro p_h c_i d_j a_k
      obtain rfl : c_i = [(.int .u32 x_f)] := d_j
      refine ev (rn_load rfl rfl (run_loadVar1 T131 (a_k.2 0 _ rfl))) ?_
      obtain ⟨⟨x_l, x_m⟩, q_n, h⟩ := bind_some h
      refine ev_call rfl rfl C88 (((integer_short_ok n) _ _  x_0 v_1 r_2 x_f hp.imm _ q_n).mono ?_)
      rintro _ w_o ⟨I_p, v_q, hv, hq, r_r⟩
      replace hv := hv.symm
      subst hv
      have hs := hq.st
      have hp := hp.join0 hq
      apply go
      apply go
      refine ev_litN (d := (dI .u32)) (xs := [x_m]) (cs := [(.int .u32 x_m)]) hp rfl rfl Tryd.underlying27 T131 (by decide) rfl rfl (Elems.cons (d := (dI .u32)) (xs := _) rfl (Elems.nil _ _ _ _)) ?_
      intro v_s I_t w_u hp hs r_v
      replace r_r := r_r.step hs
      apply go
      obtain rfl := Option.some.inj h
      exact ⟨I_t, v_q, v_s, rfl, hp, r_r, r_v⟩
    ·
      have h := cond_f h hc
      apply go
      apply go
      apply go
      refine ev0 (rn_len rfl rfl Tryd.underlying27 r_5) ?_
      obtain ⟨x_w, q_x, h⟩ := bind_some h
      refine ev_index rfl rfl rfl Tryd.underlying27 T131 r_5 q_x ?_
      intro p_y c_z d_10 a_11
      obtain rfl : c_z = [(.int .u32 x_w)] := d_10
      refine ev (rn_load rfl rfl (run_loadVar1 T131 (a_11.2 0 _ rfl))) ?_
      obtain ⟨x_12, q_13, h⟩ := bind_some h
      refine ev_call rfl rfl C110 (((bits_LeadingZeros32_ok n) _ _  x_w hp.imm _ q_13).mono ?_)
      rintro _ w_14 ⟨rfl, hc⟩
      have hs := hp.stp hc
      replace hp := hp.ext hc
      replace r_2 := r_2.step hs
      replace r_5 := r_5.step hs
      refine ev0 (rn_conv rfl rfl U3 Tryd.underlying132) ?_
      apply go
      have hs := hp.stp (Ch.drew [] w_14)
      have hp := hp.drew
      replace r_2 := r_2.step hs
      replace r_5 := r_5.step hs
      refine W.held [(0, true), (1, true), (3, true), (4, true), (6, true), (7, true), (2, false), (5, false), (9, true), (8, false), (10, true)] (Stp I0 w_14.drew I0) MX (by kernel_rfl) (Stp.refl _ _) ?_
      have hz := Stp.refl I0 w_14.drew
      refine evh0 (rn_len rfl rfl Tryd.underlying27 r_5) ?_
      obtain ⟨x_15, q_16, h⟩ := bind_some h
      refine ev_call rfl rfl C111 (((integer_shifted_ok n) _ _  x_0 v_1 r_2 (IntKind.u64.wrap x_12) hp.imm _ q_16).mono ?_)
      rintro _ w_17 ⟨I_18, v_19, e_1a, hv, hq, o_1b⟩
      replace hv := hv.symm
      subst hv
      have hs := hq.st
      have hp := hp.join0 hq
      replace hz := hz.trans hs
      replace r_5 := r_5.step hs
      refine ⟨Stp I_18 w_17 I_18, Stp.refl _ _, fun x hx => hz.held hx, ?_⟩
      have hz := Stp.refl I_18 w_17
      obtain ⟨x_1c, q_1d, h⟩ := bind_some h
      refine ev_call rfl rfl C111 (((integer_shifted_ok n) _ _  x_3 v_4 r_5 (IntKind.u64.wrap x_12) hp.imm _ q_1d).mono ?_)
      rintro _ w_1e ⟨I_1f, v_1g, e_1h, hv, hq, o_1i⟩
      replace hv := hv.symm
      subst hv
      have hs := hq.st
      have hp := hp.join0 hq
      replace hz := hz.trans hs
      replace o_1b := o_1b.step hs
      refine ⟨Stp I_1f w_1e I_1f, Stp.refl _ _, fun x hx => hz.held hx, ?_⟩
      have hz := Stp.refl I_1f w_1e
      have r_1j := o_1i.frz hp (i := 0) rfl
      obtain ⟨hp, hs⟩ := freeze_hp hp (i := 0) rfl
      replace hz := hz.trans hs
      replace o_1b := o_1b.step hs
      have hp := hp.sel [1] (by decide)
      obtain ⟨x_1k, q_1l, h⟩ := bind_some h
      refine ev_slice (kl := .i64) (kh := .i64) rfl rfl rfl rfl Tryd.underlying27 T131 r_1j q_1l ?_
      intro v_1m r_1n
      refine ⟨Stp (Ad I_1f e_1h) w_1e (Ad I_1f e_1h), Stp.refl _ _, fun x hx => hz.held hx, ?_⟩
      have hz := Stp.refl (Ad I_1f e_1h) w_1e
      apply go
      apply go
      refine ev0 (rn_len rfl rfl Tryd.underlying27 r_1n) ?_
      apply go
      apply go
      refine ev0 (x_lenO rfl rfl Tryd.underlying27 o_1b) ?_
      obtain ⟨x_1o, q_1p, h⟩ := bind_some h
      refine ev_make (d := (dI .u32)) (x0 := 0) hp rfl rfl rfl Tryd.underlying27 T131 (fun _ _ => rfl) (Nat.le_of_ble_eq_true rfl) q_1p ?_
      intro v_1q e_1r w_1s hp hs o_1t
      replace o_1b := o_1b.step hs
      replace r_1n := r_1n.step hs
      obtain ⟨y_1u, q_1v, h⟩ := bind_some h
      refine W.cut (γ := ((List Int) × (List Int) × Ent × Ent)) (fun g => [(8, (.int .u64 (IntKind.u64.wrap x_12))), (9, v_19), (11, (.int .i64 (x_1k.length : Int))), (12, v_1q)]) (fun g w' => y_1u = ((g.1), (g.2.1)) ∧ Hp ⟨w0, I0, []⟩ (Ad I_1f e_1h) [(g.2.2.1), (g.2.2.2)] w' ∧ OwnS (dI .u32) 131 w' (Ad I_1f e_1h) v_19 (g.2.2.1) (g.1) ∧ OwnS (dI .u32) 131 w' (Ad I_1f e_1h) v_1q (g.2.2.2) (g.2.1)) ?_ ?_
      ·
        apply go
        apply go
        refine ev0 (x_lenO rfl rfl Tryd.underlying27 o_1b) ?_
        apply go
        have hp := hp.perm [1, 0] (by decide)
        refine W.loop q_1v (γ := (Ent × Ent)) (fun s g => [(8, (.int .u64 (IntKind.u64.wrap x_12))), (9, v_19), (10, v_1m), (11, (.int .i64 (x_1k.length : Int))), (12, v_1q), (13, (.int .i64 (s.2.2)))]) (fun s g w' => Hp ⟨w0, I0, []⟩ (Ad I_1f e_1h) [(g.1), (g.2)] w' ∧ OwnS (dI .u32) 131 w' (Ad I_1f e_1h) v_19 (g.1) (s.1) ∧ RepS (dI .u32) w' (Ad I_1f e_1h) v_1m x_1k ∧ OwnS (dI .u32) 131 w' (Ad I_1f e_1h) v_1q (g.2) (s.2.1)) (e_1a, e_1r) (.c rfl (.c rfl (.c rfl (.c rfl (.c rfl (.c rfl .n)))))) ⟨hp, o_1b, r_1n, o_1t⟩ ?_
        rintro ⟨x_1w, x_1x, x_1y⟩ ⟨e_1z, e_20⟩ w_21 y_22 ⟨hp, o_23, r_1n, o_24⟩ q_25 q_26
        unfold integer_divide_L81 at q_25
        apply go
        apply go
        apply go
        apply go
        refine sel_of (fun hc => ?_) (fun hc => ?_)
        ·
          have q_25 := cond_t q_25 hc
          apply go
          obtain ⟨y_27, q_28, q_25⟩ := bind_some q_25
          refine W.cut (γ := ((List Int) × (List Int) × Ent × Ent)) (fun g => [(8, (.int .u64 (IntKind.u64.wrap x_12))), (9, v_19), (10, v_1m), (11, (.int .i64 (x_1k.length : Int))), (12, v_1q), (13, (.int .i64 x_1y))]) (fun g w' => y_27 = ((g.1), (g.2.1)) ∧ Hp ⟨w0, I0, []⟩ (Ad I_1f e_1h) [(g.2.2.1), (g.2.2.2)] w' ∧ OwnS (dI .u32) 131 w' (Ad I_1f e_1h) v_19 (g.2.2.1) (g.1) ∧ RepS (dI .u32) w' (Ad I_1f e_1h) v_1m x_1k ∧ OwnS (dI .u32) 131 w' (Ad I_1f e_1h) v_1q (g.2.2.2) (g.2.1)) ?_ ?_
          ·
            apply go
            apply go
            refine W.quiet (fun w' => Ch [] w_21 w') MX (by kernel_rfl) (Ch.drew [] w_21) ?_
            obtain ⟨x_29, q_2a, q_28⟩ := bind_some q_28
            refine evq_indexO rfl rfl rfl Tryd.underlying27 T131 o_23 q_2a ?_
            intro g_2b c_2c h_2d d_2e l_2f
            refine evq (fun w' hw => rn_load rfl rfl (run_loadVar1 T131 ((hp.ext hw).cellE (i := 0) rfl h_2d d_2e (j := 0) rfl))) ?_
            refine evq0 (rn_conv rfl rfl U131 Tryd.underlying129) ?_
            refine ⟨by decide, ?_⟩
            obtain ⟨x_2g, q_2h, q_28⟩ := bind_some q_28
            refine evq_indexO rfl rfl rfl Tryd.underlying27 T131 o_23 q_2h ?_
            intro g_2i c_2j h_2k d_2l l_2m
            refine evq (fun w' hw => rn_load rfl rfl (run_loadVar1 T131 ((hp.ext hw).cellE (i := 0) rfl h_2k d_2l (j := 0) rfl))) ?_
            refine evq0 (rn_conv rfl rfl U131 Tryd.underlying129) ?_
            intro w_2n hc
            have hs := hp.stp hc
            replace hp := hp.ext hc
            replace o_23 := o_23.step hs
            replace r_1n := r_1n.step hs
            replace o_24 := o_24.step hs
            apply go
            refine W.quiet (fun w' => Ch [] w_2n w') MX (by kernel_rfl) (Ch.drew [] w_2n) ?_
            obtain ⟨x_2o, q_2p, q_28⟩ := bind_some q_28
            refine evq_index rfl rfl rfl Tryd.underlying27 T131 r_1n q_2p ?_
            intro p_2q c_2r d_2s a_2t
            obtain rfl : c_2r = [(.int .u32 x_2o)] := d_2s
            refine evq (fun w' hw => rn_load rfl rfl (run_loadVar1 T131 ((a_2t.step (hp.stp hw)).2 0 _ rfl))) ?_
            refine evq0 (rn_conv rfl rfl U131 Tryd.underlying129) ?_
            obtain ⟨q_2u, _, q_28⟩ := need_some q_28
            refine ⟨q_2u, ?_⟩
            obtain ⟨x_2v, q_2w, q_28⟩ := bind_some q_28
            refine evq_index rfl rfl rfl Tryd.underlying27 T131 r_1n q_2w ?_
            intro p_2x c_2y d_2z a_30
            obtain rfl : c_2y = [(.int .u32 x_2v)] := d_2z
            refine evq (fun w' hw => rn_load rfl rfl (run_loadVar1 T131 ((a_30.step (hp.stp hw)).2 0 _ rfl))) ?_
            refine evq0 (rn_conv rfl rfl U131 Tryd.underlying129) ?_
            obtain ⟨q_31, _, q_28⟩ := need_some q_28
            refine ⟨q_31, ?_⟩
            intro w_32 hc
            have hs := hp.stp hc
            replace hp := hp.ext hc
            replace o_23 := o_23.step hs
            replace r_1n := r_1n.step hs
            replace o_24 := o_24.step hs
            obtain ⟨y_33, q_34, q_28⟩ := bind_some q_28
            refine W.cut (γ := Int) (fun g => [(8, (.int .u64 (IntKind.u64.wrap x_12))), (9, v_19), (10, v_1m), (11, (.int .i64 (x_1k.length : Int))), (12, v_1q), (13, (.int .i64 x_1y)), (15, (.int .u64 (g)))]) (fun g w' => y_33 = (g) ∧ Hp ⟨w0, I0, []⟩ (Ad I_1f e_1h) [e_1z, e_20] w' ∧ OwnS (dI .u32) 131 w' (Ad I_1f e_1h) v_19 e_1z x_1w ∧ RepS (dI .u32) w' (Ad I_1f e_1h) v_1m x_1k ∧ OwnS (dI .u32) 131 w' (Ad I_1f e_1h) v_1q e_20 x_1x) ?_ ?_
            ·
              apply go
              refine W.loop q_34 (γ := Unit) (fun s _ => [(8, (.int .u64 (IntKind.u64.wrap x_12))), (9, v_19), (10, v_1m), (11, (.int .i64 (x_1k.length : Int))), (12, v_1q), (13, (.int .i64 x_1y)), (15, (.int .u64 (s.1))), (16, (.int .u64 (s.2)))]) (fun s _ w' => Hp ⟨w0, I0, []⟩ (Ad I_1f e_1h) [e_1z, e_20] w' ∧ OwnS (dI .u32) 131 w' (Ad I_1f e_1h) v_19 e_1z x_1w ∧ RepS (dI .u32) w' (Ad I_1f e_1h) v_1m x_1k ∧ OwnS (dI .u32) 131 w' (Ad I_1f e_1h) v_1q e_20 x_1x) () (.c rfl (.c rfl (.c rfl (.c rfl (.c rfl (.c rfl (.c rfl (.c rfl .n)))))))) ⟨hp, o_23, r_1n, o_24⟩ ?_
              rintro ⟨x_35, x_36⟩ ⟨⟩ w_37 y_38 ⟨hp, o_23, r_1n, o_24⟩ q_39 q_3a
              unfold integer_divide_L91 at q_39
              apply go
              obtain ⟨y_3b, q_3c, q_39⟩ := bind_some q_39
              refine W.cut (γ := Bool) (fun g => [(8, (.int .u64 (IntKind.u64.wrap x_12))), (9, v_19), (10, v_1m), (11, (.int .i64 (x_1k.length : Int))), (12, v_1q), (13, (.int .i64 x_1y)), (15, (.int .u64 x_35)), (16, (.int .u64 x_36)), (136, (.bool (g)))]) (fun g w' => y_3b = (g) ∧ Hp ⟨w0, I0, []⟩ (Ad I_1f e_1h) [e_1z, e_20] w' ∧ OwnS (dI .u32) 131 w' (Ad I_1f e_1h) v_19 e_1z x_1w ∧ RepS (dI .u32) w' (Ad I_1f e_1h) v_1m x_1k ∧ OwnS (dI .u32) 131 w' (Ad I_1f e_1h) v_1q e_20 x_1x) ?_ ?_
              ·
                refine W.quiet (fun w' => Ch [] w_37 w') MX (by kernel_rfl) (Ch.drew [] w_37) ?_
                refine sel_of (fun hc => ?_) (fun hc => ?_)
                ·
                  have q_3c := cond_t q_3c hc
                  intro w_3d hc
                  have hs := hp.stp hc
                  replace hp := hp.ext hc
                  replace o_23 := o_23.step hs
                  replace r_1n := r_1n.step hs
                  replace o_24 := o_24.step hs
                  obtain rfl := Option.some.inj q_3c
                  exact ⟨true, (.c rfl (.c rfl (.c rfl (.c rfl (.c rfl (.c rfl (.c rfl (.c rfl (.c rfl .n))))))))), rfl, hp, o_23, r_1n, o_24⟩
                ·
                  have q_3c := cond_f q_3c hc
                  obtain ⟨x_3e, q_3f, q_3c⟩ := bind_some q_3c
                  refine evq_index rfl rfl rfl Tryd.underlying27 T131 r_1n q_3f ?_
                  intro p_3g c_3h d_3i a_3j
                  obtain rfl : c_3h = [(.int .u32 x_3e)] := d_3i
                  refine evq (fun w' hw => rn_load rfl rfl (run_loadVar1 T131 ((a_3j.step (hp.stp hw)).2 0 _ rfl))) ?_
                  refine evq0 (rn_conv rfl rfl U131 Tryd.underlying129) ?_
                  refine ⟨by decide, ?_⟩
                  obtain ⟨x_3k, q_3l, q_3c⟩ := bind_some q_3c
                  refine evq_indexO rfl rfl rfl Tryd.underlying27 T131 o_23 q_3l ?_
                  intro g_3m c_3n h_3o d_3p l_3q
                  refine evq (fun w' hw => rn_load rfl rfl (run_loadVar1 T131 ((hp.ext hw).cellE (i := 0) rfl h_3o d_3p (j := 0) rfl))) ?_
                  refine evq0 (rn_conv rfl rfl U131 Tryd.underlying129) ?_
                  intro w_3r hc
                  have hs := hp.stp hc
                  replace hp := hp.ext hc
                  replace o_23 := o_23.step hs
                  replace r_1n := r_1n.step hs
                  replace o_24 := o_24.step hs
                  replace a_3j := a_3j.step hs
                  obtain rfl := Option.some.inj q_3c
                  exact ⟨(decide ((IntKind.u64.wrap (x_35 * (IntKind.u64.wrap x_3e))) > (ib .or .u64 (IntKind.u64.wrap (x_36 * 2 ^ min (32 : Int).toNat (IntKind.u64).bits)) (IntKind.u64.wrap x_3k)))), (.c rfl (.c rfl (.c rfl (.c rfl (.c rfl (.c rfl (.c rfl (.c rfl (.c rfl .n))))))))), rfl, hp, o_23, r_1n, o_24⟩
              ·
                rintro x_3s w_3t ⟨hy, hp, o_23, r_1n, o_24⟩
                replace hy := hy.symm
                subst hy
                apply go
                refine sel_of (fun hc => ?_) (fun hc => ?_)
                ·
                  have q_39 := cond_t q_39 hc
                  apply go
                  apply go
                  apply go
                  apply go
                  apply go
                  apply go
                  obtain ⟨x_3u, q_3v, q_39⟩ := bind_some q_39
                  refine ev_index rfl rfl rfl Tryd.underlying27 T131 r_1n q_3v ?_
                  intro p_3w c_3x d_3y a_3z
                  obtain rfl : c_3x = [(.int .u32 x_3u)] := d_3y
                  refine ev (rn_load rfl rfl (run_loadVar1 T131 (a_3z.2 0 _ rfl))) ?_
                  refine ev0 (rn_conv rfl rfl U131 Tryd.underlying129) ?_
                  apply go
                  apply go
                  apply go
                  refine sel_of (fun hc => ?_) (fun hc => ?_)
                  ·
                    have q_39 := cond_t q_39 hc
                    apply go
                    have q_40 := congrArg some (q_3a _ (Option.some.inj q_39).symm)
                    obtain rfl := Option.some.inj q_40
                    exact ⟨(IntKind.u64.wrap (x_35 - 1)), (.c rfl (.c rfl (.c rfl (.c rfl (.c rfl (.c rfl (.c rfl .n))))))), rfl, hp, o_23, r_1n, o_24⟩
                  ·
                    have q_39 := cond_f q_39 hc
                    apply go
                    exact ⟨_, (Option.some.inj q_39).symm, (), (.c rfl (.c rfl (.c rfl (.c rfl (.c rfl (.c rfl (.c rfl (.c rfl .n)))))))), ⟨hp, o_23, r_1n, o_24⟩⟩
                ·
                  have q_39 := cond_f q_39 hc
                  apply go
                  have q_41 := congrArg some (q_3a _ (Option.some.inj q_39).symm)
                  obtain rfl := Option.some.inj q_41
                  exact ⟨x_35, (.c rfl (.c rfl (.c rfl (.c rfl (.c rfl (.c rfl (.c rfl .n))))))), rfl, hp, o_23, r_1n, o_24⟩
            ·
              rintro x_42 w_43 ⟨hy, hp, o_23, r_1n, o_24⟩
              replace hy := hy.symm
              subst hy
              apply go
              apply go
              apply go
              apply go
              obtain ⟨y_44, q_45, q_28⟩ := bind_some q_28
              refine W.cut (γ := ((List Int) × Int × Int × Ent)) (fun g => [(8, (.int .u64 (IntKind.u64.wrap x_12))), (9, v_19), (10, v_1m), (11, (.int .i64 (x_1k.length : Int))), (12, v_1q), (13, (.int .i64 x_1y)), (15, (.int .u64 x_42)), (17, (.int .u64 (g.2.1))), (18, (.int .u32 (g.2.2.1)))]) (fun g w' => y_44 = ((g.1), (g.2.1), (g.2.2.1)) ∧ Hp ⟨w0, I0, []⟩ (Ad I_1f e_1h) [(g.2.2.2), e_20] w' ∧ OwnS (dI .u32) 131 w' (Ad I_1f e_1h) v_19 (g.2.2.2) (g.1) ∧ RepS (dI .u32) w' (Ad I_1f e_1h) v_1m x_1k ∧ OwnS (dI .u32) 131 w' (Ad I_1f e_1h) v_1q e_20 x_1x) ?_ ?_
              ·
                apply go
                apply go
                refine ev0 (rn_len rfl rfl Tryd.underlying27 r_1n) ?_
                apply go
                refine W.loop q_45 (γ := Ent) (fun s g => [(8, (.int .u64 (IntKind.u64.wrap x_12))), (9, v_19), (10, v_1m), (11, (.int .i64 (x_1k.length : Int))), (12, v_1q), (13, (.int .i64 x_1y)), (15, (.int .u64 x_42)), (17, (.int .u64 (s.2.1))), (18, (.int .u32 (s.2.2.1))), (149, v_1m), (150, (.int .i64 (x_1k.length : Int))), (151, (.int .i64 (s.2.2.2)))]) (fun s g w' => Hp ⟨w0, I0, []⟩ (Ad I_1f e_1h) [(g), e_20] w' ∧ OwnS (dI .u32) 131 w' (Ad I_1f e_1h) v_19 (g) (s.1) ∧ RepS (dI .u32) w' (Ad I_1f e_1h) v_1m x_1k ∧ OwnS (dI .u32) 131 w' (Ad I_1f e_1h) v_1q e_20 x_1x) e_1z (.c rfl (.c rfl (.c rfl (.c rfl (.c rfl (.c rfl (.c rfl (.c rfl (.c rfl (.c rfl (.c rfl (.c rfl .n)))))))))))) ⟨hp, o_23, r_1n, o_24⟩ ?_
                rintro ⟨x_46, x_47, x_48, x_49⟩ e_4a w_4b y_4c ⟨hp, o_4d, r_1n, o_24⟩ q_4e q_4f
                unfold integer_divide_L93 at q_4e
                apply go
                apply go
                apply go
                apply go
                refine sel_of (fun hc => ?_) (fun hc => ?_)
                ·
                  have q_4e := cond_t q_4e hc
                  apply go
                  apply go
                  apply go
                  apply go
                  apply go
                  obtain ⟨x_4g, q_4h, q_4e⟩ := bind_some q_4e
                  refine ev_index rfl rfl rfl Tryd.underlying27 T131 r_1n q_4h ?_
                  intro p_4i c_4j d_4k a_4l
                  obtain rfl : c_4j = [(.int .u32 x_4g)] := d_4k
                  refine ev (rn_load rfl rfl (run_loadVar1 T131 (a_4l.2 0 _ rfl))) ?_
                  apply go
                  apply go
                  refine ev0 (rn_conv rfl rfl U131 Tryd.underlying129) ?_
                  apply go
                  apply go
                  refine ⟨by decide, ?_⟩
                  apply go
                  obtain ⟨x_4m, q_4n, q_4e⟩ := bind_some q_4e
                  refine ev_indexO rfl rfl rfl Tryd.underlying27 T131 o_4d q_4n ?_
                  intro g_4o c_4p h_4q d_4r l_4s
                  refine ev (rn_load rfl rfl (run_loadVar1 T131 (hp.cellE (i := 0) rfl h_4q d_4r (j := 0) rfl))) ?_
                  refine ev0 (rn_conv rfl rfl U129 Tryd.underlying131) ?_
                  obtain ⟨⟨x_4t, x_4u⟩, q_4v, q_4e⟩ := bind_some q_4e
                  refine ev_call rfl rfl C97 (((bits_Sub32_ok n) _ _  x_4m (IntKind.u32.wrap (IntKind.u64.wrap ((IntKind.u64.wrap (x_42 * (IntKind.u64.wrap x_4g))) + x_47))) x_48 hp.imm _ q_4v).mono ?_)
                  rintro _ w_4w ⟨rfl, hc⟩
                  have hs := hp.stp hc
                  replace hp := hp.ext hc
                  replace o_4d := o_4d.step hs
                  replace r_1n := r_1n.step hs
                  replace o_24 := o_24.step hs
                  obtain ⟨x_4x, q_4y, q_4e⟩ := bind_some q_4e
                  refine ev_indexO rfl rfl rfl Tryd.underlying27 T131 o_4d q_4y ?_
                  intro g_4z c_50 h_51 d_52 l_53
                  refine ev_storeE hp (i := 0) rfl h_51 rfl rfl rfl T131 o_4d q_4y (x0 := x_4t) rfl ?_
                  intro e_54 w_55 hp hs o_56
                  replace r_1n := r_1n.step hs
                  replace o_24 := o_24.step hs
                  apply go
                  exact ⟨_, (Option.some.inj q_4e).symm, e_54, (.c rfl (.c rfl (.c rfl (.c rfl (.c rfl (.c rfl (.c rfl (.c rfl (.c rfl (.c rfl (.c rfl (.c rfl .n)))))))))))), ⟨hp, o_56, r_1n, o_24⟩⟩
                ·
                  have q_4e := cond_f q_4e hc
                  apply go
                  have q_57 := congrArg some (q_4f _ (Option.some.inj q_4e).symm)
                  obtain rfl := Option.some.inj q_57
                  exact ⟨(x_46, x_47, x_48, e_4a), (.c rfl (.c rfl (.c rfl (.c rfl (.c rfl (.c rfl (.c rfl (.c rfl (.c rfl .n))))))))), rfl, hp, o_4d, r_1n, o_24⟩
              ·
                rintro ⟨x_58, x_59, x_5a, e_5b⟩ w_5c ⟨hy, hp, o_5d, r_1n, o_24⟩
                replace hy := hy.symm
                subst hy
                apply go
                apply go
                obtain ⟨x_5e, q_5f, q_28⟩ := bind_some q_28
                refine ev_indexO rfl rfl rfl Tryd.underlying27 T131 o_5d q_5f ?_
                intro g_5g c_5h h_5i d_5j l_5k
                refine ev (rn_load rfl rfl (run_loadVar1 T131 (hp.cellE (i := 0) rfl h_5i d_5j (j := 0) rfl))) ?_
                refine ev0 (rn_conv rfl rfl U129 Tryd.underlying131) ?_
                obtain ⟨⟨x_5l, x_5m⟩, q_5n, q_28⟩ := bind_some q_28
                refine ev_call rfl rfl C97 (((bits_Sub32_ok n) _ _  x_5e (IntKind.u32.wrap x_59) x_5a hp.imm _ q_5n).mono ?_)
                rintro _ w_5o ⟨rfl, hc⟩
                have hs := hp.stp hc
                replace hp := hp.ext hc
                replace o_5d := o_5d.step hs
                replace r_1n := r_1n.step hs
                replace o_24 := o_24.step hs
                obtain ⟨x_5p, q_5q, q_28⟩ := bind_some q_28
                refine ev_indexO rfl rfl rfl Tryd.underlying27 T131 o_5d q_5q ?_
                intro g_5r c_5s h_5t d_5u l_5v
                refine ev_storeE hp (i := 0) rfl h_5t rfl rfl rfl T131 o_5d q_5q (x0 := x_5l) rfl ?_
                intro e_5w w_5x hp hs o_5y
                replace r_1n := r_1n.step hs
                replace o_24 := o_24.step hs
                obtain ⟨y_5z, q_60, q_28⟩ := bind_some q_28
                refine W.cut (γ := ((List Int) × Int × Ent)) (fun g => [(8, (.int .u64 (IntKind.u64.wrap x_12))), (9, v_19), (10, v_1m), (11, (.int .i64 (x_1k.length : Int))), (12, v_1q), (13, (.int .i64 x_1y)), (15, (.int .u64 (g.2.1)))]) (fun g w' => y_5z = ((g.1), (g.2.1)) ∧ Hp ⟨w0, I0, []⟩ (Ad I_1f e_1h) [(g.2.2), e_20] w' ∧ OwnS (dI .u32) 131 w' (Ad I_1f e_1h) v_19 (g.2.2) (g.1) ∧ RepS (dI .u32) w' (Ad I_1f e_1h) v_1m x_1k ∧ OwnS (dI .u32) 131 w' (Ad I_1f e_1h) v_1q e_20 x_1x) ?_ ?_
                ·
                  apply go
                  apply go
                  apply go
                  refine sel_of (fun hc => ?_) (fun hc => ?_)
                  ·
                    have q_60 := cond_t q_60 hc
                    apply go
                    apply go
                    apply go
                    apply go
                    obtain ⟨y_61, q_62, q_60⟩ := bind_some q_60
                    refine W.cut (γ := ((List Int) × Int × Ent)) (fun g => [(8, (.int .u64 (IntKind.u64.wrap x_12))), (9, v_19), (10, v_1m), (11, (.int .i64 (x_1k.length : Int))), (12, v_1q), (13, (.int .i64 x_1y)), (15, (.int .u64 (IntKind.u64.wrap (x_42 - 1)))), (22, (.int .u32 (g.2.1)))]) (fun g w' => y_61 = ((g.1), (g.2.1)) ∧ Hp ⟨w0, I0, []⟩ (Ad I_1f e_1h) [(g.2.2), e_20] w' ∧ OwnS (dI .u32) 131 w' (Ad I_1f e_1h) v_19 (g.2.2) (g.1) ∧ RepS (dI .u32) w' (Ad I_1f e_1h) v_1m x_1k ∧ OwnS (dI .u32) 131 w' (Ad I_1f e_1h) v_1q e_20 x_1x) ?_ ?_
                    ·
                      apply go
                      apply go
                      refine ev0 (rn_len rfl rfl Tryd.underlying27 r_1n) ?_
                      apply go
                      refine W.loop q_62 (γ := Ent) (fun s g => [(8, (.int .u64 (IntKind.u64.wrap x_12))), (9, v_19), (10, v_1m), (11, (.int .i64 (x_1k.length : Int))), (12, v_1q), (13, (.int .i64 x_1y)), (15, (.int .u64 (IntKind.u64.wrap (x_42 - 1)))), (22, (.int .u32 (s.2.1))), (205, v_1m), (206, (.int .i64 (x_1k.length : Int))), (207, (.int .i64 (s.2.2)))]) (fun s g w' => Hp ⟨w0, I0, []⟩ (Ad I_1f e_1h) [(g), e_20] w' ∧ OwnS (dI .u32) 131 w' (Ad I_1f e_1h) v_19 (g) (s.1) ∧ RepS (dI .u32) w' (Ad I_1f e_1h) v_1m x_1k ∧ OwnS (dI .u32) 131 w' (Ad I_1f e_1h) v_1q e_20 x_1x) e_5w (.c rfl (.c rfl (.c rfl (.c rfl (.c rfl (.c rfl (.c rfl (.c rfl (.c rfl (.c rfl (.c rfl .n))))))))))) ⟨hp, o_5y, r_1n, o_24⟩ ?_
                      rintro ⟨x_63, x_64, x_65⟩ e_66 w_67 y_68 ⟨hp, o_69, r_1n, o_24⟩ q_6a q_6b
                      unfold integer_divide_L97 at q_6a
                      apply go
                      apply go
                      apply go
                      apply go
                      refine sel_of (fun hc => ?_) (fun hc => ?_)
                      ·
                        have q_6a := cond_t q_6a hc
                        apply go
                        apply go
                        apply go
                        apply go
                        apply go
                        obtain ⟨x_6c, q_6d, q_6a⟩ := bind_some q_6a
                        refine ev_index rfl rfl rfl Tryd.underlying27 T131 r_1n q_6d ?_
                        intro p_6e c_6f d_6g a_6h
                        obtain rfl : c_6f = [(.int .u32 x_6c)] := d_6g
                        refine ev (rn_load rfl rfl (run_loadVar1 T131 (a_6h.2 0 _ rfl))) ?_
                        apply go
                        obtain ⟨x_6i, q_6j, q_6a⟩ := bind_some q_6a
                        refine ev_indexO rfl rfl rfl Tryd.underlying27 T131 o_69 q_6j ?_
                        intro g_6k c_6l h_6m d_6n l_6o
                        refine ev (rn_load rfl rfl (run_loadVar1 T131 (hp.cellE (i := 0) rfl h_6m d_6n (j := 0) rfl))) ?_
                        obtain ⟨⟨x_6p, x_6q⟩, q_6r, q_6a⟩ := bind_some q_6a
                        refine ev_call rfl rfl C96 (((bits_Add32_ok n) _ _  x_6i x_6c x_64 hp.imm _ q_6r).mono ?_)
                        rintro _ w_6s ⟨rfl, hc⟩
                        have hs := hp.stp hc
                        replace hp := hp.ext hc
                        replace o_69 := o_69.step hs
                        replace r_1n := r_1n.step hs
                        replace o_24 := o_24.step hs
                        obtain ⟨x_6t, q_6u, q_6a⟩ := bind_some q_6a
                        refine ev_indexO rfl rfl rfl Tryd.underlying27 T131 o_69 q_6u ?_
                        intro g_6v c_6w h_6x d_6y l_6z
                        refine ev_storeE hp (i := 0) rfl h_6x rfl rfl rfl T131 o_69 q_6u (x0 := x_6p) rfl ?_
                        intro e_70 w_71 hp hs o_72
                        replace r_1n := r_1n.step hs
                        replace o_24 := o_24.step hs
                        apply go
                        exact ⟨_, (Option.some.inj q_6a).symm, e_70, (.c rfl (.c rfl (.c rfl (.c rfl (.c rfl (.c rfl (.c rfl (.c rfl (.c rfl (.c rfl (.c rfl .n))))))))))), ⟨hp, o_72, r_1n, o_24⟩⟩
                      ·
                        have q_6a := cond_f q_6a hc
                        apply go
                        have q_73 := congrArg some (q_6b _ (Option.some.inj q_6a).symm)
                        obtain rfl := Option.some.inj q_73
                        exact ⟨(x_63, x_64, e_66), (.c rfl (.c rfl (.c rfl (.c rfl (.c rfl (.c rfl (.c rfl (.c rfl .n)))))))), rfl, hp, o_69, r_1n, o_24⟩
                    ·
                      rintro ⟨x_74, x_75, e_76⟩ w_77 ⟨hy, hp, o_78, r_1n, o_24⟩
                      replace hy := hy.symm
                      subst hy
                      apply go
                      obtain ⟨x_79, q_7a, q_60⟩ := bind_some q_60
                      refine ev_indexO rfl rfl rfl Tryd.underlying27 T131 o_78 q_7a ?_
                      intro g_7b c_7c h_7d d_7e l_7f
                      refine ev (rn_load rfl rfl (run_loadVar1 T131 (hp.cellE (i := 0) rfl h_7d d_7e (j := 0) rfl))) ?_
                      obtain ⟨x_7g, q_7h, q_60⟩ := bind_some q_60
                      refine ev_indexO rfl rfl rfl Tryd.underlying27 T131 o_78 q_7h ?_
                      intro g_7i c_7j h_7k d_7l l_7m
                      refine ev_storeE hp (i := 0) rfl h_7k rfl rfl rfl T131 o_78 q_7h (x0 := (IntKind.u32.wrap (x_79 + x_75))) rfl ?_
                      intro e_7n w_7o hp hs o_7p
                      replace r_1n := r_1n.step hs
                      replace o_24 := o_24.step hs
                      obtain rfl := Option.some.inj q_60
                      exact ⟨((upd x_74 (IntKind.i64.wrap (x_1y + (x_1k.length : Int))) (IntKind.u32.wrap (x_79 + x_75))), (IntKind.u64.wrap (x_42 - 1)), e_7n), (.c rfl (.c rfl (.c rfl (.c rfl (.c rfl (.c rfl (.c rfl .n))))))), rfl, hp, o_7p, r_1n, o_24⟩
                  ·
                    have q_60 := cond_f q_60 hc
                    apply go
                    obtain rfl := Option.some.inj q_60
                    exact ⟨((upd x_58 (IntKind.i64.wrap (x_1y + (x_1k.length : Int))) x_5l), x_42, e_5w), (.c rfl (.c rfl (.c rfl (.c rfl (.c rfl (.c rfl (.c rfl .n))))))), rfl, hp, o_5y, r_1n, o_24⟩
                ·
                  rintro ⟨x_7q, x_7r, e_7s⟩ w_7t ⟨hy, hp, o_7u, r_1n, o_24⟩
                  replace hy := hy.symm
                  subst hy
                  apply go
                  refine ev0 (rn_conv rfl rfl U129 Tryd.underlying131) ?_
                  obtain ⟨x_7v, q_7w, q_28⟩ := bind_some q_28
                  refine ev_indexO rfl rfl rfl Tryd.underlying27 T131 o_24 q_7w ?_
                  intro g_7x c_7y h_7z d_80 l_81
                  refine ev_storeE hp (i := 1) rfl h_7z rfl rfl rfl T131 o_24 q_7w (x0 := (IntKind.u32.wrap x_7r)) rfl ?_
                  intro e_82 w_83 hp hs o_84
                  replace o_7u := o_7u.step hs
                  replace r_1n := r_1n.step hs
                  obtain rfl := Option.some.inj q_28
                  exact ⟨(x_7q, (upd x_1x x_1y (IntKind.u32.wrap x_7r)), e_7s, e_82), (.c rfl (.c rfl (.c rfl (.c rfl (.c rfl (.c rfl .n)))))), rfl, hp, o_7u, r_1n, o_84⟩
          ·
            rintro ⟨x_85, x_86, e_87, e_88⟩ w_89 ⟨hy, hp, o_8a, r_1n, o_8b⟩
            replace hy := hy.symm
            subst hy
            apply go
            exact ⟨_, (Option.some.inj q_25).symm, (e_87, e_88), (.c rfl (.c rfl (.c rfl (.c rfl (.c rfl (.c rfl .n)))))), ⟨hp, o_8a, r_1n, o_8b⟩⟩
        ·
          have q_25 := cond_f q_25 hc
          apply go
          have q_8c := congrArg some (q_26 _ (Option.some.inj q_25).symm)
          obtain rfl := Option.some.inj q_8c
          exact ⟨(x_1w, x_1x, e_1z, e_20), (.c rfl (.c rfl (.c rfl (.c rfl .n)))), rfl, hp, o_23, o_24⟩
      ·
        rintro ⟨x_8d, x_8e, e_8f, e_8g⟩ w_8h ⟨hy, hp, o_8i, o_8j⟩
        replace hy := hy.symm
        subst hy
        apply go
        apply go
        obtain ⟨x_8k, q_8l, h⟩ := bind_some h
        refine ev_make (d := (dI .u32)) (x0 := 0) hp rfl rfl rfl Tryd.underlying27 T131 (fun _ _ => rfl) (Nat.le_of_ble_eq_true rfl) q_8l ?_
        intro v_8m e_8n w_8o hp hs o_8p
        replace o_8i := o_8i.step hs
        replace o_8j := o_8j.step hs
        obtain ⟨y_8q, q_8r, h⟩ := bind_some h
        refine W.cut (γ := ((List Int) × Ent)) (fun g => [(12, v_1q), (25, v_8m)]) (fun g w' => y_8q = (g.1) ∧ Hp ⟨w0, I0, []⟩ (Ad I_1f e_1h) [e_8g, (g.2)] w' ∧ OwnS (dI .u32) 131 w' (Ad I_1f e_1h) v_1q e_8g x_8e ∧ OwnS (dI .u32) 131 w' (Ad I_1f e_1h) v_8m (g.2) (g.1)) ?_ ?_
        ·
          apply go
          apply go
          refine ev0 (x_lenO rfl rfl Tryd.underlying27 o_8p) ?_
          apply go
          have hp := hp.perm [1, 2, 0] (by decide)
          refine W.loop q_8r (γ := Ent) (fun s g => [(8, (.int .u64 (IntKind.u64.wrap x_12))), (9, v_19), (12, v_1q), (25, v_8m), (247, (.int .i64 (x_8k.length : Int))), (248, (.int .i64 (s.2)))]) (fun s g w' => Hp ⟨w0, I0, []⟩ (Ad I_1f e_1h) [e_8f, e_8g, (g)] w' ∧ OwnS (dI .u32) 131 w' (Ad I_1f e_1h) v_19 e_8f x_8d ∧ OwnS (dI .u32) 131 w' (Ad I_1f e_1h) v_1q e_8g x_8e ∧ OwnS (dI .u32) 131 w' (Ad I_1f e_1h) v_8m (g) (s.1)) e_8n (.c rfl (.c rfl (.c rfl (.c rfl (.c rfl (.c rfl .n)))))) ⟨hp, o_8i, o_8j, o_8p⟩ ?_
          rintro ⟨x_8s, x_8t⟩ e_8u w_8v y_8w ⟨hp, o_8i, o_8j, o_8x⟩ q_8y q_8z
          unfold integer_divide_L99 at q_8y
          apply go
          apply go
          apply go
          apply go
          refine sel_of (fun hc => ?_) (fun hc => ?_)
          ·
            have q_8y := cond_t q_8y hc
            apply go
            apply go
            apply go
            apply go
            apply go
            have hs := hp.stp (Ch.drew [] w_8v)
            have hp := hp.drew
            replace o_8i := o_8i.step hs
            replace o_8j := o_8j.step hs
            replace o_8x := o_8x.step hs
            refine W.tail 19 MX (by kernel_rfl) ?_
            obtain ⟨x_90, q_91, q_8y⟩ := bind_some q_8y
            refine evs_indexO rfl rfl rfl Tryd.underlying27 T131 o_8i q_91 ?_
            intro g_92 c_93 h_94 d_95 l_96
            refine evs (rn_load rfl rfl (run_loadVar1 T131 (hp.cellE (i := 0) rfl h_94 d_95 (j := 0) rfl))) ?_
            refine evs0 (rn_conv rfl rfl U131 Tryd.underlying129) ?_
            refine ⟨by decide, ?_⟩
            obtain ⟨x_97, q_98, q_8y⟩ := bind_some q_8y
            refine evs_indexO rfl rfl rfl Tryd.underlying27 T131 o_8i q_98 ?_
            intro g_99 c_9a h_9b d_9c l_9d
            refine evs (rn_load rfl rfl (run_loadVar1 T131 (hp.cellE (i := 0) rfl h_9b d_9c (j := 0) rfl))) ?_
            refine evs0 (rn_conv rfl rfl U131 Tryd.underlying129) ?_
            obtain ⟨q_9e, _, q_8y⟩ := need_some q_8y
            refine ⟨q_9e, ?_⟩
            refine evs0 (rn_conv rfl rfl U129 Tryd.underlying131) ?_
            obtain ⟨x_9f, q_9g, q_8y⟩ := bind_some q_8y
            refine evs_indexO rfl rfl rfl Tryd.underlying27 T131 o_8x q_9g ?_
            intro g_9h c_9i h_9j d_9k l_9l
            refine ev_storeE hp (i := 2) rfl h_9j rfl rfl rfl T131 o_8x q_9g (x0 := (IntKind.u32.wrap ((ib .or .u64 (IntKind.u64.wrap ((IntKind.u64.wrap x_90) * 2 ^ min (32 : Int).toNat (IntKind.u64).bits)) (IntKind.u64.wrap x_97)).fdiv (2 ^ min (IntKind.u64.wrap x_12).toNat (IntKind.u64).bits)))) rfl ?_
            intro e_9m w_9n hp hs o_9o
            replace o_8i := o_8i.step hs
            replace o_8j := o_8j.step hs
            apply go
            exact ⟨_, (Option.some.inj q_8y).symm, e_9m, (.c rfl (.c rfl (.c rfl (.c rfl (.c rfl (.c rfl .n)))))), ⟨hp, o_8i, o_8j, o_9o⟩⟩
          ·
            have q_8y := cond_f q_8y hc
            apply go
            have q_9p := congrArg some (q_8z _ (Option.some.inj q_8y).symm)
            obtain rfl := Option.some.inj q_9p
            have hp := hp.sel [1, 2] (by decide)
            exact ⟨(x_8s, e_8u), (.c rfl (.c rfl .n)), rfl, hp, o_8j, o_8x⟩
        ·
          rintro ⟨x_9q, e_9r⟩ w_9s ⟨hy, hp, o_8j, o_9t⟩
          replace hy := hy.symm
          subst hy
          apply go
          apply go
          apply go
          obtain rfl := Option.some.inj h
          have r_9u := o_8j.frz hp (i := 0) rfl
          obtain ⟨hp, hs⟩ := freeze_hp hp (i := 0) rfl
          replace o_9t := o_9t.step hs
          have hp := hp.sel [1] (by decide)
          have r_9v := o_9t.frz hp (i := 0) rfl
          obtain ⟨hp, hs⟩ := freeze_hp hp (i := 0) rfl
          replace r_9u := r_9u.step hs
          have hp := hp.sel [] (by decide)
          exact ⟨(Ad (Ad (Ad I_1f e_1h) e_8g) e_9r), v_1q, v_8m, rfl, hp, r_9u, r_9v⟩

end Go.Proofs.YtcdboppghnchpaaDoor

namespace Go.Proofs.YtcdboppghnchpaaDoor
open Go Go.Proofs.YtcdboppghnchpaaDoor.Gw Go.RowKit
set_option linter.unusedVariables false
attribute [local irreducible] Ev EvQ EvS EvH
def integer_DivMod_S (f : Int_2 → Int_2 → Option (Int_2 × Int_2 × Int)) : Prop := ∀ (w0 : World) (I0 : Nat → Prop) (x_0 : Int_2) (v_1 : Value) (r_2 : RepS (dI .u32) w0 I0 v_1 x_0.Mag) (x_3 : Int_2) (v_4 : Value) (r_5 : RepS (dI .u32) w0 I0 v_4 x_3.Mag) (hI : ∀ g, I0 g → g < w0.heap.size) (r : (Int_2 × Int_2 × Int)), f x_0 x_3 = some r →
    Ret Tryd.prog 62 #[(.agg #[(.bool x_0.Neg), v_1]), (.agg #[(.bool x_3.Neg), v_4])] w0 fun v w1 => ∃ (I1 : Nat → Prop) (u_6 : Value) (u_7 : Value), v = (.tuple #[(.agg #[(.bool r.1.Neg), u_6]), (.agg #[(.bool r.2.1.Neg), u_7]), (.int .i64 r.2.2)]) ∧ Hp ⟨w0, I0, []⟩ I1 [] w1 ∧ RepS (dI .u32) w1 I1 u_6 r.1.Mag ∧ RepS (dI .u32) w1 I1 u_7 r.2.1.Mag
set_option maxHeartbeats 6400000 in
theorem integer_DivMod_ok (n : Nat) : integer_DivMod_S (integer_DivMod n) := by
  intro w0 I0 x_0 v_1 r_2 x_3 v_4 r_5 hI r h
  unfold integer_DivMod at h
  refine enter Tryd.func62 rfl (Nat.le_of_ble_eq_true rfl) ?_
  have hp : Hp ⟨w0, I0, []⟩ I0 [] w0 := Hp.start hI
  apply go
  apply go
  refine ev_boxI hp rfl rfl ?_
  intro p_6 I_7 w_8 hp hs a_9
  replace r_5 := r_5.step hs
  replace r_2 := r_2.step hs
  refine ev_boxI hp rfl rfl ?_
  intro p_a I_b w_c hp hs a_d
  replace a_9 := a_9.step hs
  replace r_2 := r_2.step hs
  replace r_5 := r_5.step hs
  refine ev_alloc hp rfl T29 ?_
  intro g_e w_f hp hs
  replace a_9 := a_9.step hs
  replace r_2 := r_2.step hs
  replace a_d := a_d.step hs
  replace r_5 := r_5.step hs
  refine ev_alloc hp rfl T29 ?_
  intro g_g w_h hp hs
  replace a_9 := a_9.step hs
  replace r_2 := r_2.step hs
  replace a_d := a_d.step hs
  replace r_5 := r_5.step hs
  apply go
  have hs := hp.stp (Ch.drew [] w_h)
  have hp := hp.drew
  replace a_9 := a_9.step hs
  replace r_2 := r_2.step hs
  replace a_d := a_d.step hs
  replace r_5 := r_5.step hs
  refine W.held [(0, true), (1, true), (3, true), (4, true), (2, false), (5, false), (6, true), (7, true)] (Stp I_b w_h.drew I_b) MX (by kernel_rfl) (Stp.refl _ _) ?_
  have hz := Stp.refl I_b w_h.drew
  refine evh0 (rn_field rfl rfl FO29_1) ?_
  refine evh (fun w' hw => rn_load rfl rfl (run_loadVar1 T27 ((a_9.step hw).2 1 _ rfl))) ?_
  refine evh0 (rn_field rfl rfl FO29_1) ?_
  refine evh (fun w' hw => rn_load rfl rfl (run_loadVar1 T27 ((a_d.step hw).2 1 _ rfl))) ?_
  obtain ⟨x_i, q_j, h⟩ := bind_some h
  refine ev_call rfl rfl C67 (((integer_trim_ok n) _ _  x_0.Mag v_1 r_2 hp.imm _ q_j).mono ?_)
  rintro _ w_k ⟨I_l, v_m, hv, hq, r_n⟩
  replace hv := hv.symm
  subst hv
  have hs := hq.st
  have hp := hp.join0 hq
  replace hz := hz.trans hs
  replace a_9 := a_9.step hs
  replace r_2 := r_2.step hs
  replace a_d := a_d.step hs
  replace r_5 := r_5.step hs
  refine ⟨Stp I_l w_k I_l, Stp.refl _ _, fun x hx => hz.held hx, ?_⟩
  have hz := Stp.refl I_l w_k
  obtain ⟨x_o, q_p, h⟩ := bind_some h
  refine ev_call rfl rfl C67 (((integer_trim_ok n) _ _  x_3.Mag v_4 r_5 hp.imm _ q_p).mono ?_)
  rintro _ w_q ⟨I_r, v_s, hv, hq, r_t⟩
  replace hv := hv.symm
  subst hv
  have hs := hq.st
  have hp := hp.join0 hq
  replace hz := hz.trans hs
  replace a_9 := a_9.step hs
  replace r_2 := r_2.step hs
  replace a_d := a_d.step hs
  replace r_5 := r_5.step hs
  replace r_n := r_n.step hs
  refine ⟨Stp I_r w_q I_r, Stp.refl _ _, fun x hx => hz.held hx, ?_⟩
  have hz := Stp.refl I_r w_q
  apply go
  apply go
  apply go
  refine ev0 (rn_len rfl rfl Tryd.underlying27 r_t) ?_
  apply go
  refine sel_of (fun hc => ?_) (fun hc => ?_)
  ·
    have h := cond_t h hc
    apply go
    apply go
    refine ev0 (fun w => rn_build (cs := [(.bool false), (.slice none 0 0)]) rfl rfl T29 PL29 rfl) ?_
    refine ev0 (fun w => rn_build (cs := [(.bool false), (.slice none 0 0)]) rfl rfl T29 PL29 rfl) ?_
    refine ev_storeA hp (i := 1) (off := 0) (vs := [(.bool false), (.slice none 0 0)]) rfl rfl rfl rfl T29 rfl (Nat.le_of_ble_eq_true rfl) (ones_of rfl) ?_
    intro w_u hp hs
    refine ev_storeA hp (i := 0) (off := 0) (vs := [(.bool false), (.slice none 0 0)]) rfl rfl rfl rfl T29 rfl (Nat.le_of_ble_eq_true rfl) (ones_of rfl) ?_
    intro w_v hp hs
    apply go
    obtain rfl := Option.some.inj h
    refine ⟨_, run_loadVarA T29 rfl (hp.at_ (i := 1) rfl), ?_⟩
    refine ⟨_, run_loadVarA T29 rfl (hp.at_ (i := 0) rfl), ?_⟩
    have hp := hp.sel [] (by decide)
    exact ⟨I_r, .slice none 0 0, .slice none 0 0, rfl, hp, RepS.nil _ _ _, RepS.nil _ _ _⟩
  ·
    have h := cond_f h hc
    apply go
    apply go
    apply go
    obtain ⟨⟨x_w, x_x⟩, q_y, h⟩ := bind_some h
    refine ev_call rfl rfl C95 (((integer_divide_ok n) _ _  x_i v_m r_n x_o v_s r_t hp.imm _ q_y).mono ?_)
    rintro _ w_z ⟨I_10, v_11, v_12, hv, hq, r_13, r_14⟩
    replace hv := hv.symm
    subst hv
    have hs := hq.st
    have hp := hp.join0 hq
    replace a_9 := a_9.step hs
    replace r_2 := r_2.step hs
    replace a_d := a_d.step hs
    replace r_5 := r_5.step hs
    replace r_t := r_t.step hs
    obtain ⟨y_15, q_16, h⟩ := bind_some h
    refine W.cut (γ := (Bool × (List Int) × Bool × (List Int) × Nat × Value × Nat × Value × (Nat → Prop))) (fun g => [(3, (.pointer (some (p_a)))), (4, (.pointer (some ⟨g_e, 0, none⟩))), (5, (.pointer (some ⟨g_g, 0, none⟩))), (8, v_s), (11, (.pointer (some ⟨(g.2.2.2.2.1), 0, none⟩))), (12, (.pointer (some ⟨(g.2.2.2.2.2.2.1), 0, none⟩)))]) (fun g w' => y_15 = ((g.1), (g.2.1), (g.2.2.1), (g.2.2.2.1)) ∧ Hp ⟨w0, I0, []⟩ (g.2.2.2.2.2.2.2.2) [some (g_e, [(.bool false), (.slice none 0 0)], 29), some (g_g, [(.bool false), (.slice none 0 0)], 29), some ((g.2.2.2.2.1), [(.bool (g.1)), (g.2.2.2.2.2.1)], 29), some ((g.2.2.2.2.2.2.1), [(.bool (g.2.2.1)), (g.2.2.2.2.2.2.2.1)], 29)] w' ∧ RepS (dI .u32) w' (g.2.2.2.2.2.2.2.2) v_4 x_3.Mag ∧ At w' (g.2.2.2.2.2.2.2.2) p_a [(.bool x_3.Neg), v_4] ∧ RepS (dI .u32) w' (g.2.2.2.2.2.2.2.2) v_s x_o ∧ RepS (dI .u32) w' (g.2.2.2.2.2.2.2.2) (g.2.2.2.2.2.1) (g.2.1) ∧ RepS (dI .u32) w' (g.2.2.2.2.2.2.2.2) (g.2.2.2.2.2.2.2.1) (g.2.2.2.1)) ?_ ?_
    ·
      have hs := hp.stp (Ch.drew [] w_z)
      have hp := hp.drew
      replace a_9 := a_9.step hs
      replace r_2 := r_2.step hs
      replace a_d := a_d.step hs
      replace r_5 := r_5.step hs
      replace r_t := r_t.step hs
      replace r_13 := r_13.step hs
      replace r_14 := r_14.step hs
      refine W.heldG (.q 0 (.q 1 (.q 2 (.q 3 (.q 4 (.q 5 (.q 7 (.q 8 (.q 9 (.l 6 (.l 10 (.l 11 (.l 12 (.l 13 (.l 14 .done .no) .no) .no) (.l 12 (.l 11 (.l 13 (.l 14 .done .no) .no) .no) .no)) (.l 11 (.l 10 (.l 12 (.l 13 (.l 14 .done .no) .no) .no) (.l 12 (.l 10 (.l 13 (.l 14 .done .no) .no) .no) .no)) (.l 12 (.l 10 (.l 11 (.l 13 (.l 14 .done .no) .no) .no) (.l 11 (.l 10 (.l 13 (.l 14 .done .no) .no) .no) .no)) .no))) (.l 11 (.l 6 (.l 10 (.l 12 (.l 13 (.l 14 .done .no) .no) .no) (.l 12 (.l 10 (.l 13 (.l 14 .done .no) .no) .no) .no)) (.l 12 (.l 6 (.l 10 (.l 13 (.l 14 .done .no) .no) .no) .no) .no)) (.l 12 (.l 6 (.l 10 (.l 11 (.l 13 (.l 14 .done .no) .no) .no) (.l 11 (.l 10 (.l 13 (.l 14 .done .no) .no) .no) .no)) (.l 11 (.l 6 (.l 10 (.l 13 (.l 14 .done .no) .no) .no) .no) .no)) .no)))))))))))) (SK (Stp I_10 w_z.drew I_10) [] []) MX (by kernel_rfl) ⟨Stp.refl _ _, kp_nil⟩ ?_
      have hz := Stp.refl I_10 w_z.drew
      refine ⟨SK.same (by kernel_rfl), ?_⟩
      refine evh0 (rn_field rfl rfl FO29_0) ?_
      refine ⟨SK.same (by kernel_rfl), ?_⟩
      refine evh (fun w' hw => rn_load rfl rfl (run_loadVar1 T4 ((a_9.step (S0.si hw)).2 0 _ rfl))) ?_
      refine ⟨SK.same (by kernel_rfl), ?_⟩
      refine evh0 (rn_field rfl rfl FO29_0) ?_
      refine ⟨SK.same (by kernel_rfl), ?_⟩
      refine evh (fun w' hw => rn_load rfl rfl (run_loadVar1 T4 ((a_d.step (S0.si hw)).2 0 _ rfl))) ?_
      refine ⟨SK.same (by kernel_rfl), ?_⟩
      refine evh0 (rn_neB rfl rfl rfl Tryd.underlying4) ?_
      refine ⟨SK.same (by kernel_rfl), ?_⟩
      refine ⟨SK.same (by kernel_rfl), ?_⟩
      refine evh0 (rn_field rfl rfl FO29_0) ?_
      refine ⟨SK.same (by kernel_rfl), ?_⟩
      refine evh (fun w' hw => rn_load rfl rfl (run_loadVar1 T4 ((a_9.step (S0.si hw)).2 0 _ rfl))) ?_
      refine ⟨SK.same (by kernel_rfl), ?_⟩
      refine ⟨?_, ?_⟩
      ·
        obtain ⟨x_17, q_18, q_16⟩ := bind_some q_16
        refine ev_call rfl rfl C63 (((integer_made_ok n) _ _  (!(x_0.Neg == x_3.Neg)) x_w v_11 r_13 hp.imm _ q_18).mono ?_)
        rintro _ w_19 ⟨I_1a, v_1b, hv, hq, r_1c⟩
        replace hv := hv.symm
        subst hv
        have hs := hq.st
        have hp := hp.join0 hq
        replace hz := hz.trans hs
        replace a_d := a_d.step hs
        replace r_5 := r_5.step hs
        replace r_t := r_t.step hs
        replace r_14 := r_14.step hs
        refine ⟨SK (Stp I_1a w_19 I_1a) [] [], ⟨Stp.refl _ _, kp_nil⟩, fun L x h => ⟨hz.held h.1, h.2⟩, ?_⟩
        have hz := Stp.refl I_1a w_19
        refine ⟨?_, ?_⟩
        ·
          obtain ⟨x_1d, q_1e, q_16⟩ := bind_some q_16
          refine ev_call rfl rfl C63 (((integer_made_ok n) _ _  x_0.Neg x_x v_12 r_14 hp.imm _ q_1e).mono ?_)
          rintro _ w_1f ⟨I_1g, v_1h, hv, hq, r_1i⟩
          replace hv := hv.symm
          subst hv
          have hs := hq.st
          have hp := hp.join0 hq
          replace hz := hz.trans hs
          replace a_d := a_d.step hs
          replace r_5 := r_5.step hs
          replace r_t := r_t.step hs
          replace r_1c := r_1c.step hs
          refine ⟨SK (Stp I_1g w_1f I_1g) [] [], ⟨Stp.refl _ _, kp_nil⟩, fun L x h => ⟨hz.held h.1, h.2⟩, ?_⟩
          have hz := Stp.refl I_1g w_1f
          refine ⟨?_, ?_⟩
          ·
            refine ev_alloc hp rfl T29 ?_
            intro g_1j w_1k hp hs
            replace hz := hz.trans hs
            replace a_d := a_d.step hs
            replace r_5 := r_5.step hs
            replace r_t := r_t.step hs
            replace r_1c := r_1c.step hs
            replace r_1i := r_1i.step hs
            refine ⟨SK (Stp I_1g w_1k I_1g) [] [], ⟨Stp.refl _ _, kp_nil⟩, fun L x h => ⟨hz.held h.1, h.2⟩, ?_⟩
            have hz := Stp.refl I_1g w_1k
            refine ⟨?_, trivial⟩
            refine ev_alloc hp rfl T29 ?_
            intro g_1l w_1m hp hs
            replace hz := hz.trans hs
            replace a_d := a_d.step hs
            replace r_5 := r_5.step hs
            replace r_t := r_t.step hs
            replace r_1c := r_1c.step hs
            replace r_1i := r_1i.step hs
            refine ⟨SK (Stp I_1g w_1m I_1g) [] [], ⟨Stp.refl _ _, kp_nil⟩, fun L x h => ⟨hz.held h.1, h.2⟩, ?_⟩
            have hz := Stp.refl I_1g w_1m
            refine ⟨?_, trivial⟩
            refine ev_storeA hp (i := 1) (off := 0) (vs := [(.bool x_17.Neg), v_1b]) rfl rfl rfl rfl T29 rfl (Nat.le_of_ble_eq_true rfl) (ones_cons rfl (ones_cons r_1c.one ones_nil)) ?_
            intro w_1n hp hs
            replace hz := hz.trans hs
            replace a_d := a_d.step hs
            replace r_5 := r_5.step hs
            replace r_t := r_t.step hs
            replace r_1i := r_1i.step hs
            replace r_1c := r_1c.step hs
            refine ⟨SK (Stp I_1g w_1n I_1g) [] [], ⟨Stp.refl _ _, kp_nil⟩, fun L x h => ⟨hz.held h.1, h.2⟩, ?_⟩
            have hz := Stp.refl I_1g w_1n
            refine ⟨?_, trivial⟩
            refine ev_storeA hp (i := 0) (off := 0) (vs := [(.bool x_1d.Neg), v_1h]) rfl rfl rfl rfl T29 rfl (Nat.le_of_ble_eq_true rfl) (ones_cons rfl (ones_cons r_1i.one ones_nil)) ?_
            intro w_1o hp hs
            replace hz := hz.trans hs
            replace a_d := a_d.step hs
            replace r_5 := r_5.step hs
            replace r_t := r_t.step hs
            replace r_1i := r_1i.step hs
            replace r_1c := r_1c.step hs
            refine ⟨SK (Stp I_1g w_1o I_1g) [] [], ⟨Stp.refl _ _, kp_nil⟩, fun L x h => ⟨hz.held h.1, h.2⟩, ?_⟩
            have hz := Stp.refl I_1g w_1o
            obtain rfl := Option.some.inj q_16
            have hp := hp.perm [3, 2, 1, 0] (by decide)
            exact ⟨(x_17.Neg, x_17.Mag, x_1d.Neg, x_1d.Mag, g_1j, v_1b, g_1l, v_1h, I_1g), (.c rfl (.c rfl (.c rfl (.c rfl (.c rfl (.c rfl .n)))))), rfl, hp, r_5, a_d, r_t, r_1c, r_1i⟩
          refine ⟨?_, trivial⟩
          refine ev_alloc hp rfl T29 ?_
          intro g_1p w_1q hp hs
          replace hz := hz.trans hs
          replace a_d := a_d.step hs
          replace r_5 := r_5.step hs
          replace r_t := r_t.step hs
          replace r_1c := r_1c.step hs
          replace r_1i := r_1i.step hs
          refine ⟨SK (Stp I_1g w_1q I_1g) [] [], ⟨Stp.refl _ _, kp_nil⟩, fun L x h => ⟨hz.held h.1, h.2⟩, ?_⟩
          have hz := Stp.refl I_1g w_1q
          refine ⟨?_, trivial⟩
          refine ev_alloc hp rfl T29 ?_
          intro g_1r w_1s hp hs
          replace hz := hz.trans hs
          replace a_d := a_d.step hs
          replace r_5 := r_5.step hs
          replace r_t := r_t.step hs
          replace r_1c := r_1c.step hs
          replace r_1i := r_1i.step hs
          refine ⟨SK (Stp I_1g w_1s I_1g) [] [], ⟨Stp.refl _ _, kp_nil⟩, fun L x h => ⟨hz.held h.1, h.2⟩, ?_⟩
          have hz := Stp.refl I_1g w_1s
          refine ⟨?_, trivial⟩
          refine ev_storeA hp (i := 0) (off := 0) (vs := [(.bool x_17.Neg), v_1b]) rfl rfl rfl rfl T29 rfl (Nat.le_of_ble_eq_true rfl) (ones_cons rfl (ones_cons r_1c.one ones_nil)) ?_
          intro w_1t hp hs
          replace hz := hz.trans hs
          replace a_d := a_d.step hs
          replace r_5 := r_5.step hs
          replace r_t := r_t.step hs
          replace r_1i := r_1i.step hs
          replace r_1c := r_1c.step hs
          refine ⟨SK (Stp I_1g w_1t I_1g) [] [], ⟨Stp.refl _ _, kp_nil⟩, fun L x h => ⟨hz.held h.1, h.2⟩, ?_⟩
          have hz := Stp.refl I_1g w_1t
          refine ⟨?_, trivial⟩
          refine ev_storeA hp (i := 1) (off := 0) (vs := [(.bool x_1d.Neg), v_1h]) rfl rfl rfl rfl T29 rfl (Nat.le_of_ble_eq_true rfl) (ones_cons rfl (ones_cons r_1i.one ones_nil)) ?_
          intro w_1u hp hs
          replace hz := hz.trans hs
          replace a_d := a_d.step hs
          replace r_5 := r_5.step hs
          replace r_t := r_t.step hs
          replace r_1c := r_1c.step hs
          replace r_1i := r_1i.step hs
          refine ⟨SK (Stp I_1g w_1u I_1g) [] [], ⟨Stp.refl _ _, kp_nil⟩, fun L x h => ⟨hz.held h.1, h.2⟩, ?_⟩
          have hz := Stp.refl I_1g w_1u
          obtain rfl := Option.some.inj q_16
          have hp := hp.perm [3, 2, 0, 1] (by decide)
          exact ⟨(x_17.Neg, x_17.Mag, x_1d.Neg, x_1d.Mag, g_1r, v_1b, g_1p, v_1h, I_1g), (.c rfl (.c rfl (.c rfl (.c rfl (.c rfl (.c rfl .n)))))), rfl, hp, r_5, a_d, r_t, r_1c, r_1i⟩
        refine ⟨?_, ?_⟩
        ·
          refine ev_alloc hp rfl T29 ?_
          intro g_1v w_1w hp hs
          replace hz := hz.trans hs
          replace a_d := a_d.step hs
          replace r_5 := r_5.step hs
          replace r_t := r_t.step hs
          replace r_14 := r_14.step hs
          replace r_1c := r_1c.step hs
          refine ⟨SK (Stp I_1a w_1w I_1a) [] [], ⟨Stp.refl _ _, kp_nil⟩, fun L x h => ⟨hz.held h.1, h.2⟩, ?_⟩
          have hz := Stp.refl I_1a w_1w
          refine ⟨?_, ?_⟩
          ·
            obtain ⟨x_1x, q_1y, q_16⟩ := bind_some q_16
            refine ev_call rfl rfl C63 (((integer_made_ok n) _ _  x_0.Neg x_x v_12 r_14 hp.imm _ q_1y).mono ?_)
            rintro _ w_1z ⟨I_20, v_21, hv, hq, r_22⟩
            replace hv := hv.symm
            subst hv
            have hs := hq.st
            have hp := hp.join0 hq
            replace hz := hz.trans hs
            replace a_d := a_d.step hs
            replace r_5 := r_5.step hs
            replace r_t := r_t.step hs
            replace r_1c := r_1c.step hs
            refine ⟨SK (Stp I_20 w_1z I_20) [] [], ⟨Stp.refl _ _, kp_nil⟩, fun L x h => ⟨hz.held h.1, h.2⟩, ?_⟩
            have hz := Stp.refl I_20 w_1z
            refine ⟨?_, trivial⟩
            refine ev_alloc hp rfl T29 ?_
            intro g_23 w_24 hp hs
            replace hz := hz.trans hs
            replace a_d := a_d.step hs
            replace r_5 := r_5.step hs
            replace r_t := r_t.step hs
            replace r_1c := r_1c.step hs
            replace r_22 := r_22.step hs
            refine ⟨SK (Stp I_20 w_24 I_20) [] [], ⟨Stp.refl _ _, kp_nil⟩, fun L x h => ⟨hz.held h.1, h.2⟩, ?_⟩
            have hz := Stp.refl I_20 w_24
            refine ⟨?_, trivial⟩
            refine ev_storeA hp (i := 1) (off := 0) (vs := [(.bool x_17.Neg), v_1b]) rfl rfl rfl rfl T29 rfl (Nat.le_of_ble_eq_true rfl) (ones_cons rfl (ones_cons r_1c.one ones_nil)) ?_
            intro w_25 hp hs
            replace hz := hz.trans hs
            replace a_d := a_d.step hs
            replace r_5 := r_5.step hs
            replace r_t := r_t.step hs
            replace r_22 := r_22.step hs
            replace r_1c := r_1c.step hs
            refine ⟨SK (Stp I_20 w_25 I_20) [] [], ⟨Stp.refl _ _, kp_nil⟩, fun L x h => ⟨hz.held h.1, h.2⟩, ?_⟩
            have hz := Stp.refl I_20 w_25
            refine ⟨?_, trivial⟩
            refine ev_storeA hp (i := 0) (off := 0) (vs := [(.bool x_1x.Neg), v_21]) rfl rfl rfl rfl T29 rfl (Nat.le_of_ble_eq_true rfl) (ones_cons rfl (ones_cons r_22.one ones_nil)) ?_
            intro w_26 hp hs
            replace hz := hz.trans hs
            replace a_d := a_d.step hs
            replace r_5 := r_5.step hs
            replace r_t := r_t.step hs
            replace r_22 := r_22.step hs
            replace r_1c := r_1c.step hs
            refine ⟨SK (Stp I_20 w_26 I_20) [] [], ⟨Stp.refl _ _, kp_nil⟩, fun L x h => ⟨hz.held h.1, h.2⟩, ?_⟩
            have hz := Stp.refl I_20 w_26
            obtain rfl := Option.some.inj q_16
            have hp := hp.perm [3, 2, 1, 0] (by decide)
            exact ⟨(x_17.Neg, x_17.Mag, x_1x.Neg, x_1x.Mag, g_1v, v_1b, g_23, v_21, I_20), (.c rfl (.c rfl (.c rfl (.c rfl (.c rfl (.c rfl .n)))))), rfl, hp, r_5, a_d, r_t, r_1c, r_22⟩
          refine ⟨?_, trivial⟩
          refine ev_alloc hp rfl T29 ?_
          intro g_27 w_28 hp hs
          replace hz := hz.trans hs
          replace a_d := a_d.step hs
          replace r_5 := r_5.step hs
          replace r_t := r_t.step hs
          replace r_14 := r_14.step hs
          replace r_1c := r_1c.step hs
          refine ⟨SK (Stp I_1a w_28 I_1a) [] [], ⟨Stp.refl _ _, kp_nil⟩, fun L x h => ⟨hz.held h.1, h.2⟩, ?_⟩
          have hz := Stp.refl I_1a w_28
          refine ⟨?_, trivial⟩
          obtain ⟨x_29, q_2a, q_16⟩ := bind_some q_16
          refine ev_call rfl rfl C63 (((integer_made_ok n) _ _  x_0.Neg x_x v_12 r_14 hp.imm _ q_2a).mono ?_)
          rintro _ w_2b ⟨I_2c, v_2d, hv, hq, r_2e⟩
          replace hv := hv.symm
          subst hv
          have hs := hq.st
          have hp := hp.join0 hq
          replace hz := hz.trans hs
          replace a_d := a_d.step hs
          replace r_5 := r_5.step hs
          replace r_t := r_t.step hs
          replace r_1c := r_1c.step hs
          refine ⟨SK (Stp I_2c w_2b I_2c) [] [], ⟨Stp.refl _ _, kp_nil⟩, fun L x h => ⟨hz.held h.1, h.2⟩, ?_⟩
          have hz := Stp.refl I_2c w_2b
          refine ⟨?_, trivial⟩
          refine ev_storeA hp (i := 1) (off := 0) (vs := [(.bool x_17.Neg), v_1b]) rfl rfl rfl rfl T29 rfl (Nat.le_of_ble_eq_true rfl) (ones_cons rfl (ones_cons r_1c.one ones_nil)) ?_
          intro w_2f hp hs
          replace hz := hz.trans hs
          replace a_d := a_d.step hs
          replace r_5 := r_5.step hs
          replace r_t := r_t.step hs
          replace r_2e := r_2e.step hs
          replace r_1c := r_1c.step hs
          refine ⟨SK (Stp I_2c w_2f I_2c) [] [], ⟨Stp.refl _ _, kp_nil⟩, fun L x h => ⟨hz.held h.1, h.2⟩, ?_⟩
          have hz := Stp.refl I_2c w_2f
          refine ⟨?_, trivial⟩
          refine ev_storeA hp (i := 0) (off := 0) (vs := [(.bool x_29.Neg), v_2d]) rfl rfl rfl rfl T29 rfl (Nat.le_of_ble_eq_true rfl) (ones_cons rfl (ones_cons r_2e.one ones_nil)) ?_
          intro w_2g hp hs
          replace hz := hz.trans hs
          replace a_d := a_d.step hs
          replace r_5 := r_5.step hs
          replace r_t := r_t.step hs
          replace r_2e := r_2e.step hs
          replace r_1c := r_1c.step hs
          refine ⟨SK (Stp I_2c w_2g I_2c) [] [], ⟨Stp.refl _ _, kp_nil⟩, fun L x h => ⟨hz.held h.1, h.2⟩, ?_⟩
          have hz := Stp.refl I_2c w_2g
          obtain rfl := Option.some.inj q_16
          have hp := hp.perm [3, 2, 1, 0] (by decide)
          exact ⟨(x_17.Neg, x_17.Mag, x_29.Neg, x_29.Mag, g_1v, v_1b, g_27, v_2d, I_2c), (.c rfl (.c rfl (.c rfl (.c rfl (.c rfl (.c rfl .n)))))), rfl, hp, r_5, a_d, r_t, r_1c, r_2e⟩
        refine ⟨?_, trivial⟩
        refine ev_alloc hp rfl T29 ?_
        intro g_2h w_2i hp hs
        replace hz := hz.trans hs
        replace a_d := a_d.step hs
        replace r_5 := r_5.step hs
        replace r_t := r_t.step hs
        replace r_14 := r_14.step hs
        replace r_1c := r_1c.step hs
        refine ⟨SK (Stp I_1a w_2i I_1a) [] [], ⟨Stp.refl _ _, kp_nil⟩, fun L x h => ⟨hz.held h.1, h.2⟩, ?_⟩
        have hz := Stp.refl I_1a w_2i
        refine ⟨?_, ?_⟩
        ·
          obtain ⟨x_2j, q_2k, q_16⟩ := bind_some q_16
          refine ev_call rfl rfl C63 (((integer_made_ok n) _ _  x_0.Neg x_x v_12 r_14 hp.imm _ q_2k).mono ?_)
          rintro _ w_2l ⟨I_2m, v_2n, hv, hq, r_2o⟩
          replace hv := hv.symm
          subst hv
          have hs := hq.st
          have hp := hp.join0 hq
          replace hz := hz.trans hs
          replace a_d := a_d.step hs
          replace r_5 := r_5.step hs
          replace r_t := r_t.step hs
          replace r_1c := r_1c.step hs
          refine ⟨SK (Stp I_2m w_2l I_2m) [] [], ⟨Stp.refl _ _, kp_nil⟩, fun L x h => ⟨hz.held h.1, h.2⟩, ?_⟩
          have hz := Stp.refl I_2m w_2l
          refine ⟨?_, trivial⟩
          refine ev_alloc hp rfl T29 ?_
          intro g_2p w_2q hp hs
          replace hz := hz.trans hs
          replace a_d := a_d.step hs
          replace r_5 := r_5.step hs
          replace r_t := r_t.step hs
          replace r_1c := r_1c.step hs
          replace r_2o := r_2o.step hs
          refine ⟨SK (Stp I_2m w_2q I_2m) [] [], ⟨Stp.refl _ _, kp_nil⟩, fun L x h => ⟨hz.held h.1, h.2⟩, ?_⟩
          have hz := Stp.refl I_2m w_2q
          refine ⟨?_, trivial⟩
          refine ev_storeA hp (i := 0) (off := 0) (vs := [(.bool x_17.Neg), v_1b]) rfl rfl rfl rfl T29 rfl (Nat.le_of_ble_eq_true rfl) (ones_cons rfl (ones_cons r_1c.one ones_nil)) ?_
          intro w_2r hp hs
          replace hz := hz.trans hs
          replace a_d := a_d.step hs
          replace r_5 := r_5.step hs
          replace r_t := r_t.step hs
          replace r_2o := r_2o.step hs
          replace r_1c := r_1c.step hs
          refine ⟨SK (Stp I_2m w_2r I_2m) [] [], ⟨Stp.refl _ _, kp_nil⟩, fun L x h => ⟨hz.held h.1, h.2⟩, ?_⟩
          have hz := Stp.refl I_2m w_2r
          refine ⟨?_, trivial⟩
          refine ev_storeA hp (i := 1) (off := 0) (vs := [(.bool x_2j.Neg), v_2n]) rfl rfl rfl rfl T29 rfl (Nat.le_of_ble_eq_true rfl) (ones_cons rfl (ones_cons r_2o.one ones_nil)) ?_
          intro w_2s hp hs
          replace hz := hz.trans hs
          replace a_d := a_d.step hs
          replace r_5 := r_5.step hs
          replace r_t := r_t.step hs
          replace r_1c := r_1c.step hs
          replace r_2o := r_2o.step hs
          refine ⟨SK (Stp I_2m w_2s I_2m) [] [], ⟨Stp.refl _ _, kp_nil⟩, fun L x h => ⟨hz.held h.1, h.2⟩, ?_⟩
          have hz := Stp.refl I_2m w_2s
          obtain rfl := Option.some.inj q_16
          have hp := hp.perm [3, 2, 0, 1] (by decide)
          exact ⟨(x_17.Neg, x_17.Mag, x_2j.Neg, x_2j.Mag, g_2p, v_1b, g_2h, v_2n, I_2m), (.c rfl (.c rfl (.c rfl (.c rfl (.c rfl (.c rfl .n)))))), rfl, hp, r_5, a_d, r_t, r_1c, r_2o⟩
        refine ⟨?_, trivial⟩
        refine ev_alloc hp rfl T29 ?_
        intro g_2t w_2u hp hs
        replace hz := hz.trans hs
        replace a_d := a_d.step hs
        replace r_5 := r_5.step hs
        replace r_t := r_t.step hs
        replace r_14 := r_14.step hs
        replace r_1c := r_1c.step hs
        refine ⟨SK (Stp I_1a w_2u I_1a) [] [], ⟨Stp.refl _ _, kp_nil⟩, fun L x h => ⟨hz.held h.1, h.2⟩, ?_⟩
        have hz := Stp.refl I_1a w_2u
        refine ⟨?_, trivial⟩
        obtain ⟨x_2v, q_2w, q_16⟩ := bind_some q_16
        refine ev_call rfl rfl C63 (((integer_made_ok n) _ _  x_0.Neg x_x v_12 r_14 hp.imm _ q_2w).mono ?_)
        rintro _ w_2x ⟨I_2y, v_2z, hv, hq, r_30⟩
        replace hv := hv.symm
        subst hv
        have hs := hq.st
        have hp := hp.join0 hq
        replace hz := hz.trans hs
        replace a_d := a_d.step hs
        replace r_5 := r_5.step hs
        replace r_t := r_t.step hs
        replace r_1c := r_1c.step hs
        refine ⟨SK (Stp I_2y w_2x I_2y) [] [], ⟨Stp.refl _ _, kp_nil⟩, fun L x h => ⟨hz.held h.1, h.2⟩, ?_⟩
        have hz := Stp.refl I_2y w_2x
        refine ⟨?_, trivial⟩
        refine ev_storeA hp (i := 0) (off := 0) (vs := [(.bool x_17.Neg), v_1b]) rfl rfl rfl rfl T29 rfl (Nat.le_of_ble_eq_true rfl) (ones_cons rfl (ones_cons r_1c.one ones_nil)) ?_
        intro w_31 hp hs
        replace hz := hz.trans hs
        replace a_d := a_d.step hs
        replace r_5 := r_5.step hs
        replace r_t := r_t.step hs
        replace r_30 := r_30.step hs
        replace r_1c := r_1c.step hs
        refine ⟨SK (Stp I_2y w_31 I_2y) [] [], ⟨Stp.refl _ _, kp_nil⟩, fun L x h => ⟨hz.held h.1, h.2⟩, ?_⟩
        have hz := Stp.refl I_2y w_31
        refine ⟨?_, trivial⟩
        refine ev_storeA hp (i := 1) (off := 0) (vs := [(.bool x_2v.Neg), v_2z]) rfl rfl rfl rfl T29 rfl (Nat.le_of_ble_eq_true rfl) (ones_cons rfl (ones_cons r_30.one ones_nil)) ?_
        intro w_32 hp hs
        replace hz := hz.trans hs
        replace a_d := a_d.step hs
        replace r_5 := r_5.step hs
        replace r_t := r_t.step hs
        replace r_1c := r_1c.step hs
        replace r_30 := r_30.step hs
        refine ⟨SK (Stp I_2y w_32 I_2y) [] [], ⟨Stp.refl _ _, kp_nil⟩, fun L x h => ⟨hz.held h.1, h.2⟩, ?_⟩
        have hz := Stp.refl I_2y w_32
        obtain rfl := Option.some.inj q_16
        have hp := hp.perm [3, 2, 0, 1] (by decide)
        exact ⟨(x_17.Neg, x_17.Mag, x_2v.Neg, x_2v.Mag, g_2t, v_1b, g_2h, v_2z, I_2y), (.c rfl (.c rfl (.c rfl (.c rfl (.c rfl (.c rfl .n)))))), rfl, hp, r_5, a_d, r_t, r_1c, r_30⟩
      refine ⟨?_, ?_⟩
      ·
        refine ev_alloc hp rfl T29 ?_
        intro g_33 w_34 hp hs
        replace hz := hz.trans hs
        replace a_d := a_d.step hs
        replace r_5 := r_5.step hs
        replace r_t := r_t.step hs
        replace r_13 := r_13.step hs
        replace r_14 := r_14.step hs
        refine ⟨SK (Stp I_10 w_34 I_10) [] [], ⟨Stp.refl _ _, kp_nil⟩, fun L x h => ⟨hz.held h.1, h.2⟩, ?_⟩
        have hz := Stp.refl I_10 w_34
        refine ⟨?_, ?_⟩
        ·
          obtain ⟨x_35, q_36, q_16⟩ := bind_some q_16
          refine ev_call rfl rfl C63 (((integer_made_ok n) _ _  (!(x_0.Neg == x_3.Neg)) x_w v_11 r_13 hp.imm _ q_36).mono ?_)
          rintro _ w_37 ⟨I_38, v_39, hv, hq, r_3a⟩
          replace hv := hv.symm
          subst hv
          have hs := hq.st
          have hp := hp.join0 hq
          replace hz := hz.trans hs
          replace a_d := a_d.step hs
          replace r_5 := r_5.step hs
          replace r_t := r_t.step hs
          replace r_14 := r_14.step hs
          refine ⟨SK (Stp I_38 w_37 I_38) [] [], ⟨Stp.refl _ _, kp_nil⟩, fun L x h => ⟨hz.held h.1, h.2⟩, ?_⟩
          have hz := Stp.refl I_38 w_37
          refine ⟨?_, ?_⟩
          ·
            obtain ⟨x_3b, q_3c, q_16⟩ := bind_some q_16
            refine ev_call rfl rfl C63 (((integer_made_ok n) _ _  x_0.Neg x_x v_12 r_14 hp.imm _ q_3c).mono ?_)
            rintro _ w_3d ⟨I_3e, v_3f, hv, hq, r_3g⟩
            replace hv := hv.symm
            subst hv
            have hs := hq.st
            have hp := hp.join0 hq
            replace hz := hz.trans hs
            replace a_d := a_d.step hs
            replace r_5 := r_5.step hs
            replace r_t := r_t.step hs
            replace r_3a := r_3a.step hs
            refine ⟨SK (Stp I_3e w_3d I_3e) [] [], ⟨Stp.refl _ _, kp_nil⟩, fun L x h => ⟨hz.held h.1, h.2⟩, ?_⟩
            have hz := Stp.refl I_3e w_3d
            refine ⟨?_, trivial⟩
            refine ev_alloc hp rfl T29 ?_
            intro g_3h w_3i hp hs
            replace hz := hz.trans hs
            replace a_d := a_d.step hs
            replace r_5 := r_5.step hs
            replace r_t := r_t.step hs
            replace r_3a := r_3a.step hs
            replace r_3g := r_3g.step hs
            refine ⟨SK (Stp I_3e w_3i I_3e) [] [], ⟨Stp.refl _ _, kp_nil⟩, fun L x h => ⟨hz.held h.1, h.2⟩, ?_⟩
            have hz := Stp.refl I_3e w_3i
            refine ⟨?_, trivial⟩
            refine ev_storeA hp (i := 1) (off := 0) (vs := [(.bool x_35.Neg), v_39]) rfl rfl rfl rfl T29 rfl (Nat.le_of_ble_eq_true rfl) (ones_cons rfl (ones_cons r_3a.one ones_nil)) ?_
            intro w_3j hp hs
            replace hz := hz.trans hs
            replace a_d := a_d.step hs
            replace r_5 := r_5.step hs
            replace r_t := r_t.step hs
            replace r_3g := r_3g.step hs
            replace r_3a := r_3a.step hs
            refine ⟨SK (Stp I_3e w_3j I_3e) [] [], ⟨Stp.refl _ _, kp_nil⟩, fun L x h => ⟨hz.held h.1, h.2⟩, ?_⟩
            have hz := Stp.refl I_3e w_3j
            refine ⟨?_, trivial⟩
            refine ev_storeA hp (i := 0) (off := 0) (vs := [(.bool x_3b.Neg), v_3f]) rfl rfl rfl rfl T29 rfl (Nat.le_of_ble_eq_true rfl) (ones_cons rfl (ones_cons r_3g.one ones_nil)) ?_
            intro w_3k hp hs
            replace hz := hz.trans hs
            replace a_d := a_d.step hs
            replace r_5 := r_5.step hs
            replace r_t := r_t.step hs
            replace r_3g := r_3g.step hs
            replace r_3a := r_3a.step hs
            refine ⟨SK (Stp I_3e w_3k I_3e) [] [], ⟨Stp.refl _ _, kp_nil⟩, fun L x h => ⟨hz.held h.1, h.2⟩, ?_⟩
            have hz := Stp.refl I_3e w_3k
            obtain rfl := Option.some.inj q_16
            have hp := hp.perm [3, 2, 1, 0] (by decide)
            exact ⟨(x_35.Neg, x_35.Mag, x_3b.Neg, x_3b.Mag, g_33, v_39, g_3h, v_3f, I_3e), (.c rfl (.c rfl (.c rfl (.c rfl (.c rfl (.c rfl .n)))))), rfl, hp, r_5, a_d, r_t, r_3a, r_3g⟩
          refine ⟨?_, trivial⟩
          refine ev_alloc hp rfl T29 ?_
          intro g_3l w_3m hp hs
          replace hz := hz.trans hs
          replace a_d := a_d.step hs
          replace r_5 := r_5.step hs
          replace r_t := r_t.step hs
          replace r_14 := r_14.step hs
          replace r_3a := r_3a.step hs
          refine ⟨SK (Stp I_38 w_3m I_38) [] [], ⟨Stp.refl _ _, kp_nil⟩, fun L x h => ⟨hz.held h.1, h.2⟩, ?_⟩
          have hz := Stp.refl I_38 w_3m
          refine ⟨?_, trivial⟩
          obtain ⟨x_3n, q_3o, q_16⟩ := bind_some q_16
          refine ev_call rfl rfl C63 (((integer_made_ok n) _ _  x_0.Neg x_x v_12 r_14 hp.imm _ q_3o).mono ?_)
          rintro _ w_3p ⟨I_3q, v_3r, hv, hq, r_3s⟩
          replace hv := hv.symm
          subst hv
          have hs := hq.st
          have hp := hp.join0 hq
          replace hz := hz.trans hs
          replace a_d := a_d.step hs
          replace r_5 := r_5.step hs
          replace r_t := r_t.step hs
          replace r_3a := r_3a.step hs
          refine ⟨SK (Stp I_3q w_3p I_3q) [] [], ⟨Stp.refl _ _, kp_nil⟩, fun L x h => ⟨hz.held h.1, h.2⟩, ?_⟩
          have hz := Stp.refl I_3q w_3p
          refine ⟨?_, trivial⟩
          refine ev_storeA hp (i := 1) (off := 0) (vs := [(.bool x_35.Neg), v_39]) rfl rfl rfl rfl T29 rfl (Nat.le_of_ble_eq_true rfl) (ones_cons rfl (ones_cons r_3a.one ones_nil)) ?_
          intro w_3t hp hs
          replace hz := hz.trans hs
          replace a_d := a_d.step hs
          replace r_5 := r_5.step hs
          replace r_t := r_t.step hs
          replace r_3s := r_3s.step hs
          replace r_3a := r_3a.step hs
          refine ⟨SK (Stp I_3q w_3t I_3q) [] [], ⟨Stp.refl _ _, kp_nil⟩, fun L x h => ⟨hz.held h.1, h.2⟩, ?_⟩
          have hz := Stp.refl I_3q w_3t
          refine ⟨?_, trivial⟩
          refine ev_storeA hp (i := 0) (off := 0) (vs := [(.bool x_3n.Neg), v_3r]) rfl rfl rfl rfl T29 rfl (Nat.le_of_ble_eq_true rfl) (ones_cons rfl (ones_cons r_3s.one ones_nil)) ?_
          intro w_3u hp hs
          replace hz := hz.trans hs
          replace a_d := a_d.step hs
          replace r_5 := r_5.step hs
          replace r_t := r_t.step hs
          replace r_3s := r_3s.step hs
          replace r_3a := r_3a.step hs
          refine ⟨SK (Stp I_3q w_3u I_3q) [] [], ⟨Stp.refl _ _, kp_nil⟩, fun L x h => ⟨hz.held h.1, h.2⟩, ?_⟩
          have hz := Stp.refl I_3q w_3u
          obtain rfl := Option.some.inj q_16
          have hp := hp.perm [3, 2, 1, 0] (by decide)
          exact ⟨(x_35.Neg, x_35.Mag, x_3n.Neg, x_3n.Mag, g_33, v_39, g_3l, v_3r, I_3q), (.c rfl (.c rfl (.c rfl (.c rfl (.c rfl (.c rfl .n)))))), rfl, hp, r_5, a_d, r_t, r_3a, r_3s⟩
        refine ⟨?_, trivial⟩
        refine ev_alloc hp rfl T29 ?_
        intro g_3v w_3w hp hs
        replace hz := hz.trans hs
        replace a_d := a_d.step hs
        replace r_5 := r_5.step hs
        replace r_t := r_t.step hs
        replace r_13 := r_13.step hs
        replace r_14 := r_14.step hs
        refine ⟨SK (Stp I_10 w_3w I_10) [] [], ⟨Stp.refl _ _, kp_nil⟩, fun L x h => ⟨hz.held h.1, h.2⟩, ?_⟩
        have hz := Stp.refl I_10 w_3w
        refine ⟨?_, trivial⟩
        obtain ⟨x_3x, q_3y, q_16⟩ := bind_some q_16
        refine ev_call rfl rfl C63 (((integer_made_ok n) _ _  (!(x_0.Neg == x_3.Neg)) x_w v_11 r_13 hp.imm _ q_3y).mono ?_)
        rintro _ w_3z ⟨I_40, v_41, hv, hq, r_42⟩
        replace hv := hv.symm
        subst hv
        have hs := hq.st
        have hp := hp.join0 hq
        replace hz := hz.trans hs
        replace a_d := a_d.step hs
        replace r_5 := r_5.step hs
        replace r_t := r_t.step hs
        replace r_14 := r_14.step hs
        refine ⟨SK (Stp I_40 w_3z I_40) [] [], ⟨Stp.refl _ _, kp_nil⟩, fun L x h => ⟨hz.held h.1, h.2⟩, ?_⟩
        have hz := Stp.refl I_40 w_3z
        refine ⟨?_, trivial⟩
        obtain ⟨x_43, q_44, q_16⟩ := bind_some q_16
        refine ev_call rfl rfl C63 (((integer_made_ok n) _ _  x_0.Neg x_x v_12 r_14 hp.imm _ q_44).mono ?_)
        rintro _ w_45 ⟨I_46, v_47, hv, hq, r_48⟩
        replace hv := hv.symm
        subst hv
        have hs := hq.st
        have hp := hp.join0 hq
        replace hz := hz.trans hs
        replace a_d := a_d.step hs
        replace r_5 := r_5.step hs
        replace r_t := r_t.step hs
        replace r_42 := r_42.step hs
        refine ⟨SK (Stp I_46 w_45 I_46) [] [], ⟨Stp.refl _ _, kp_nil⟩, fun L x h => ⟨hz.held h.1, h.2⟩, ?_⟩
        have hz := Stp.refl I_46 w_45
        refine ⟨?_, trivial⟩
        refine ev_storeA hp (i := 1) (off := 0) (vs := [(.bool x_3x.Neg), v_41]) rfl rfl rfl rfl T29 rfl (Nat.le_of_ble_eq_true rfl) (ones_cons rfl (ones_cons r_42.one ones_nil)) ?_
        intro w_49 hp hs
        replace hz := hz.trans hs
        replace a_d := a_d.step hs
        replace r_5 := r_5.step hs
        replace r_t := r_t.step hs
        replace r_48 := r_48.step hs
        replace r_42 := r_42.step hs
        refine ⟨SK (Stp I_46 w_49 I_46) [] [], ⟨Stp.refl _ _, kp_nil⟩, fun L x h => ⟨hz.held h.1, h.2⟩, ?_⟩
        have hz := Stp.refl I_46 w_49
        refine ⟨?_, trivial⟩
        refine ev_storeA hp (i := 0) (off := 0) (vs := [(.bool x_43.Neg), v_47]) rfl rfl rfl rfl T29 rfl (Nat.le_of_ble_eq_true rfl) (ones_cons rfl (ones_cons r_48.one ones_nil)) ?_
        intro w_4a hp hs
        replace hz := hz.trans hs
        replace a_d := a_d.step hs
        replace r_5 := r_5.step hs
        replace r_t := r_t.step hs
        replace r_48 := r_48.step hs
        replace r_42 := r_42.step hs
        refine ⟨SK (Stp I_46 w_4a I_46) [] [], ⟨Stp.refl _ _, kp_nil⟩, fun L x h => ⟨hz.held h.1, h.2⟩, ?_⟩
        have hz := Stp.refl I_46 w_4a
        obtain rfl := Option.some.inj q_16
        have hp := hp.perm [3, 2, 1, 0] (by decide)
        exact ⟨(x_3x.Neg, x_3x.Mag, x_43.Neg, x_43.Mag, g_33, v_41, g_3v, v_47, I_46), (.c rfl (.c rfl (.c rfl (.c rfl (.c rfl (.c rfl .n)))))), rfl, hp, r_5, a_d, r_t, r_42, r_48⟩
      refine ⟨?_, trivial⟩
      refine ev_alloc hp rfl T29 ?_
      intro g_4b w_4c hp hs
      replace hz := hz.trans hs
      replace a_d := a_d.step hs
      replace r_5 := r_5.step hs
      replace r_t := r_t.step hs
      replace r_13 := r_13.step hs
      replace r_14 := r_14.step hs
      refine ⟨SK (Stp I_10 w_4c I_10) [] [], ⟨Stp.refl _ _, kp_nil⟩, fun L x h => ⟨hz.held h.1, h.2⟩, ?_⟩
      have hz := Stp.refl I_10 w_4c
      refine ⟨?_, ?_⟩
      ·
        obtain ⟨x_4d, q_4e, q_16⟩ := bind_some q_16
        refine ev_call rfl rfl C63 (((integer_made_ok n) _ _  (!(x_0.Neg == x_3.Neg)) x_w v_11 r_13 hp.imm _ q_4e).mono ?_)
        rintro _ w_4f ⟨I_4g, v_4h, hv, hq, r_4i⟩
        replace hv := hv.symm
        subst hv
        have hs := hq.st
        have hp := hp.join0 hq
        replace hz := hz.trans hs
        replace a_d := a_d.step hs
        replace r_5 := r_5.step hs
        replace r_t := r_t.step hs
        replace r_14 := r_14.step hs
        refine ⟨SK (Stp I_4g w_4f I_4g) [] [], ⟨Stp.refl _ _, kp_nil⟩, fun L x h => ⟨hz.held h.1, h.2⟩, ?_⟩
        have hz := Stp.refl I_4g w_4f
        refine ⟨?_, ?_⟩
        ·
          obtain ⟨x_4j, q_4k, q_16⟩ := bind_some q_16
          refine ev_call rfl rfl C63 (((integer_made_ok n) _ _  x_0.Neg x_x v_12 r_14 hp.imm _ q_4k).mono ?_)
          rintro _ w_4l ⟨I_4m, v_4n, hv, hq, r_4o⟩
          replace hv := hv.symm
          subst hv
          have hs := hq.st
          have hp := hp.join0 hq
          replace hz := hz.trans hs
          replace a_d := a_d.step hs
          replace r_5 := r_5.step hs
          replace r_t := r_t.step hs
          replace r_4i := r_4i.step hs
          refine ⟨SK (Stp I_4m w_4l I_4m) [] [], ⟨Stp.refl _ _, kp_nil⟩, fun L x h => ⟨hz.held h.1, h.2⟩, ?_⟩
          have hz := Stp.refl I_4m w_4l
          refine ⟨?_, trivial⟩
          refine ev_alloc hp rfl T29 ?_
          intro g_4p w_4q hp hs
          replace hz := hz.trans hs
          replace a_d := a_d.step hs
          replace r_5 := r_5.step hs
          replace r_t := r_t.step hs
          replace r_4i := r_4i.step hs
          replace r_4o := r_4o.step hs
          refine ⟨SK (Stp I_4m w_4q I_4m) [] [], ⟨Stp.refl _ _, kp_nil⟩, fun L x h => ⟨hz.held h.1, h.2⟩, ?_⟩
          have hz := Stp.refl I_4m w_4q
          refine ⟨?_, trivial⟩
          refine ev_storeA hp (i := 0) (off := 0) (vs := [(.bool x_4d.Neg), v_4h]) rfl rfl rfl rfl T29 rfl (Nat.le_of_ble_eq_true rfl) (ones_cons rfl (ones_cons r_4i.one ones_nil)) ?_
          intro w_4r hp hs
          replace hz := hz.trans hs
          replace a_d := a_d.step hs
          replace r_5 := r_5.step hs
          replace r_t := r_t.step hs
          replace r_4o := r_4o.step hs
          replace r_4i := r_4i.step hs
          refine ⟨SK (Stp I_4m w_4r I_4m) [] [], ⟨Stp.refl _ _, kp_nil⟩, fun L x h => ⟨hz.held h.1, h.2⟩, ?_⟩
          have hz := Stp.refl I_4m w_4r
          refine ⟨?_, trivial⟩
          refine ev_storeA hp (i := 1) (off := 0) (vs := [(.bool x_4j.Neg), v_4n]) rfl rfl rfl rfl T29 rfl (Nat.le_of_ble_eq_true rfl) (ones_cons rfl (ones_cons r_4o.one ones_nil)) ?_
          intro w_4s hp hs
          replace hz := hz.trans hs
          replace a_d := a_d.step hs
          replace r_5 := r_5.step hs
          replace r_t := r_t.step hs
          replace r_4i := r_4i.step hs
          replace r_4o := r_4o.step hs
          refine ⟨SK (Stp I_4m w_4s I_4m) [] [], ⟨Stp.refl _ _, kp_nil⟩, fun L x h => ⟨hz.held h.1, h.2⟩, ?_⟩
          have hz := Stp.refl I_4m w_4s
          obtain rfl := Option.some.inj q_16
          have hp := hp.perm [3, 2, 0, 1] (by decide)
          exact ⟨(x_4d.Neg, x_4d.Mag, x_4j.Neg, x_4j.Mag, g_4p, v_4h, g_4b, v_4n, I_4m), (.c rfl (.c rfl (.c rfl (.c rfl (.c rfl (.c rfl .n)))))), rfl, hp, r_5, a_d, r_t, r_4i, r_4o⟩
        refine ⟨?_, trivial⟩
        refine ev_alloc hp rfl T29 ?_
        intro g_4t w_4u hp hs
        replace hz := hz.trans hs
        replace a_d := a_d.step hs
        replace r_5 := r_5.step hs
        replace r_t := r_t.step hs
        replace r_14 := r_14.step hs
        replace r_4i := r_4i.step hs
        refine ⟨SK (Stp I_4g w_4u I_4g) [] [], ⟨Stp.refl _ _, kp_nil⟩, fun L x h => ⟨hz.held h.1, h.2⟩, ?_⟩
        have hz := Stp.refl I_4g w_4u
        refine ⟨?_, trivial⟩
        obtain ⟨x_4v, q_4w, q_16⟩ := bind_some q_16
        refine ev_call rfl rfl C63 (((integer_made_ok n) _ _  x_0.Neg x_x v_12 r_14 hp.imm _ q_4w).mono ?_)
        rintro _ w_4x ⟨I_4y, v_4z, hv, hq, r_50⟩
        replace hv := hv.symm
        subst hv
        have hs := hq.st
        have hp := hp.join0 hq
        replace hz := hz.trans hs
        replace a_d := a_d.step hs
        replace r_5 := r_5.step hs
        replace r_t := r_t.step hs
        replace r_4i := r_4i.step hs
        refine ⟨SK (Stp I_4y w_4x I_4y) [] [], ⟨Stp.refl _ _, kp_nil⟩, fun L x h => ⟨hz.held h.1, h.2⟩, ?_⟩
        have hz := Stp.refl I_4y w_4x
        refine ⟨?_, trivial⟩
        refine ev_storeA hp (i := 0) (off := 0) (vs := [(.bool x_4d.Neg), v_4h]) rfl rfl rfl rfl T29 rfl (Nat.le_of_ble_eq_true rfl) (ones_cons rfl (ones_cons r_4i.one ones_nil)) ?_
        intro w_51 hp hs
        replace hz := hz.trans hs
        replace a_d := a_d.step hs
        replace r_5 := r_5.step hs
        replace r_t := r_t.step hs
        replace r_50 := r_50.step hs
        replace r_4i := r_4i.step hs
        refine ⟨SK (Stp I_4y w_51 I_4y) [] [], ⟨Stp.refl _ _, kp_nil⟩, fun L x h => ⟨hz.held h.1, h.2⟩, ?_⟩
        have hz := Stp.refl I_4y w_51
        refine ⟨?_, trivial⟩
        refine ev_storeA hp (i := 1) (off := 0) (vs := [(.bool x_4v.Neg), v_4z]) rfl rfl rfl rfl T29 rfl (Nat.le_of_ble_eq_true rfl) (ones_cons rfl (ones_cons r_50.one ones_nil)) ?_
        intro w_52 hp hs
        replace hz := hz.trans hs
        replace a_d := a_d.step hs
        replace r_5 := r_5.step hs
        replace r_t := r_t.step hs
        replace r_4i := r_4i.step hs
        replace r_50 := r_50.step hs
        refine ⟨SK (Stp I_4y w_52 I_4y) [] [], ⟨Stp.refl _ _, kp_nil⟩, fun L x h => ⟨hz.held h.1, h.2⟩, ?_⟩
        have hz := Stp.refl I_4y w_52
        obtain rfl := Option.some.inj q_16
        have hp := hp.perm [3, 2, 0, 1] (by decide)
        exact ⟨(x_4d.Neg, x_4d.Mag, x_4v.Neg, x_4v.Mag, g_4t, v_4h, g_4b, v_4z, I_4y), (.c rfl (.c rfl (.c rfl (.c rfl (.c rfl (.c rfl .n)))))), rfl, hp, r_5, a_d, r_t, r_4i, r_50⟩
      refine ⟨?_, trivial⟩
      refine ev_alloc hp rfl T29 ?_
      intro g_53 w_54 hp hs
      replace hz := hz.trans hs
      replace a_d := a_d.step hs
      replace r_5 := r_5.step hs
      replace r_t := r_t.step hs
      replace r_13 := r_13.step hs
      replace r_14 := r_14.step hs
      refine ⟨SK (Stp I_10 w_54 I_10) [] [], ⟨Stp.refl _ _, kp_nil⟩, fun L x h => ⟨hz.held h.1, h.2⟩, ?_⟩
      have hz := Stp.refl I_10 w_54
      refine ⟨?_, trivial⟩
      obtain ⟨x_55, q_56, q_16⟩ := bind_some q_16
      refine ev_call rfl rfl C63 (((integer_made_ok n) _ _  (!(x_0.Neg == x_3.Neg)) x_w v_11 r_13 hp.imm _ q_56).mono ?_)
      rintro _ w_57 ⟨I_58, v_59, hv, hq, r_5a⟩
      replace hv := hv.symm
      subst hv
      have hs := hq.st
      have hp := hp.join0 hq
      replace hz := hz.trans hs
      replace a_d := a_d.step hs
      replace r_5 := r_5.step hs
      replace r_t := r_t.step hs
      replace r_14 := r_14.step hs
      refine ⟨SK (Stp I_58 w_57 I_58) [] [], ⟨Stp.refl _ _, kp_nil⟩, fun L x h => ⟨hz.held h.1, h.2⟩, ?_⟩
      have hz := Stp.refl I_58 w_57
      refine ⟨?_, trivial⟩
      obtain ⟨x_5b, q_5c, q_16⟩ := bind_some q_16
      refine ev_call rfl rfl C63 (((integer_made_ok n) _ _  x_0.Neg x_x v_12 r_14 hp.imm _ q_5c).mono ?_)
      rintro _ w_5d ⟨I_5e, v_5f, hv, hq, r_5g⟩
      replace hv := hv.symm
      subst hv
      have hs := hq.st
      have hp := hp.join0 hq
      replace hz := hz.trans hs
      replace a_d := a_d.step hs
      replace r_5 := r_5.step hs
      replace r_t := r_t.step hs
      replace r_5a := r_5a.step hs
      refine ⟨SK (Stp I_5e w_5d I_5e) [] [], ⟨Stp.refl _ _, kp_nil⟩, fun L x h => ⟨hz.held h.1, h.2⟩, ?_⟩
      have hz := Stp.refl I_5e w_5d
      refine ⟨?_, trivial⟩
      refine ev_storeA hp (i := 0) (off := 0) (vs := [(.bool x_55.Neg), v_59]) rfl rfl rfl rfl T29 rfl (Nat.le_of_ble_eq_true rfl) (ones_cons rfl (ones_cons r_5a.one ones_nil)) ?_
      intro w_5h hp hs
      replace hz := hz.trans hs
      replace a_d := a_d.step hs
      replace r_5 := r_5.step hs
      replace r_t := r_t.step hs
      replace r_5g := r_5g.step hs
      replace r_5a := r_5a.step hs
      refine ⟨SK (Stp I_5e w_5h I_5e) [] [], ⟨Stp.refl _ _, kp_nil⟩, fun L x h => ⟨hz.held h.1, h.2⟩, ?_⟩
      have hz := Stp.refl I_5e w_5h
      refine ⟨?_, trivial⟩
      refine ev_storeA hp (i := 1) (off := 0) (vs := [(.bool x_5b.Neg), v_5f]) rfl rfl rfl rfl T29 rfl (Nat.le_of_ble_eq_true rfl) (ones_cons rfl (ones_cons r_5g.one ones_nil)) ?_
      intro w_5i hp hs
      replace hz := hz.trans hs
      replace a_d := a_d.step hs
      replace r_5 := r_5.step hs
      replace r_t := r_t.step hs
      replace r_5a := r_5a.step hs
      replace r_5g := r_5g.step hs
      refine ⟨SK (Stp I_5e w_5i I_5e) [] [], ⟨Stp.refl _ _, kp_nil⟩, fun L x h => ⟨hz.held h.1, h.2⟩, ?_⟩
      have hz := Stp.refl I_5e w_5i
      obtain rfl := Option.some.inj q_16
      have hp := hp.perm [3, 2, 0, 1] (by decide)
      exact ⟨(x_55.Neg, x_55.Mag, x_5b.Neg, x_5b.Mag, g_53, v_59, g_4b, v_5f, I_5e), (.c rfl (.c rfl (.c rfl (.c rfl (.c rfl (.c rfl .n)))))), rfl, hp, r_5, a_d, r_t, r_5a, r_5g⟩
    ·
      rintro ⟨x_5j, x_5k, x_5l, x_5m, g_5n, v_5o, g_5p, v_5q, I_5r⟩ w_5s ⟨hy, hp, r_5, a_d, r_t, r_5t, r_5u⟩
      replace hy := hy.symm
      subst hy
      obtain ⟨y_5v, q_5w, h⟩ := bind_some h
      refine W.cut (γ := (Bool × (List Int) × Bool × (List Int) × Value × Value × (Nat → Prop))) (fun g => [(4, (.pointer (some ⟨g_e, 0, none⟩))), (5, (.pointer (some ⟨g_g, 0, none⟩))), (11, (.pointer (some ⟨g_5n, 0, none⟩))), (12, (.pointer (some ⟨g_5p, 0, none⟩)))]) (fun g w' => y_5v = ((g.1), (g.2.1), (g.2.2.1), (g.2.2.2.1)) ∧ Hp ⟨w0, I0, []⟩ (g.2.2.2.2.2.2) [some (g_e, [(.bool false), (.slice none 0 0)], 29), some (g_g, [(.bool false), (.slice none 0 0)], 29), some (g_5n, [(.bool (g.1)), (g.2.2.2.2.1)], 29), some (g_5p, [(.bool (g.2.2.1)), (g.2.2.2.2.2.1)], 29)] w' ∧ RepS (dI .u32) w' (g.2.2.2.2.2.2) (g.2.2.2.2.1) (g.2.1) ∧ RepS (dI .u32) w' (g.2.2.2.2.2.2) (g.2.2.2.2.2.1) (g.2.2.2.1)) ?_ ?_
      ·
        apply go
        apply go
        refine ev0 (rn_field rfl rfl FO29_0) ?_
        refine ev (rn_load rfl rfl (run_loadVar1 T4 (hp.cell (i := 3) (off := 0) rfl rfl))) ?_
        apply go
        refine sel_of (fun hc => ?_) (fun hc => ?_)
        ·
          have q_5w := cond_t q_5w hc
          apply go
          apply go
          refine ev (rn_load rfl rfl (run_loadVarA T29 rfl (hp.at_ (i := 3) rfl))) ?_
          obtain ⟨A_5x, m_5y, m_5z, rfl⟩ := r_t.isSl
          refine ev0 (fun w => rn_build (cs := [(.bool false), (.slice A_5x m_5y m_5z)]) rfl rfl T29 PL29 rfl) ?_
          obtain ⟨x_60, q_61, q_5w⟩ := bind_some q_5w
          refine ev_call rfl rfl C33 (((integer_Add_ok n) _ _  (Int_2.mk x_5l x_5m) v_5q r_5u (Int_2.mk false x_o) (.slice A_5x m_5y m_5z) r_t hp.imm _ q_61).mono ?_)
          rintro _ w_62 ⟨I_63, v_64, hv, hq, r_65⟩
          replace hv := hv.symm
          subst hv
          have hs := hq.st
          have hp := hp.join0 hq
          replace a_d := a_d.step hs
          replace r_5 := r_5.step hs
          replace r_5t := r_5t.step hs
          replace r_5u := r_5u.step hs
          refine ev_storeA hp (i := 3) (off := 0) (vs := [(.bool x_60.Neg), v_64]) rfl rfl rfl rfl T29 rfl (Nat.le_of_ble_eq_true rfl) (ones_cons rfl (ones_cons r_65.one ones_nil)) ?_
          intro w_66 hp hs
          replace a_d := a_d.step hs
          replace r_5 := r_5.step hs
          replace r_5t := r_5t.step hs
          replace r_65 := r_65.step hs
          apply go
          refine ev (rn_load rfl rfl (run_loadVarA T29 rfl (hp.at_ (i := 2) rfl))) ?_
          refine ev0 (rn_field rfl rfl FO29_0) ?_
          refine ev (rn_load rfl rfl (run_loadVar1 T4 (a_d.2 0 _ rfl))) ?_
          refine ev_litN (d := (dI .u32)) (xs := [1]) (cs := [(.int .u32 1)]) hp rfl rfl Tryd.underlying27 T131 (by decide) rfl rfl (Elems.cons (d := (dI .u32)) (xs := _) rfl (Elems.nil _ _ _ _)) ?_
          intro v_67 I_68 w_69 hp hs r_6a
          replace r_5t := r_5t.step hs
          replace r_65 := r_65.step hs
          obtain ⟨A_6b, m_6c, m_6d, rfl⟩ := r_6a.isSl
          refine ev0 (fun w => rn_build (cs := [(.bool (!x_3.Neg)), (.slice A_6b m_6c m_6d)]) rfl rfl T29 PL29 rfl) ?_
          obtain ⟨x_6e, q_6f, q_5w⟩ := bind_some q_5w
          refine ev_call rfl rfl C33 (((integer_Add_ok n) _ _  (Int_2.mk x_5j x_5k) v_5o r_5t (Int_2.mk (!x_3.Neg) [1]) (.slice A_6b m_6c m_6d) r_6a hp.imm _ q_6f).mono ?_)
          rintro _ w_6g ⟨I_6h, v_6i, hv, hq, r_6j⟩
          replace hv := hv.symm
          subst hv
          have hs := hq.st
          have hp := hp.join0 hq
          replace r_5t := r_5t.step hs
          replace r_65 := r_65.step hs
          refine ev_storeA hp (i := 2) (off := 0) (vs := [(.bool x_6e.Neg), v_6i]) rfl rfl rfl rfl T29 rfl (Nat.le_of_ble_eq_true rfl) (ones_cons rfl (ones_cons r_6j.one ones_nil)) ?_
          intro w_6k hp hs
          replace r_6j := r_6j.step hs
          replace r_65 := r_65.step hs
          obtain rfl := Option.some.inj q_5w
          exact ⟨(x_6e.Neg, x_6e.Mag, x_60.Neg, x_60.Mag, v_6i, v_64, I_6h), (.c rfl (.c rfl (.c rfl (.c rfl .n)))), rfl, hp, r_6j, r_65⟩
        ·
          have q_5w := cond_f q_5w hc
          apply go
          obtain rfl := Option.some.inj q_5w
          exact ⟨(x_5j, x_5k, x_5l, x_5m, v_5o, v_5q, I_5r), (.c rfl (.c rfl (.c rfl (.c rfl .n)))), rfl, hp, r_5t, r_5u⟩
      ·
        rintro ⟨x_6l, x_6m, x_6n, x_6o, v_6p, v_6q, I_6r⟩ w_6s ⟨hy, hp, r_6t, r_6u⟩
        replace hy := hy.symm
        subst hy
        apply go
        have hs := hp.stp (Ch.drew [] w_6s)
        have hp := hp.drew
        replace r_6t := r_6t.step hs
        replace r_6u := r_6u.step hs
        refine W.held [(0, true), (1, true), (2, false), (3, false), (4, true)] (fun x => Stp I_6r w_6s.drew I_6r x ∧ OwnK [(g_5n, [(.bool x_6l), v_6p], 29), (g_5p, [(.bool x_6n), v_6q], 29)] x) MX (by kernel_rfl) ⟨Stp.refl _ _, (OwnK.cons (hp.own 2 _ _ _ rfl).1 (OwnK.cons (hp.own 3 _ _ _ rfl).1 OwnK.nil))⟩ ?_
        have hz := Stp.refl I_6r w_6s.drew
        refine evh (fun w' hw => rn_load rfl rfl (run_loadVarA T29 rfl (hw.2.at_ (i := 0) rfl))) ?_
        refine evh (fun w' hw => rn_load rfl rfl (run_loadVarA T29 rfl (hw.2.at_ (i := 1) rfl))) ?_
        refine ev_storeA hp (i := 0) (off := 0) (vs := [(.bool x_6l), v_6p]) rfl rfl rfl rfl T29 rfl (Nat.le_of_ble_eq_true rfl) (ones_cons rfl (ones_cons r_6t.one ones_nil)) ?_
        intro w_6v hp hs
        replace hz := hz.trans hs
        replace r_6u := r_6u.step hs
        replace r_6t := r_6t.step hs
        refine ⟨fun x => Stp I_6r w_6v I_6r x ∧ OwnK [(g_5n, [(.bool x_6l), v_6p], 29), (g_5p, [(.bool x_6n), v_6q], 29)] x, ⟨Stp.refl _ _, (OwnK.cons (hp.own 2 _ _ _ rfl).1 (OwnK.cons (hp.own 3 _ _ _ rfl).1 OwnK.nil))⟩, fun x hx => ⟨hz.held hx.1, hx.2⟩, ?_⟩
        have hz := Stp.refl I_6r w_6v
        refine ev_storeA hp (i := 1) (off := 0) (vs := [(.bool x_6n), v_6q]) rfl rfl rfl rfl T29 rfl (Nat.le_of_ble_eq_true rfl) (ones_cons rfl (ones_cons r_6u.one ones_nil)) ?_
        intro w_6w hp hs
        replace hz := hz.trans hs
        replace r_6t := r_6t.step hs
        replace r_6u := r_6u.step hs
        refine ⟨fun x => Stp I_6r w_6w I_6r x ∧ OwnK [(g_5n, [(.bool x_6l), v_6p], 29), (g_5p, [(.bool x_6n), v_6q], 29)] x, ⟨Stp.refl _ _, (OwnK.cons (hp.own 2 _ _ _ rfl).1 (OwnK.cons (hp.own 3 _ _ _ rfl).1 OwnK.nil))⟩, fun x hx => ⟨hz.held hx.1, hx.2⟩, ?_⟩
        have hz := Stp.refl I_6r w_6w
        apply go
        obtain rfl := Option.some.inj h
        refine ⟨_, run_loadVarA T29 rfl (hp.at_ (i := 0) rfl), ?_⟩
        refine ⟨_, run_loadVarA T29 rfl (hp.at_ (i := 1) rfl), ?_⟩
        have hp := hp.sel [] (by decide)
        exact ⟨I_6r, v_6p, v_6q, rfl, hp, r_6t, r_6u⟩

end Go.Proofs.YtcdboppghnchpaaDoor

namespace Go.Proofs.YtcdboppghnchpaaDoor
open Go Go.Proofs.YtcdboppghnchpaaDoor.Gw Go.RowKit
set_option linter.unusedVariables false
attribute [local irreducible] Ev EvQ EvS EvH
def integer_Abs_S (f : Int_2 → Option Int_2) : Prop := ∀ (w0 : World) (I0 : Nat → Prop) (x643 : Int_2) (v644 : Value) (r645 : RepS (dI .u32) w0 I0 v644 x643.Mag) (hI : ∀ g, I0 g → g < w0.heap.size) (r : Int_2), f x643 = some r →
    Ret Tryd.prog 94 #[(.agg #[(.bool x643.Neg), v644])] w0 fun v w1 => ∃ (I1 : Nat → Prop) (u646 : Value), v = (.agg #[(.bool r.Neg), u646]) ∧ Hp ⟨w0, I0, []⟩ I1 [] w1 ∧ RepS (dI .u32) w1 I1 u646 r.Mag
theorem integer_Abs_ok (n : Nat) : integer_Abs_S (integer_Abs n) := by
  intro w0 I0 x643 v644 r645 hI r h
  unfold integer_Abs at h
  refine enter Tryd.func94 rfl (Nat.le_of_ble_eq_true rfl) ?_
  have hp : Hp ⟨w0, I0, []⟩ I0 [] w0 := Hp.start hI
  apply go
  apply go
  refine ev_boxI hp rfl rfl ?_
  intro p649 I650 w648 hp hs a651
  replace r645 := r645.step hs
  refine ev_alloc hp rfl T29 ?_
  intro g652 w653 hp hs
  replace a651 := a651.step hs
  replace r645 := r645.step hs
  apply go
  apply go
  refine ev0 (rn_field rfl rfl FO29_1) ?_
  refine ev (rn_load rfl rfl (run_loadVar1 T27 (a651.2 1 _ rfl))) ?_
  obtain ⟨x654, q655, h⟩ := bind_some h
  refine ev_call rfl rfl C67 (((integer_trim_ok n) _ _  x643.Mag v644 r645 hp.imm _ q655).mono ?_)
  rintro _ w656 ⟨I657, v658, hv, hq, r659⟩
  replace hv := hv.symm
  subst hv
  have hs := hq.st
  have hp := hp.join0 hq
  obtain ⟨x660, q661, h⟩ := bind_some h
  refine ev_call rfl rfl C87 (((slices_Cloneuint32_uint32__ok n) _ _  x654 v658 r659 hp.imm _ q661).mono ?_)
  rintro _ w662 ⟨I663, v664, hv, hq, r665⟩
  replace hv := hv.symm
  subst hv
  have hs := hq.st
  have hp := hp.join0 hq
  obtain ⟨x666, q667, h⟩ := bind_some h
  refine ev_call rfl rfl C63 (((integer_made_ok n) _ _  false x660 v664 r665 hp.imm _ q667).mono ?_)
  rintro _ w668 ⟨I669, v670, hv, hq, r671⟩
  replace hv := hv.symm
  subst hv
  have hs := hq.st
  have hp := hp.join0 hq
  refine ev_storeA hp (i := 0) (off := 0) (vs := [(.bool x666.Neg), v670]) rfl rfl rfl rfl T29 rfl (Nat.le_of_ble_eq_true rfl) (ones_cons rfl (ones_cons r671.one ones_nil)) ?_
  intro w672 hp hs
  replace r671 := r671.step hs
  apply go
  obtain rfl := Option.some.inj h
  refine ⟨_, run_loadVarA T29 rfl (hp.at_ (i := 0) rfl), ?_⟩
  have hp := hp.sel [] (by decide)
  exact ⟨I669, v670, rfl, hp, r671⟩

end Go.Proofs.YtcdboppghnchpaaDoor

namespace Go.Proofs.YtcdboppghnchpaaDoor
open Go Go.Proofs.YtcdboppghnchpaaDoor.Gw Go.RowKit
set_option linter.unusedVariables false
attribute [local irreducible] Ev EvQ EvS EvH
def integer_Gcd_S (f : Int_2 → Int_2 → Option Int_2) : Prop := ∀ (w0 : World) (I0 : Nat → Prop) (x_0 : Int_2) (v_1 : Value) (r_2 : RepS (dI .u32) w0 I0 v_1 x_0.Mag) (x_3 : Int_2) (v_4 : Value) (r_5 : RepS (dI .u32) w0 I0 v_4 x_3.Mag) (hI : ∀ g, I0 g → g < w0.heap.size) (r : Int_2), f x_0 x_3 = some r →
    Ret Tryd.prog 61 #[(.agg #[(.bool x_0.Neg), v_1]), (.agg #[(.bool x_3.Neg), v_4])] w0 fun v w1 => ∃ (I1 : Nat → Prop) (u_6 : Value), v = (.agg #[(.bool r.Neg), u_6]) ∧ Hp ⟨w0, I0, []⟩ I1 [] w1 ∧ RepS (dI .u32) w1 I1 u_6 r.Mag
set_option maxHeartbeats 6400000 in
theorem integer_Gcd_ok (n : Nat) : integer_Gcd_S (integer_Gcd n) := by
  intro w0 I0 x_0 v_1 r_2 x_3 v_4 r_5 hI r h
  unfold integer_Gcd at h
  refine enter Tryd.func61 rfl (Nat.le_of_ble_eq_true rfl) ?_
  have hp : Hp ⟨w0, I0, []⟩ I0 [] w0 := Hp.start hI
  apply go
  apply go
  refine ev_boxI hp rfl rfl ?_
  intro p_6 I_7 w_8 hp hs a_9
  replace r_5 := r_5.step hs
  replace r_2 := r_2.step hs
  refine ev_boxI hp rfl rfl ?_
  intro p_a I_b w_c hp hs a_d
  replace a_9 := a_9.step hs
  replace r_2 := r_2.step hs
  replace r_5 := r_5.step hs
  refine ev_alloc hp rfl T29 ?_
  intro g_e w_f hp hs
  replace a_9 := a_9.step hs
  replace r_2 := r_2.step hs
  replace a_d := a_d.step hs
  replace r_5 := r_5.step hs
  obtain ⟨y_g, q_h, h⟩ := bind_some h
  refine W.cut (γ := (Bool × (List Int) × Bool × (List Int) × Nat × Value × Nat × Value × (Nat → Prop))) (fun g => [(4, (.pointer (some ⟨g_e, 0, none⟩))), (5, (.pointer (some ⟨(g.2.2.2.2.1), 0, none⟩))), (6, (.pointer (some ⟨(g.2.2.2.2.2.2.1), 0, none⟩)))]) (fun g w' => y_g = ((g.1), (g.2.1), (g.2.2.1), (g.2.2.2.1)) ∧ Hp ⟨w0, I0, []⟩ (g.2.2.2.2.2.2.2.2) [some (g_e, [(.bool false), (.slice none 0 0)], 29), some ((g.2.2.2.2.1), [(.bool (g.1)), (g.2.2.2.2.2.1)], 29), some ((g.2.2.2.2.2.2.1), [(.bool (g.2.2.1)), (g.2.2.2.2.2.2.2.1)], 29)] w' ∧ RepS (dI .u32) w' (g.2.2.2.2.2.2.2.2) (g.2.2.2.2.2.1) (g.2.1) ∧ RepS (dI .u32) w' (g.2.2.2.2.2.2.2.2) (g.2.2.2.2.2.2.2.1) (g.2.2.2.1)) ?_ ?_
  ·
    have hs := hp.stp (Ch.drew [] w_f)
    have hp := hp.drew
    replace a_9 := a_9.step hs
    replace r_2 := r_2.step hs
    replace a_d := a_d.step hs
    replace r_5 := r_5.step hs
    refine W.heldG (.q 0 (.q 2 (.l 1 (.l 3 (.l 4 (.l 5 (.l 6 (.l 7 .done .no) .no) .no) (.l 5 (.l 4 (.l 6 (.l 7 .done .no) .no) .no) .no)) (.l 4 (.l 3 (.l 5 (.l 6 (.l 7 .done .no) .no) .no) (.l 5 (.l 3 (.l 6 (.l 7 .done .no) .no) .no) .no)) (.l 5 (.l 3 (.l 4 (.l 6 (.l 7 .done .no) .no) .no) (.l 4 (.l 3 (.l 6 (.l 7 .done .no) .no) .no) .no)) .no))) (.l 4 (.l 1 (.l 3 (.l 5 (.l 6 (.l 7 .done .no) .no) .no) (.l 5 (.l 3 (.l 6 (.l 7 .done .no) .no) .no) .no)) (.l 5 (.l 1 (.l 3 (.l 6 (.l 7 .done .no) .no) .no) .no) .no)) (.l 5 (.l 1 (.l 3 (.l 4 (.l 6 (.l 7 .done .no) .no) .no) (.l 4 (.l 3 (.l 6 (.l 7 .done .no) .no) .no) .no)) (.l 4 (.l 1 (.l 3 (.l 6 (.l 7 .done .no) .no) .no) .no) .no)) .no))))) (SK (Stp I_b w_f.drew I_b) [] []) MX (by kernel_rfl) ⟨Stp.refl _ _, kp_nil⟩ ?_
    have hz := Stp.refl I_b w_f.drew
    refine ⟨SK.same (by kernel_rfl), ?_⟩
    refine evh (fun w' hw => rn_load rfl rfl (run_loadVarA T29 rfl (a_9.step (S0.si hw)))) ?_
    refine ⟨SK.same (by kernel_rfl), ?_⟩
    refine evh (fun w' hw => rn_load rfl rfl (run_loadVarA T29 rfl (a_d.step (S0.si hw)))) ?_
    refine ⟨?_, ?_⟩
    ·
      obtain ⟨x_i, q_j, q_h⟩ := bind_some q_h
      refine ev_call rfl rfl C94 (((integer_Abs_ok n) _ _  (Int_2.mk x_0.Neg x_0.Mag) v_1 r_2 hp.imm _ q_j).mono ?_)
      rintro _ w_k ⟨I_l, v_m, hv, hq, r_n⟩
      replace hv := hv.symm
      subst hv
      have hs := hq.st
      have hp := hp.join0 hq
      replace hz := hz.trans hs
      replace r_5 := r_5.step hs
      refine ⟨SK (Stp I_l w_k I_l) [] [], ⟨Stp.refl _ _, kp_nil⟩, fun L x h => ⟨hz.held h.1, h.2⟩, ?_⟩
      have hz := Stp.refl I_l w_k
      refine ⟨?_, ?_⟩
      ·
        obtain ⟨x_o, q_p, q_h⟩ := bind_some q_h
        refine ev_call rfl rfl C94 (((integer_Abs_ok n) _ _  (Int_2.mk x_3.Neg x_3.Mag) v_4 r_5 hp.imm _ q_p).mono ?_)
        rintro _ w_q ⟨I_r, v_s, hv, hq, r_t⟩
        replace hv := hv.symm
        subst hv
        have hs := hq.st
        have hp := hp.join0 hq
        replace hz := hz.trans hs
        replace r_n := r_n.step hs
        refine ⟨SK (Stp I_r w_q I_r) [] [], ⟨Stp.refl _ _, kp_nil⟩, fun L x h => ⟨hz.held h.1, h.2⟩, ?_⟩
        have hz := Stp.refl I_r w_q
        refine ⟨?_, ?_⟩
        ·
          refine ev_alloc hp rfl T29 ?_
          intro g_u w_v hp hs
          replace hz := hz.trans hs
          replace r_n := r_n.step hs
          replace r_t := r_t.step hs
          refine ⟨SK (Stp I_r w_v I_r) [] [], ⟨Stp.refl _ _, kp_nil⟩, fun L x h => ⟨hz.held h.1, h.2⟩, ?_⟩
          have hz := Stp.refl I_r w_v
          refine ⟨?_, trivial⟩
          refine ev_alloc hp rfl T29 ?_
          intro g_w w_x hp hs
          replace hz := hz.trans hs
          replace r_n := r_n.step hs
          replace r_t := r_t.step hs
          refine ⟨SK (Stp I_r w_x I_r) [] [], ⟨Stp.refl _ _, kp_nil⟩, fun L x h => ⟨hz.held h.1, h.2⟩, ?_⟩
          have hz := Stp.refl I_r w_x
          refine ⟨?_, trivial⟩
          refine ev_storeA hp (i := 1) (off := 0) (vs := [(.bool x_i.Neg), v_m]) rfl rfl rfl rfl T29 rfl (Nat.le_of_ble_eq_true rfl) (ones_cons rfl (ones_cons r_n.one ones_nil)) ?_
          intro w_y hp hs
          replace hz := hz.trans hs
          replace r_t := r_t.step hs
          replace r_n := r_n.step hs
          refine ⟨SK (Stp I_r w_y I_r) [] [], ⟨Stp.refl _ _, kp_nil⟩, fun L x h => ⟨hz.held h.1, h.2⟩, ?_⟩
          have hz := Stp.refl I_r w_y
          refine ⟨?_, trivial⟩
          refine ev_storeA hp (i := 0) (off := 0) (vs := [(.bool x_o.Neg), v_s]) rfl rfl rfl rfl T29 rfl (Nat.le_of_ble_eq_true rfl) (ones_cons rfl (ones_cons r_t.one ones_nil)) ?_
          intro w_z hp hs
          replace hz := hz.trans hs
          replace r_t := r_t.step hs
          replace r_n := r_n.step hs
          refine ⟨SK (Stp I_r w_z I_r) [] [], ⟨Stp.refl _ _, kp_nil⟩, fun L x h => ⟨hz.held h.1, h.2⟩, ?_⟩
          have hz := Stp.refl I_r w_z
          obtain rfl := Option.some.inj q_h
          have hp := hp.perm [2, 1, 0] (by decide)
          exact ⟨(x_i.Neg, x_i.Mag, x_o.Neg, x_o.Mag, g_u, v_m, g_w, v_s, I_r), (.c rfl (.c rfl (.c rfl .n))), rfl, hp, r_n, r_t⟩
        refine ⟨?_, trivial⟩
        refine ev_alloc hp rfl T29 ?_
        intro g_10 w_11 hp hs
        replace hz := hz.trans hs
        replace r_n := r_n.step hs
        replace r_t := r_t.step hs
        refine ⟨SK (Stp I_r w_11 I_r) [] [], ⟨Stp.refl _ _, kp_nil⟩, fun L x h => ⟨hz.held h.1, h.2⟩, ?_⟩
        have hz := Stp.refl I_r w_11
        refine ⟨?_, trivial⟩
        refine ev_alloc hp rfl T29 ?_
        intro g_12 w_13 hp hs
        replace hz := hz.trans hs
        replace r_n := r_n.step hs
        replace r_t := r_t.step hs
        refine ⟨SK (Stp I_r w_13 I_r) [] [], ⟨Stp.refl _ _, kp_nil⟩, fun L x h => ⟨hz.held h.1, h.2⟩, ?_⟩
        have hz := Stp.refl I_r w_13
        refine ⟨?_, trivial⟩
        refine ev_storeA hp (i := 0) (off := 0) (vs := [(.bool x_i.Neg), v_m]) rfl rfl rfl rfl T29 rfl (Nat.le_of_ble_eq_true rfl) (ones_cons rfl (ones_cons r_n.one ones_nil)) ?_
        intro w_14 hp hs
        replace hz := hz.trans hs
        replace r_t := r_t.step hs
        replace r_n := r_n.step hs
        refine ⟨SK (Stp I_r w_14 I_r) [] [], ⟨Stp.refl _ _, kp_nil⟩, fun L x h => ⟨hz.held h.1, h.2⟩, ?_⟩
        have hz := Stp.refl I_r w_14
        refine ⟨?_, trivial⟩
        refine ev_storeA hp (i := 1) (off := 0) (vs := [(.bool x_o.Neg), v_s]) rfl rfl rfl rfl T29 rfl (Nat.le_of_ble_eq_true rfl) (ones_cons rfl (ones_cons r_t.one ones_nil)) ?_
        intro w_15 hp hs
        replace hz := hz.trans hs
        replace r_n := r_n.step hs
        replace r_t := r_t.step hs
        refine ⟨SK (Stp I_r w_15 I_r) [] [], ⟨Stp.refl _ _, kp_nil⟩, fun L x h => ⟨hz.held h.1, h.2⟩, ?_⟩
        have hz := Stp.refl I_r w_15
        obtain rfl := Option.some.inj q_h
        have hp := hp.perm [2, 0, 1] (by decide)
        exact ⟨(x_i.Neg, x_i.Mag, x_o.Neg, x_o.Mag, g_12, v_m, g_10, v_s, I_r), (.c rfl (.c rfl (.c rfl .n))), rfl, hp, r_n, r_t⟩
      refine ⟨?_, ?_⟩
      ·
        refine ev_alloc hp rfl T29 ?_
        intro g_16 w_17 hp hs
        replace hz := hz.trans hs
        replace r_5 := r_5.step hs
        replace r_n := r_n.step hs
        refine ⟨SK (Stp I_l w_17 I_l) [] [], ⟨Stp.refl _ _, kp_nil⟩, fun L x h => ⟨hz.held h.1, h.2⟩, ?_⟩
        have hz := Stp.refl I_l w_17
        refine ⟨?_, ?_⟩
        ·
          obtain ⟨x_18, q_19, q_h⟩ := bind_some q_h
          refine ev_call rfl rfl C94 (((integer_Abs_ok n) _ _  (Int_2.mk x_3.Neg x_3.Mag) v_4 r_5 hp.imm _ q_19).mono ?_)
          rintro _ w_1a ⟨I_1b, v_1c, hv, hq, r_1d⟩
          replace hv := hv.symm
          subst hv
          have hs := hq.st
          have hp := hp.join0 hq
          replace hz := hz.trans hs
          replace r_n := r_n.step hs
          refine ⟨SK (Stp I_1b w_1a I_1b) [] [], ⟨Stp.refl _ _, kp_nil⟩, fun L x h => ⟨hz.held h.1, h.2⟩, ?_⟩
          have hz := Stp.refl I_1b w_1a
          refine ⟨?_, trivial⟩
          refine ev_alloc hp rfl T29 ?_
          intro g_1e w_1f hp hs
          replace hz := hz.trans hs
          replace r_n := r_n.step hs
          replace r_1d := r_1d.step hs
          refine ⟨SK (Stp I_1b w_1f I_1b) [] [], ⟨Stp.refl _ _, kp_nil⟩, fun L x h => ⟨hz.held h.1, h.2⟩, ?_⟩
          have hz := Stp.refl I_1b w_1f
          refine ⟨?_, trivial⟩
          refine ev_storeA hp (i := 1) (off := 0) (vs := [(.bool x_i.Neg), v_m]) rfl rfl rfl rfl T29 rfl (Nat.le_of_ble_eq_true rfl) (ones_cons rfl (ones_cons r_n.one ones_nil)) ?_
          intro w_1g hp hs
          replace hz := hz.trans hs
          replace r_1d := r_1d.step hs
          replace r_n := r_n.step hs
          refine ⟨SK (Stp I_1b w_1g I_1b) [] [], ⟨Stp.refl _ _, kp_nil⟩, fun L x h => ⟨hz.held h.1, h.2⟩, ?_⟩
          have hz := Stp.refl I_1b w_1g
          refine ⟨?_, trivial⟩
          refine ev_storeA hp (i := 0) (off := 0) (vs := [(.bool x_18.Neg), v_1c]) rfl rfl rfl rfl T29 rfl (Nat.le_of_ble_eq_true rfl) (ones_cons rfl (ones_cons r_1d.one ones_nil)) ?_
          intro w_1h hp hs
          replace hz := hz.trans hs
          replace r_1d := r_1d.step hs
          replace r_n := r_n.step hs
          refine ⟨SK (Stp I_1b w_1h I_1b) [] [], ⟨Stp.refl _ _, kp_nil⟩, fun L x h => ⟨hz.held h.1, h.2⟩, ?_⟩
          have hz := Stp.refl I_1b w_1h
          obtain rfl := Option.some.inj q_h
          have hp := hp.perm [2, 1, 0] (by decide)
          exact ⟨(x_i.Neg, x_i.Mag, x_18.Neg, x_18.Mag, g_16, v_m, g_1e, v_1c, I_1b), (.c rfl (.c rfl (.c rfl .n))), rfl, hp, r_n, r_1d⟩
        refine ⟨?_, trivial⟩
        refine ev_alloc hp rfl T29 ?_
        intro g_1i w_1j hp hs
        replace hz := hz.trans hs
        replace r_5 := r_5.step hs
        replace r_n := r_n.step hs
        refine ⟨SK (Stp I_l w_1j I_l) [] [], ⟨Stp.refl _ _, kp_nil⟩, fun L x h => ⟨hz.held h.1, h.2⟩, ?_⟩
        have hz := Stp.refl I_l w_1j
        refine ⟨?_, trivial⟩
        obtain ⟨x_1k, q_1l, q_h⟩ := bind_some q_h
        refine ev_call rfl rfl C94 (((integer_Abs_ok n) _ _  (Int_2.mk x_3.Neg x_3.Mag) v_4 r_5 hp.imm _ q_1l).mono ?_)
        rintro _ w_1m ⟨I_1n, v_1o, hv, hq, r_1p⟩
        replace hv := hv.symm
        subst hv
        have hs := hq.st
        have hp := hp.join0 hq
        replace hz := hz.trans hs
        replace r_n := r_n.step hs
        refine ⟨SK (Stp I_1n w_1m I_1n) [] [], ⟨Stp.refl _ _, kp_nil⟩, fun L x h => ⟨hz.held h.1, h.2⟩, ?_⟩
        have hz := Stp.refl I_1n w_1m
        refine ⟨?_, trivial⟩
        refine ev_storeA hp (i := 1) (off := 0) (vs := [(.bool x_i.Neg), v_m]) rfl rfl rfl rfl T29 rfl (Nat.le_of_ble_eq_true rfl) (ones_cons rfl (ones_cons r_n.one ones_nil)) ?_
        intro w_1q hp hs
        replace hz := hz.trans hs
        replace r_1p := r_1p.step hs
        replace r_n := r_n.step hs
        refine ⟨SK (Stp I_1n w_1q I_1n) [] [], ⟨Stp.refl _ _, kp_nil⟩, fun L x h => ⟨hz.held h.1, h.2⟩, ?_⟩
        have hz := Stp.refl I_1n w_1q
        refine ⟨?_, trivial⟩
        refine ev_storeA hp (i := 0) (off := 0) (vs := [(.bool x_1k.Neg), v_1o]) rfl rfl rfl rfl T29 rfl (Nat.le_of_ble_eq_true rfl) (ones_cons rfl (ones_cons r_1p.one ones_nil)) ?_
        intro w_1r hp hs
        replace hz := hz.trans hs
        replace r_1p := r_1p.step hs
        replace r_n := r_n.step hs
        refine ⟨SK (Stp I_1n w_1r I_1n) [] [], ⟨Stp.refl _ _, kp_nil⟩, fun L x h => ⟨hz.held h.1, h.2⟩, ?_⟩
        have hz := Stp.refl I_1n w_1r
        obtain rfl := Option.some.inj q_h
        have hp := hp.perm [2, 1, 0] (by decide)
        exact ⟨(x_i.Neg, x_i.Mag, x_1k.Neg, x_1k.Mag, g_16, v_m, g_1i, v_1o, I_1n), (.c rfl (.c rfl (.c rfl .n))), rfl, hp, r_n, r_1p⟩
      refine ⟨?_, trivial⟩
      refine ev_alloc hp rfl T29 ?_
      intro g_1s w_1t hp hs
      replace hz := hz.trans hs
      replace r_5 := r_5.step hs
      replace r_n := r_n.step hs
      refine ⟨SK (Stp I_l w_1t I_l) [] [], ⟨Stp.refl _ _, kp_nil⟩, fun L x h => ⟨hz.held h.1, h.2⟩, ?_⟩
      have hz := Stp.refl I_l w_1t
      refine ⟨?_, ?_⟩
      ·
        obtain ⟨x_1u, q_1v, q_h⟩ := bind_some q_h
        refine ev_call rfl rfl C94 (((integer_Abs_ok n) _ _  (Int_2.mk x_3.Neg x_3.Mag) v_4 r_5 hp.imm _ q_1v).mono ?_)
        rintro _ w_1w ⟨I_1x, v_1y, hv, hq, r_1z⟩
        replace hv := hv.symm
        subst hv
        have hs := hq.st
        have hp := hp.join0 hq
        replace hz := hz.trans hs
        replace r_n := r_n.step hs
        refine ⟨SK (Stp I_1x w_1w I_1x) [] [], ⟨Stp.refl _ _, kp_nil⟩, fun L x h => ⟨hz.held h.1, h.2⟩, ?_⟩
        have hz := Stp.refl I_1x w_1w
        refine ⟨?_, trivial⟩
        refine ev_alloc hp rfl T29 ?_
        intro g_20 w_21 hp hs
        replace hz := hz.trans hs
        replace r_n := r_n.step hs
        replace r_1z := r_1z.step hs
        refine ⟨SK (Stp I_1x w_21 I_1x) [] [], ⟨Stp.refl _ _, kp_nil⟩, fun L x h => ⟨hz.held h.1, h.2⟩, ?_⟩
        have hz := Stp.refl I_1x w_21
        refine ⟨?_, trivial⟩
        refine ev_storeA hp (i := 0) (off := 0) (vs := [(.bool x_i.Neg), v_m]) rfl rfl rfl rfl T29 rfl (Nat.le_of_ble_eq_true rfl) (ones_cons rfl (ones_cons r_n.one ones_nil)) ?_
        intro w_22 hp hs
        replace hz := hz.trans hs
        replace r_1z := r_1z.step hs
        replace r_n := r_n.step hs
        refine ⟨SK (Stp I_1x w_22 I_1x) [] [], ⟨Stp.refl _ _, kp_nil⟩, fun L x h => ⟨hz.held h.1, h.2⟩, ?_⟩
        have hz := Stp.refl I_1x w_22
        refine ⟨?_, trivial⟩
        refine ev_storeA hp (i := 1) (off := 0) (vs := [(.bool x_1u.Neg), v_1y]) rfl rfl rfl rfl T29 rfl (Nat.le_of_ble_eq_true rfl) (ones_cons rfl (ones_cons r_1z.one ones_nil)) ?_
        intro w_23 hp hs
        replace hz := hz.trans hs
        replace r_n := r_n.step hs
        replace r_1z := r_1z.step hs
        refine ⟨SK (Stp I_1x w_23 I_1x) [] [], ⟨Stp.refl _ _, kp_nil⟩, fun L x h => ⟨hz.held h.1, h.2⟩, ?_⟩
        have hz := Stp.refl I_1x w_23
        obtain rfl := Option.some.inj q_h
        have hp := hp.perm [2, 0, 1] (by decide)
        exact ⟨(x_i.Neg, x_i.Mag, x_1u.Neg, x_1u.Mag, g_20, v_m, g_1s, v_1y, I_1x), (.c rfl (.c rfl (.c rfl .n))), rfl, hp, r_n, r_1z⟩
      refine ⟨?_, trivial⟩
      refine ev_alloc hp rfl T29 ?_
      intro g_24 w_25 hp hs
      replace hz := hz.trans hs
      replace r_5 := r_5.step hs
      replace r_n := r_n.step hs
      refine ⟨SK (Stp I_l w_25 I_l) [] [], ⟨Stp.refl _ _, kp_nil⟩, fun L x h => ⟨hz.held h.1, h.2⟩, ?_⟩
      have hz := Stp.refl I_l w_25
      refine ⟨?_, trivial⟩
      obtain ⟨x_26, q_27, q_h⟩ := bind_some q_h
      refine ev_call rfl rfl C94 (((integer_Abs_ok n) _ _  (Int_2.mk x_3.Neg x_3.Mag) v_4 r_5 hp.imm _ q_27).mono ?_)
      rintro _ w_28 ⟨I_29, v_2a, hv, hq, r_2b⟩
      replace hv := hv.symm
      subst hv
      have hs := hq.st
      have hp := hp.join0 hq
      replace hz := hz.trans hs
      replace r_n := r_n.step hs
      refine ⟨SK (Stp I_29 w_28 I_29) [] [], ⟨Stp.refl _ _, kp_nil⟩, fun L x h => ⟨hz.held h.1, h.2⟩, ?_⟩
      have hz := Stp.refl I_29 w_28
      refine ⟨?_, trivial⟩
      refine ev_storeA hp (i := 0) (off := 0) (vs := [(.bool x_i.Neg), v_m]) rfl rfl rfl rfl T29 rfl (Nat.le_of_ble_eq_true rfl) (ones_cons rfl (ones_cons r_n.one ones_nil)) ?_
      intro w_2c hp hs
      replace hz := hz.trans hs
      replace r_2b := r_2b.step hs
      replace r_n := r_n.step hs
      refine ⟨SK (Stp I_29 w_2c I_29) [] [], ⟨Stp.refl _ _, kp_nil⟩, fun L x h => ⟨hz.held h.1, h.2⟩, ?_⟩
      have hz := Stp.refl I_29 w_2c
      refine ⟨?_, trivial⟩
      refine ev_storeA hp (i := 1) (off := 0) (vs := [(.bool x_26.Neg), v_2a]) rfl rfl rfl rfl T29 rfl (Nat.le_of_ble_eq_true rfl) (ones_cons rfl (ones_cons r_2b.one ones_nil)) ?_
      intro w_2d hp hs
      replace hz := hz.trans hs
      replace r_n := r_n.step hs
      replace r_2b := r_2b.step hs
      refine ⟨SK (Stp I_29 w_2d I_29) [] [], ⟨Stp.refl _ _, kp_nil⟩, fun L x h => ⟨hz.held h.1, h.2⟩, ?_⟩
      have hz := Stp.refl I_29 w_2d
      obtain rfl := Option.some.inj q_h
      have hp := hp.perm [2, 0, 1] (by decide)
      exact ⟨(x_i.Neg, x_i.Mag, x_26.Neg, x_26.Mag, g_24, v_m, g_1s, v_2a, I_29), (.c rfl (.c rfl (.c rfl .n))), rfl, hp, r_n, r_2b⟩
    refine ⟨?_, ?_⟩
    ·
      refine ev_alloc hp rfl T29 ?_
      intro g_2e w_2f hp hs
      replace hz := hz.trans hs
      replace r_2 := r_2.step hs
      replace r_5 := r_5.step hs
      refine ⟨SK (Stp I_b w_2f I_b) [] [], ⟨Stp.refl _ _, kp_nil⟩, fun L x h => ⟨hz.held h.1, h.2⟩, ?_⟩
      have hz := Stp.refl I_b w_2f
      refine ⟨?_, ?_⟩
      ·
        obtain ⟨x_2g, q_2h, q_h⟩ := bind_some q_h
        refine ev_call rfl rfl C94 (((integer_Abs_ok n) _ _  (Int_2.mk x_0.Neg x_0.Mag) v_1 r_2 hp.imm _ q_2h).mono ?_)
        rintro _ w_2i ⟨I_2j, v_2k, hv, hq, r_2l⟩
        replace hv := hv.symm
        subst hv
        have hs := hq.st
        have hp := hp.join0 hq
        replace hz := hz.trans hs
        replace r_5 := r_5.step hs
        refine ⟨SK (Stp I_2j w_2i I_2j) [] [], ⟨Stp.refl _ _, kp_nil⟩, fun L x h => ⟨hz.held h.1, h.2⟩, ?_⟩
        have hz := Stp.refl I_2j w_2i
        refine ⟨?_, ?_⟩
        ·
          obtain ⟨x_2m, q_2n, q_h⟩ := bind_some q_h
          refine ev_call rfl rfl C94 (((integer_Abs_ok n) _ _  (Int_2.mk x_3.Neg x_3.Mag) v_4 r_5 hp.imm _ q_2n).mono ?_)
          rintro _ w_2o ⟨I_2p, v_2q, hv, hq, r_2r⟩
          replace hv := hv.symm
          subst hv
          have hs := hq.st
          have hp := hp.join0 hq
          replace hz := hz.trans hs
          replace r_2l := r_2l.step hs
          refine ⟨SK (Stp I_2p w_2o I_2p) [] [], ⟨Stp.refl _ _, kp_nil⟩, fun L x h => ⟨hz.held h.1, h.2⟩, ?_⟩
          have hz := Stp.refl I_2p w_2o
          refine ⟨?_, trivial⟩
          refine ev_alloc hp rfl T29 ?_
          intro g_2s w_2t hp hs
          replace hz := hz.trans hs
          replace r_2l := r_2l.step hs
          replace r_2r := r_2r.step hs
          refine ⟨SK (Stp I_2p w_2t I_2p) [] [], ⟨Stp.refl _ _, kp_nil⟩, fun L x h => ⟨hz.held h.1, h.2⟩, ?_⟩
          have hz := Stp.refl I_2p w_2t
          refine ⟨?_, trivial⟩
          refine ev_storeA hp (i := 1) (off := 0) (vs := [(.bool x_2g.Neg), v_2k]) rfl rfl rfl rfl T29 rfl (Nat.le_of_ble_eq_true rfl) (ones_cons rfl (ones_cons r_2l.one ones_nil)) ?_
          intro w_2u hp hs
          replace hz := hz.trans hs
          replace r_2r := r_2r.step hs
          replace r_2l := r_2l.step hs
          refine ⟨SK (Stp I_2p w_2u I_2p) [] [], ⟨Stp.refl _ _, kp_nil⟩, fun L x h => ⟨hz.held h.1, h.2⟩, ?_⟩
          have hz := Stp.refl I_2p w_2u
          refine ⟨?_, trivial⟩
          refine ev_storeA hp (i := 0) (off := 0) (vs := [(.bool x_2m.Neg), v_2q]) rfl rfl rfl rfl T29 rfl (Nat.le_of_ble_eq_true rfl) (ones_cons rfl (ones_cons r_2r.one ones_nil)) ?_
          intro w_2v hp hs
          replace hz := hz.trans hs
          replace r_2r := r_2r.step hs
          replace r_2l := r_2l.step hs
          refine ⟨SK (Stp I_2p w_2v I_2p) [] [], ⟨Stp.refl _ _, kp_nil⟩, fun L x h => ⟨hz.held h.1, h.2⟩, ?_⟩
          have hz := Stp.refl I_2p w_2v
          obtain rfl := Option.some.inj q_h
          have hp := hp.perm [2, 1, 0] (by decide)
          exact ⟨(x_2g.Neg, x_2g.Mag, x_2m.Neg, x_2m.Mag, g_2e, v_2k, g_2s, v_2q, I_2p), (.c rfl (.c rfl (.c rfl .n))), rfl, hp, r_2l, r_2r⟩
        refine ⟨?_, trivial⟩
        refine ev_alloc hp rfl T29 ?_
        intro g_2w w_2x hp hs
        replace hz := hz.trans hs
        replace r_5 := r_5.step hs
        replace r_2l := r_2l.step hs
        refine ⟨SK (Stp I_2j w_2x I_2j) [] [], ⟨Stp.refl _ _, kp_nil⟩, fun L x h => ⟨hz.held h.1, h.2⟩, ?_⟩
        have hz := Stp.refl I_2j w_2x
        refine ⟨?_, trivial⟩
        obtain ⟨x_2y, q_2z, q_h⟩ := bind_some q_h
        refine ev_call rfl rfl C94 (((integer_Abs_ok n) _ _  (Int_2.mk x_3.Neg x_3.Mag) v_4 r_5 hp.imm _ q_2z).mono ?_)
        rintro _ w_30 ⟨I_31, v_32, hv, hq, r_33⟩
        replace hv := hv.symm
        subst hv
        have hs := hq.st
        have hp := hp.join0 hq
        replace hz := hz.trans hs
        replace r_2l := r_2l.step hs
        refine ⟨SK (Stp I_31 w_30 I_31) [] [], ⟨Stp.refl _ _, kp_nil⟩, fun L x h => ⟨hz.held h.1, h.2⟩, ?_⟩
        have hz := Stp.refl I_31 w_30
        refine ⟨?_, trivial⟩
        refine ev_storeA hp (i := 1) (off := 0) (vs := [(.bool x_2g.Neg), v_2k]) rfl rfl rfl rfl T29 rfl (Nat.le_of_ble_eq_true rfl) (ones_cons rfl (ones_cons r_2l.one ones_nil)) ?_
        intro w_34 hp hs
        replace hz := hz.trans hs
        replace r_33 := r_33.step hs
        replace r_2l := r_2l.step hs
        refine ⟨SK (Stp I_31 w_34 I_31) [] [], ⟨Stp.refl _ _, kp_nil⟩, fun L x h => ⟨hz.held h.1, h.2⟩, ?_⟩
        have hz := Stp.refl I_31 w_34
        refine ⟨?_, trivial⟩
        refine ev_storeA hp (i := 0) (off := 0) (vs := [(.bool x_2y.Neg), v_32]) rfl rfl rfl rfl T29 rfl (Nat.le_of_ble_eq_true rfl) (ones_cons rfl (ones_cons r_33.one ones_nil)) ?_
        intro w_35 hp hs
        replace hz := hz.trans hs
        replace r_33 := r_33.step hs
        replace r_2l := r_2l.step hs
        refine ⟨SK (Stp I_31 w_35 I_31) [] [], ⟨Stp.refl _ _, kp_nil⟩, fun L x h => ⟨hz.held h.1, h.2⟩, ?_⟩
        have hz := Stp.refl I_31 w_35
        obtain rfl := Option.some.inj q_h
        have hp := hp.perm [2, 1, 0] (by decide)
        exact ⟨(x_2g.Neg, x_2g.Mag, x_2y.Neg, x_2y.Mag, g_2e, v_2k, g_2w, v_32, I_31), (.c rfl (.c rfl (.c rfl .n))), rfl, hp, r_2l, r_33⟩
      refine ⟨?_, trivial⟩
      refine ev_alloc hp rfl T29 ?_
      intro g_36 w_37 hp hs
      replace hz := hz.trans hs
      replace r_2 := r_2.step hs
      replace r_5 := r_5.step hs
      refine ⟨SK (Stp I_b w_37 I_b) [] [], ⟨Stp.refl _ _, kp_nil⟩, fun L x h => ⟨hz.held h.1, h.2⟩, ?_⟩
      have hz := Stp.refl I_b w_37
      refine ⟨?_, trivial⟩
      obtain ⟨x_38, q_39, q_h⟩ := bind_some q_h
      refine ev_call rfl rfl C94 (((integer_Abs_ok n) _ _  (Int_2.mk x_0.Neg x_0.Mag) v_1 r_2 hp.imm _ q_39).mono ?_)
      rintro _ w_3a ⟨I_3b, v_3c, hv, hq, r_3d⟩
      replace hv := hv.symm
      subst hv
      have hs := hq.st
      have hp := hp.join0 hq
      replace hz := hz.trans hs
      replace r_5 := r_5.step hs
      refine ⟨SK (Stp I_3b w_3a I_3b) [] [], ⟨Stp.refl _ _, kp_nil⟩, fun L x h => ⟨hz.held h.1, h.2⟩, ?_⟩
      have hz := Stp.refl I_3b w_3a
      refine ⟨?_, trivial⟩
      obtain ⟨x_3e, q_3f, q_h⟩ := bind_some q_h
      refine ev_call rfl rfl C94 (((integer_Abs_ok n) _ _  (Int_2.mk x_3.Neg x_3.Mag) v_4 r_5 hp.imm _ q_3f).mono ?_)
      rintro _ w_3g ⟨I_3h, v_3i, hv, hq, r_3j⟩
      replace hv := hv.symm
      subst hv
      have hs := hq.st
      have hp := hp.join0 hq
      replace hz := hz.trans hs
      replace r_3d := r_3d.step hs
      refine ⟨SK (Stp I_3h w_3g I_3h) [] [], ⟨Stp.refl _ _, kp_nil⟩, fun L x h => ⟨hz.held h.1, h.2⟩, ?_⟩
      have hz := Stp.refl I_3h w_3g
      refine ⟨?_, trivial⟩
      refine ev_storeA hp (i := 1) (off := 0) (vs := [(.bool x_38.Neg), v_3c]) rfl rfl rfl rfl T29 rfl (Nat.le_of_ble_eq_true rfl) (ones_cons rfl (ones_cons r_3d.one ones_nil)) ?_
      intro w_3k hp hs
      replace hz := hz.trans hs
      replace r_3j := r_3j.step hs
      replace r_3d := r_3d.step hs
      refine ⟨SK (Stp I_3h w_3k I_3h) [] [], ⟨Stp.refl _ _, kp_nil⟩, fun L x h => ⟨hz.held h.1, h.2⟩, ?_⟩
      have hz := Stp.refl I_3h w_3k
      refine ⟨?_, trivial⟩
      refine ev_storeA hp (i := 0) (off := 0) (vs := [(.bool x_3e.Neg), v_3i]) rfl rfl rfl rfl T29 rfl (Nat.le_of_ble_eq_true rfl) (ones_cons rfl (ones_cons r_3j.one ones_nil)) ?_
      intro w_3l hp hs
      replace hz := hz.trans hs
      replace r_3j := r_3j.step hs
      replace r_3d := r_3d.step hs
      refine ⟨SK (Stp I_3h w_3l I_3h) [] [], ⟨Stp.refl _ _, kp_nil⟩, fun L x h => ⟨hz.held h.1, h.2⟩, ?_⟩
      have hz := Stp.refl I_3h w_3l
      obtain rfl := Option.some.inj q_h
      have hp := hp.perm [2, 1, 0] (by decide)
      exact ⟨(x_38.Neg, x_38.Mag, x_3e.Neg, x_3e.Mag, g_2e, v_3c, g_36, v_3i, I_3h), (.c rfl (.c rfl (.c rfl .n))), rfl, hp, r_3d, r_3j⟩
    refine ⟨?_, trivial⟩
    refine ev_alloc hp rfl T29 ?_
    intro g_3m w_3n hp hs
    replace hz := hz.trans hs
    replace r_2 := r_2.step hs
    replace r_5 := r_5.step hs
    refine ⟨SK (Stp I_b w_3n I_b) [] [], ⟨Stp.refl _ _, kp_nil⟩, fun L x h => ⟨hz.held h.1, h.2⟩, ?_⟩
    have hz := Stp.refl I_b w_3n
    refine ⟨?_, ?_⟩
    ·
      obtain ⟨x_3o, q_3p, q_h⟩ := bind_some q_h
      refine ev_call rfl rfl C94 (((integer_Abs_ok n) _ _  (Int_2.mk x_0.Neg x_0.Mag) v_1 r_2 hp.imm _ q_3p).mono ?_)
      rintro _ w_3q ⟨I_3r, v_3s, hv, hq, r_3t⟩
      replace hv := hv.symm
      subst hv
      have hs := hq.st
      have hp := hp.join0 hq
      replace hz := hz.trans hs
      replace r_5 := r_5.step hs
      refine ⟨SK (Stp I_3r w_3q I_3r) [] [], ⟨Stp.refl _ _, kp_nil⟩, fun L x h => ⟨hz.held h.1, h.2⟩, ?_⟩
      have hz := Stp.refl I_3r w_3q
      refine ⟨?_, ?_⟩
      ·
        obtain ⟨x_3u, q_3v, q_h⟩ := bind_some q_h
        refine ev_call rfl rfl C94 (((integer_Abs_ok n) _ _  (Int_2.mk x_3.Neg x_3.Mag) v_4 r_5 hp.imm _ q_3v).mono ?_)
        rintro _ w_3w ⟨I_3x, v_3y, hv, hq, r_3z⟩
        replace hv := hv.symm
        subst hv
        have hs := hq.st
        have hp := hp.join0 hq
        replace hz := hz.trans hs
        replace r_3t := r_3t.step hs
        refine ⟨SK (Stp I_3x w_3w I_3x) [] [], ⟨Stp.refl _ _, kp_nil⟩, fun L x h => ⟨hz.held h.1, h.2⟩, ?_⟩
        have hz := Stp.refl I_3x w_3w
        refine ⟨?_, trivial⟩
        refine ev_alloc hp rfl T29 ?_
        intro g_40 w_41 hp hs
        replace hz := hz.trans hs
        replace r_3t := r_3t.step hs
        replace r_3z := r_3z.step hs
        refine ⟨SK (Stp I_3x w_41 I_3x) [] [], ⟨Stp.refl _ _, kp_nil⟩, fun L x h => ⟨hz.held h.1, h.2⟩, ?_⟩
        have hz := Stp.refl I_3x w_41
        refine ⟨?_, trivial⟩
        refine ev_storeA hp (i := 0) (off := 0) (vs := [(.bool x_3o.Neg), v_3s]) rfl rfl rfl rfl T29 rfl (Nat.le_of_ble_eq_true rfl) (ones_cons rfl (ones_cons r_3t.one ones_nil)) ?_
        intro w_42 hp hs
        replace hz := hz.trans hs
        replace r_3z := r_3z.step hs
        replace r_3t := r_3t.step hs
        refine ⟨SK (Stp I_3x w_42 I_3x) [] [], ⟨Stp.refl _ _, kp_nil⟩, fun L x h => ⟨hz.held h.1, h.2⟩, ?_⟩
        have hz := Stp.refl I_3x w_42
        refine ⟨?_, trivial⟩
        refine ev_storeA hp (i := 1) (off := 0) (vs := [(.bool x_3u.Neg), v_3y]) rfl rfl rfl rfl T29 rfl (Nat.le_of_ble_eq_true rfl) (ones_cons rfl (ones_cons r_3z.one ones_nil)) ?_
        intro w_43 hp hs
        replace hz := hz.trans hs
        replace r_3t := r_3t.step hs
        replace r_3z := r_3z.step hs
        refine ⟨SK (Stp I_3x w_43 I_3x) [] [], ⟨Stp.refl _ _, kp_nil⟩, fun L x h => ⟨hz.held h.1, h.2⟩, ?_⟩
        have hz := Stp.refl I_3x w_43
        obtain rfl := Option.some.inj q_h
        have hp := hp.perm [2, 0, 1] (by decide)
        exact ⟨(x_3o.Neg, x_3o.Mag, x_3u.Neg, x_3u.Mag, g_40, v_3s, g_3m, v_3y, I_3x), (.c rfl (.c rfl (.c rfl .n))), rfl, hp, r_3t, r_3z⟩
      refine ⟨?_, trivial⟩
      refine ev_alloc hp rfl T29 ?_
      intro g_44 w_45 hp hs
      replace hz := hz.trans hs
      replace r_5 := r_5.step hs
      replace r_3t := r_3t.step hs
      refine ⟨SK (Stp I_3r w_45 I_3r) [] [], ⟨Stp.refl _ _, kp_nil⟩, fun L x h => ⟨hz.held h.1, h.2⟩, ?_⟩
      have hz := Stp.refl I_3r w_45
      refine ⟨?_, trivial⟩
      obtain ⟨x_46, q_47, q_h⟩ := bind_some q_h
      refine ev_call rfl rfl C94 (((integer_Abs_ok n) _ _  (Int_2.mk x_3.Neg x_3.Mag) v_4 r_5 hp.imm _ q_47).mono ?_)
      rintro _ w_48 ⟨I_49, v_4a, hv, hq, r_4b⟩
      replace hv := hv.symm
      subst hv
      have hs := hq.st
      have hp := hp.join0 hq
      replace hz := hz.trans hs
      replace r_3t := r_3t.step hs
      refine ⟨SK (Stp I_49 w_48 I_49) [] [], ⟨Stp.refl _ _, kp_nil⟩, fun L x h => ⟨hz.held h.1, h.2⟩, ?_⟩
      have hz := Stp.refl I_49 w_48
      refine ⟨?_, trivial⟩
      refine ev_storeA hp (i := 0) (off := 0) (vs := [(.bool x_3o.Neg), v_3s]) rfl rfl rfl rfl T29 rfl (Nat.le_of_ble_eq_true rfl) (ones_cons rfl (ones_cons r_3t.one ones_nil)) ?_
      intro w_4c hp hs
      replace hz := hz.trans hs
      replace r_4b := r_4b.step hs
      replace r_3t := r_3t.step hs
      refine ⟨SK (Stp I_49 w_4c I_49) [] [], ⟨Stp.refl _ _, kp_nil⟩, fun L x h => ⟨hz.held h.1, h.2⟩, ?_⟩
      have hz := Stp.refl I_49 w_4c
      refine ⟨?_, trivial⟩
      refine ev_storeA hp (i := 1) (off := 0) (vs := [(.bool x_46.Neg), v_4a]) rfl rfl rfl rfl T29 rfl (Nat.le_of_ble_eq_true rfl) (ones_cons rfl (ones_cons r_4b.one ones_nil)) ?_
      intro w_4d hp hs
      replace hz := hz.trans hs
      replace r_3t := r_3t.step hs
      replace r_4b := r_4b.step hs
      refine ⟨SK (Stp I_49 w_4d I_49) [] [], ⟨Stp.refl _ _, kp_nil⟩, fun L x h => ⟨hz.held h.1, h.2⟩, ?_⟩
      have hz := Stp.refl I_49 w_4d
      obtain rfl := Option.some.inj q_h
      have hp := hp.perm [2, 0, 1] (by decide)
      exact ⟨(x_3o.Neg, x_3o.Mag, x_46.Neg, x_46.Mag, g_44, v_3s, g_3m, v_4a, I_49), (.c rfl (.c rfl (.c rfl .n))), rfl, hp, r_3t, r_4b⟩
    refine ⟨?_, trivial⟩
    refine ev_alloc hp rfl T29 ?_
    intro g_4e w_4f hp hs
    replace hz := hz.trans hs
    replace r_2 := r_2.step hs
    replace r_5 := r_5.step hs
    refine ⟨SK (Stp I_b w_4f I_b) [] [], ⟨Stp.refl _ _, kp_nil⟩, fun L x h => ⟨hz.held h.1, h.2⟩, ?_⟩
    have hz := Stp.refl I_b w_4f
    refine ⟨?_, trivial⟩
    obtain ⟨x_4g, q_4h, q_h⟩ := bind_some q_h
    refine ev_call rfl rfl C94 (((integer_Abs_ok n) _ _  (Int_2.mk x_0.Neg x_0.Mag) v_1 r_2 hp.imm _ q_4h).mono ?_)
    rintro _ w_4i ⟨I_4j, v_4k, hv, hq, r_4l⟩
    replace hv := hv.symm
    subst hv
    have hs := hq.st
    have hp := hp.join0 hq
    replace hz := hz.trans hs
    replace r_5 := r_5.step hs
    refine ⟨SK (Stp I_4j w_4i I_4j) [] [], ⟨Stp.refl _ _, kp_nil⟩, fun L x h => ⟨hz.held h.1, h.2⟩, ?_⟩
    have hz := Stp.refl I_4j w_4i
    refine ⟨?_, trivial⟩
    obtain ⟨x_4m, q_4n, q_h⟩ := bind_some q_h
    refine ev_call rfl rfl C94 (((integer_Abs_ok n) _ _  (Int_2.mk x_3.Neg x_3.Mag) v_4 r_5 hp.imm _ q_4n).mono ?_)
    rintro _ w_4o ⟨I_4p, v_4q, hv, hq, r_4r⟩
    replace hv := hv.symm
    subst hv
    have hs := hq.st
    have hp := hp.join0 hq
    replace hz := hz.trans hs
    replace r_4l := r_4l.step hs
    refine ⟨SK (Stp I_4p w_4o I_4p) [] [], ⟨Stp.refl _ _, kp_nil⟩, fun L x h => ⟨hz.held h.1, h.2⟩, ?_⟩
    have hz := Stp.refl I_4p w_4o
    refine ⟨?_, trivial⟩
    refine ev_storeA hp (i := 0) (off := 0) (vs := [(.bool x_4g.Neg), v_4k]) rfl rfl rfl rfl T29 rfl (Nat.le_of_ble_eq_true rfl) (ones_cons rfl (ones_cons r_4l.one ones_nil)) ?_
    intro w_4s hp hs
    replace hz := hz.trans hs
    replace r_4r := r_4r.step hs
    replace r_4l := r_4l.step hs
    refine ⟨SK (Stp I_4p w_4s I_4p) [] [], ⟨Stp.refl _ _, kp_nil⟩, fun L x h => ⟨hz.held h.1, h.2⟩, ?_⟩
    have hz := Stp.refl I_4p w_4s
    refine ⟨?_, trivial⟩
    refine ev_storeA hp (i := 1) (off := 0) (vs := [(.bool x_4m.Neg), v_4q]) rfl rfl rfl rfl T29 rfl (Nat.le_of_ble_eq_true rfl) (ones_cons rfl (ones_cons r_4r.one ones_nil)) ?_
    intro w_4t hp hs
    replace hz := hz.trans hs
    replace r_4l := r_4l.step hs
    replace r_4r := r_4r.step hs
    refine ⟨SK (Stp I_4p w_4t I_4p) [] [], ⟨Stp.refl _ _, kp_nil⟩, fun L x h => ⟨hz.held h.1, h.2⟩, ?_⟩
    have hz := Stp.refl I_4p w_4t
    obtain rfl := Option.some.inj q_h
    have hp := hp.perm [2, 0, 1] (by decide)
    exact ⟨(x_4g.Neg, x_4g.Mag, x_4m.Neg, x_4m.Mag, g_4e, v_4k, g_3m, v_4q, I_4p), (.c rfl (.c rfl (.c rfl .n))), rfl, hp, r_4l, r_4r⟩
  ·
    rintro ⟨x_4u, x_4v, x_4w, x_4x, g_4y, v_4z, g_50, v_51, I_52⟩ w_53 ⟨hy, hp, r_54, r_55⟩
    replace hy := hy.symm
    subst hy
    obtain ⟨y_56, q_57, h⟩ := bind_some h
    refine W.cut (γ := (Bool × (List Int) × Value × (Nat → Prop))) (fun g => [(4, (.pointer (some ⟨g_e, 0, none⟩))), (5, (.pointer (some ⟨g_4y, 0, none⟩)))]) (fun g w' => y_56 = ((g.1), (g.2.1)) ∧ Hp ⟨w0, I0, []⟩ (g.2.2.2) [some (g_e, [(.bool false), (.slice none 0 0)], 29), some (g_4y, [(.bool (g.1)), (g.2.2.1)], 29)] w' ∧ RepS (dI .u32) w' (g.2.2.2) (g.2.2.1) (g.2.1)) ?_ ?_
    ·
      apply go
      refine W.loop q_57 (γ := (Value × Value × (Nat → Prop))) (fun s g => [(4, (.pointer (some ⟨g_e, 0, none⟩))), (5, (.pointer (some ⟨g_4y, 0, none⟩))), (6, (.pointer (some ⟨g_50, 0, none⟩)))]) (fun s g w' => Hp ⟨w0, I0, []⟩ (g.2.2) [some (g_e, [(.bool false), (.slice none 0 0)], 29), some (g_4y, [(.bool (s.1)), (g.1)], 29), some (g_50, [(.bool (s.2.2.1)), (g.2.1)], 29)] w' ∧ RepS (dI .u32) w' (g.2.2) (g.1) (s.2.1) ∧ RepS (dI .u32) w' (g.2.2) (g.2.1) (s.2.2.2)) (v_4z, v_51, I_52) (.c rfl (.c rfl (.c rfl .n))) ⟨hp, r_54, r_55⟩ ?_
      rintro ⟨x_58, x_59, x_5a, x_5b⟩ ⟨v_5c, v_5d, I_5e⟩ w_5f y_5g ⟨hp, r_5h, r_5i⟩ q_5j q_5k
      unfold integer_Gcd_L1 at q_5j
      apply go
      apply go
      apply go
      refine ev0 (rn_field rfl rfl FO29_1) ?_
      refine ev (rn_load rfl rfl (run_loadVar1 T27 (hp.cell (i := 2) (off := 1) rfl rfl))) ?_
      refine ev0 (rn_len rfl rfl Tryd.underlying27 r_5i) ?_
      apply go
      refine sel_of (fun hc => ?_) (fun hc => ?_)
      ·
        have q_5j := cond_t q_5j hc
        apply go
        apply go
        apply go
        apply go
        refine ev (rn_load rfl rfl (run_loadVarA T29 rfl (hp.at_ (i := 1) rfl))) ?_
        refine ev (rn_load rfl rfl (run_loadVarA T29 rfl (hp.at_ (i := 2) rfl))) ?_
        obtain ⟨⟨x_5l, x_5m, x_5n⟩, q_5o, q_5j⟩ := bind_some q_5j
        refine ev_call rfl rfl C62 (((integer_DivMod_ok n) _ _  (Int_2.mk x_58 x_59) v_5c r_5h (Int_2.mk x_5a x_5b) v_5d r_5i hp.imm _ q_5o).mono ?_)
        rintro _ w_5p ⟨I_5q, v_5r, v_5s, hv, hq, r_5t, r_5u⟩
        replace hv := hv.symm
        subst hv
        have hs := hq.st
        have hp := hp.join0 hq
        replace r_5h := r_5h.step hs
        replace r_5i := r_5i.step hs
        refine ev_alloc hp rfl T29 ?_
        intro g_5v w_5w hp hs
        replace r_5t := r_5t.step hs
        replace r_5u := r_5u.step hs
        replace r_5h := r_5h.step hs
        replace r_5i := r_5i.step hs
        refine ev_alloc hp rfl T29 ?_
        intro g_5x w_5y hp hs
        replace r_5t := r_5t.step hs
        replace r_5u := r_5u.step hs
        replace r_5h := r_5h.step hs
        replace r_5i := r_5i.step hs
        refine ev_storeA hp (i := 1) (off := 0) (vs := [(.bool x_5l.Neg), v_5r]) rfl rfl rfl rfl T29 rfl (Nat.le_of_ble_eq_true rfl) (ones_cons rfl (ones_cons r_5t.one ones_nil)) ?_
        intro w_5z hp hs
        replace r_5u := r_5u.step hs
        replace r_5t := r_5t.step hs
        replace r_5h := r_5h.step hs
        replace r_5i := r_5i.step hs
        refine ev_storeA hp (i := 0) (off := 0) (vs := [(.bool x_5m.Neg), v_5s]) rfl rfl rfl rfl T29 rfl (Nat.le_of_ble_eq_true rfl) (ones_cons rfl (ones_cons r_5u.one ones_nil)) ?_
        intro w_60 hp hs
        replace r_5u := r_5u.step hs
        replace r_5t := r_5t.step hs
        replace r_5h := r_5h.step hs
        replace r_5i := r_5i.step hs
        have hs := hp.stp (Ch.drew [] w_60)
        have hp := hp.drew
        replace r_5u := r_5u.step hs
        replace r_5t := r_5t.step hs
        replace r_5h := r_5h.step hs
        replace r_5i := r_5i.step hs
        refine W.held [(1, true), (0, false), (2, false), (3, false)] (fun x => Stp I_5q w_60.drew I_5q x ∧ OwnK [(g_5x, [(.bool x_5m.Neg), v_5s], 29)] x) MX (by kernel_rfl) ⟨Stp.refl _ _, (OwnK.cons (hp.own 0 _ _ _ rfl).1 OwnK.nil)⟩ ?_
        have hz := Stp.refl I_5q w_60.drew
        refine evh (fun w' hw => rn_load rfl rfl (run_loadVarA T29 rfl (hw.2.at_ (i := 0) rfl))) ?_
        refine ev (rn_load rfl rfl (run_loadVarA T29 rfl (hp.at_ (i := 4) rfl))) ?_
        refine ⟨fun x => Stp I_5q w_60.drew I_5q x ∧ OwnK [(g_5x, [(.bool x_5m.Neg), v_5s], 29)] x, ⟨Stp.refl _ _, (OwnK.cons (hp.own 0 _ _ _ rfl).1 OwnK.nil)⟩, fun x hx => ⟨hz.held hx.1, hx.2⟩, ?_⟩
        have hz := Stp.refl I_5q w_60.drew
        refine ev_storeA hp (i := 3) (off := 0) (vs := [(.bool x_5a), v_5d]) rfl rfl rfl rfl T29 rfl (Nat.le_of_ble_eq_true rfl) (ones_cons rfl (ones_cons r_5i.one ones_nil)) ?_
        intro w_61 hp hs
        replace hz := hz.trans hs
        replace r_5u := r_5u.step hs
        replace r_5t := r_5t.step hs
        replace r_5i := r_5i.step hs
        refine ⟨fun x => Stp I_5q w_61 I_5q x ∧ OwnK [(g_5x, [(.bool x_5m.Neg), v_5s], 29)] x, ⟨Stp.refl _ _, (OwnK.cons (hp.own 0 _ _ _ rfl).1 OwnK.nil)⟩, fun x hx => ⟨hz.held hx.1, hx.2⟩, ?_⟩
        have hz := Stp.refl I_5q w_61
        refine ev_storeA hp (i := 4) (off := 0) (vs := [(.bool x_5m.Neg), v_5s]) rfl rfl rfl rfl T29 rfl (Nat.le_of_ble_eq_true rfl) (ones_cons rfl (ones_cons r_5u.one ones_nil)) ?_
        intro w_62 hp hs
        replace hz := hz.trans hs
        replace r_5u := r_5u.step hs
        replace r_5t := r_5t.step hs
        replace r_5i := r_5i.step hs
        refine ⟨fun x => Stp I_5q w_62 I_5q x ∧ OwnK [(g_5x, [(.bool x_5m.Neg), v_5s], 29)] x, ⟨Stp.refl _ _, (OwnK.cons (hp.own 0 _ _ _ rfl).1 OwnK.nil)⟩, fun x hx => ⟨hz.held hx.1, hx.2⟩, ?_⟩
        have hz := Stp.refl I_5q w_62
        have hp := hp.sel [2, 3, 4] (by decide)
        exact ⟨_, (Option.some.inj q_5j).symm, (v_5d, v_5s, I_5q), (.c rfl (.c rfl (.c rfl .n))), ⟨hp, r_5i, r_5u⟩⟩
      ·
        have q_5j := cond_f q_5j hc
        apply go
        have q_63 := congrArg some (q_5k _ (Option.some.inj q_5j).symm)
        obtain rfl := Option.some.inj q_63
        have hp := hp.sel [0, 1] (by decide)
        exact ⟨(x_58, x_59, v_5c, I_5e), (.c rfl (.c rfl .n)), rfl, hp, r_5h⟩
    ·
      rintro ⟨x_64, x_65, v_66, I_67⟩ w_68 ⟨hy, hp, r_69⟩
      replace hy := hy.symm
      subst hy
      apply go
      apply go
      refine ev (rn_load rfl rfl (run_loadVarA T29 rfl (hp.at_ (i := 1) rfl))) ?_
      refine ev_storeA hp (i := 0) (off := 0) (vs := [(.bool x_64), v_66]) rfl rfl rfl rfl T29 rfl (Nat.le_of_ble_eq_true rfl) (ones_cons rfl (ones_cons r_69.one ones_nil)) ?_
      intro w_6a hp hs
      replace r_69 := r_69.step hs
      apply go
      obtain rfl := Option.some.inj h
      refine ⟨_, run_loadVarA T29 rfl (hp.at_ (i := 0) rfl), ?_⟩
      have hp := hp.sel [] (by decide)
      exact ⟨I_67, v_66, rfl, hp, r_69⟩

end Go.Proofs.YtcdboppghnchpaaDoor

namespace Go.Proofs.YtcdboppghnchpaaDoor
open Go Go.Proofs.YtcdboppghnchpaaDoor.Gw Go.RowKit
set_option linter.unusedVariables false
attribute [local irreducible] Ev EvQ EvS EvH
def rotation_gauss_rot_S (f : Gauss → Option Rot) : Prop := ∀ (w0 : World) (I0 : Nat → Prop) (x_0 : Gauss) (v_1 : Value) (r_2 : RepS (dI .u32) w0 I0 v_1 x_0.re.Mag) (v_3 : Value) (r_4 : RepS (dI .u32) w0 I0 v_3 x_0.im.Mag) (hI : ∀ g, I0 g → g < w0.heap.size) (r : Rot), f x_0 = some r →
    Ret Tryd.prog 72 #[(.agg #[(.bool x_0.re.Neg), v_1, (.bool x_0.im.Neg), v_3])] w0 fun v w1 => ∃ (I1 : Nat → Prop) (u_5 : Value) (u_6 : Value), v = (.agg #[(.bool r.P.Neg), u_5, (.bool r.Q.Neg), u_6]) ∧ Hp ⟨w0, I0, []⟩ I1 [] w1 ∧ RepS (dI .u32) w1 I1 u_5 r.P.Mag ∧ RepS (dI .u32) w1 I1 u_6 r.Q.Mag
theorem rotation_gauss_rot_ok (n : Nat) : rotation_gauss_rot_S (rotation_gauss_rot n) := by
  intro w0 I0 x_0 v_1 r_2 v_3 r_4 hI r h
  unfold rotation_gauss_rot at h
  refine enter Tryd.func72 rfl (Nat.le_of_ble_eq_true rfl) ?_
  have hp : Hp ⟨w0, I0, []⟩ I0 [] w0 := Hp.start hI
  apply go
  apply go
  refine ev_boxI hp rfl rfl ?_
  intro p_5 I_6 w_7 hp hs a_8
  replace r_2 := r_2.step hs
  replace r_4 := r_4.step hs
  refine ev_alloc hp rfl T38 ?_
  intro g_9 w_a hp hs
  replace a_8 := a_8.step hs
  replace r_2 := r_2.step hs
  replace r_4 := r_4.step hs
  apply go
  apply go
  refine ev0 (rn_field rfl rfl FO121_0) ?_
  refine ev (rn_load rfl rfl (run_loadVarA T29 rfl ((a_8.drop 0).take 2))) ?_
  refine ev0 (rn_field rfl rfl FO121_1) ?_
  refine ev (rn_load rfl rfl (run_loadVarA T29 rfl ((a_8.drop 2).take 2))) ?_
  obtain ⟨x_b, q_c, h⟩ := bind_some h
  refine ev_call rfl rfl C61 (((integer_Gcd_ok n) _ _  (Int_2.mk x_0.re.Neg x_0.re.Mag) v_1 r_2 (Int_2.mk x_0.im.Neg x_0.im.Mag) v_3 r_4 hp.imm _ q_c).mono ?_)
  rintro _ w_d ⟨I_e, v_f, hv, hq, r_g⟩
  replace hv := hv.symm
  subst hv
  have hs := hq.st
  have hp := hp.join0 hq
  replace a_8 := a_8.step hs
  replace r_2 := r_2.step hs
  replace r_4 := r_4.step hs
  refine ev_alloc hp rfl T29 ?_
  intro g_h w_i hp hs
  replace a_8 := a_8.step hs
  replace r_2 := r_2.step hs
  replace r_4 := r_4.step hs
  replace r_g := r_g.step hs
  refine ev_storeA hp (i := 0) (off := 0) (vs := [(.bool x_b.Neg), v_f]) rfl rfl rfl rfl T29 rfl (Nat.le_of_ble_eq_true rfl) (ones_cons rfl (ones_cons r_g.one ones_nil)) ?_
  intro w_j hp hs
  replace a_8 := a_8.step hs
  replace r_2 := r_2.step hs
  replace r_4 := r_4.step hs
  replace r_g := r_g.step hs
  obtain ⟨y_k, q_l, h⟩ := bind_some h
  refine W.cut (γ := (Bool × (List Int) × Value × (Nat → Prop))) (fun g => [(1, (.pointer (some (p_5)))), (2, (.pointer (some ⟨g_9, 0, none⟩))), (3, (.pointer (some ⟨g_h, 0, none⟩)))]) (fun g w' => y_k = ((g.1), (g.2.1)) ∧ Hp ⟨w0, I0, []⟩ (g.2.2.2) [some (g_9, [(.bool false), (.slice none 0 0), (.bool false), (.slice none 0 0)], 38), some (g_h, [(.bool (g.1)), (g.2.2.1)], 29)] w' ∧ RepS (dI .u32) w' (g.2.2.2) v_1 x_0.re.Mag ∧ RepS (dI .u32) w' (g.2.2.2) v_3 x_0.im.Mag ∧ At w' (g.2.2.2) p_5 [(.bool x_0.re.Neg), v_1, (.bool x_0.im.Neg), v_3] ∧ RepS (dI .u32) w' (g.2.2.2) (g.2.2.1) (g.2.1)) ?_ ?_
  ·
    apply go
    apply go
    refine ev0 (rn_field rfl rfl FO121_0) ?_
    refine ev (rn_load rfl rfl (run_loadVarA T29 rfl ((a_8.drop 0).take 2))) ?_
    obtain ⟨x_m, q_n, q_l⟩ := bind_some q_l
    refine ev_call rfl rfl C59 (((integer_Sign_ok n) _ _  (Int_2.mk x_0.re.Neg x_0.re.Mag) v_1 r_2 hp.imm _ q_n).mono ?_)
    rintro _ w_o ⟨rfl, hc⟩
    have hs := hp.stp hc
    replace hp := hp.ext hc
    replace a_8 := a_8.step hs
    replace r_2 := r_2.step hs
    replace r_4 := r_4.step hs
    replace r_g := r_g.step hs
    obtain ⟨y_p, q_q, q_l⟩ := bind_some q_l
    refine W.cut (γ := Bool) (fun g => [(1, (.pointer (some (p_5)))), (2, (.pointer (some ⟨g_9, 0, none⟩))), (3, (.pointer (some ⟨g_h, 0, none⟩))), (30, (.bool (g)))]) (fun g w' => y_p = (g) ∧ Hp ⟨w0, I0, []⟩ I_e [some (g_9, [(.bool false), (.slice none 0 0), (.bool false), (.slice none 0 0)], 38), some (g_h, [(.bool x_b.Neg), v_f], 29)] w' ∧ RepS (dI .u32) w' I_e v_1 x_0.re.Mag ∧ RepS (dI .u32) w' I_e v_3 x_0.im.Mag ∧ At w' I_e p_5 [(.bool x_0.re.Neg), v_1, (.bool x_0.im.Neg), v_3] ∧ RepS (dI .u32) w' I_e v_f x_b.Mag) ?_ ?_
    ·
      apply go
      refine sel_of (fun hc => ?_) (fun hc => ?_)
      ·
        have q_q := cond_t q_q hc
        obtain rfl := Option.some.inj q_q
        have hp := hp.perm [1, 0] (by decide)
        exact ⟨true, (.c rfl (.c rfl (.c rfl (.c rfl .n)))), rfl, hp, r_2, r_4, a_8, r_g⟩
      ·
        have q_q := cond_f q_q hc
        refine sel_of (fun hc => ?_) (fun hc => ?_)
        ·
          have q_q := cond_t q_q hc
          refine ev0 (rn_field rfl rfl FO121_1) ?_
          refine ev (rn_load rfl rfl (run_loadVarA T29 rfl ((a_8.drop 2).take 2))) ?_
          obtain ⟨x_r, q_s, q_q⟩ := bind_some q_q
          refine ev_call rfl rfl C59 (((integer_Sign_ok n) _ _  (Int_2.mk x_0.im.Neg x_0.im.Mag) v_3 r_4 hp.imm _ q_s).mono ?_)
          rintro _ w_t ⟨rfl, hc⟩
          have hs := hp.stp hc
          replace hp := hp.ext hc
          replace a_8 := a_8.step hs
          replace r_2 := r_2.step hs
          replace r_4 := r_4.step hs
          replace r_g := r_g.step hs
          obtain rfl := Option.some.inj q_q
          have hp := hp.perm [1, 0] (by decide)
          exact ⟨(decide (x_r < 0)), (.c rfl (.c rfl (.c rfl (.c rfl .n)))), rfl, hp, r_2, r_4, a_8, r_g⟩
        ·
          have q_q := cond_f q_q hc
          obtain rfl := Option.some.inj q_q
          have hp := hp.perm [1, 0] (by decide)
          exact ⟨false, (.c rfl (.c rfl (.c rfl (.c rfl .n)))), rfl, hp, r_2, r_4, a_8, r_g⟩
    ·
      rintro x_u w_v ⟨hy, hp, r_2, r_4, a_8, r_g⟩
      replace hy := hy.symm
      subst hy
      apply go
      refine sel_of (fun hc => ?_) (fun hc => ?_)
      ·
        have q_l := cond_t q_l hc
        apply go
        refine ev (rn_load rfl rfl (run_loadVarA T29 rfl (hp.at_ (i := 1) rfl))) ?_
        obtain ⟨x_w, q_x, q_l⟩ := bind_some q_l
        refine ev_call rfl rfl C60 (((integer_Neg_ok n) _ _  (Int_2.mk x_b.Neg x_b.Mag) v_f r_g hp.imm _ q_x).mono ?_)
        rintro _ w_y ⟨I_z, v_10, hv, hq, r_11⟩
        replace hv := hv.symm
        subst hv
        have hs := hq.st
        have hp := hp.join0 hq
        replace a_8 := a_8.step hs
        replace r_2 := r_2.step hs
        replace r_4 := r_4.step hs
        replace r_g := r_g.step hs
        refine ev_storeA hp (i := 1) (off := 0) (vs := [(.bool x_w.Neg), v_10]) rfl rfl rfl rfl T29 rfl (Nat.le_of_ble_eq_true rfl) (ones_cons rfl (ones_cons r_11.one ones_nil)) ?_
        intro w_12 hp hs
        replace a_8 := a_8.step hs
        replace r_2 := r_2.step hs
        replace r_4 := r_4.step hs
        replace r_11 := r_11.step hs
        obtain rfl := Option.some.inj q_l
        exact ⟨(x_w.Neg, x_w.Mag, v_10, I_z), (.c rfl (.c rfl (.c rfl .n))), rfl, hp, r_2, r_4, a_8, r_11⟩
      ·
        have q_l := cond_f q_l hc
        apply go
        obtain rfl := Option.some.inj q_l
        exact ⟨(x_b.Neg, x_b.Mag, v_f, I_e), (.c rfl (.c rfl (.c rfl .n))), rfl, hp, r_2, r_4, a_8, r_g⟩
  ·
    rintro ⟨x_13, x_14, v_15, I_16⟩ w_17 ⟨hy, hp, r_2, r_4, a_8, r_18⟩
    replace hy := hy.symm
    subst hy
    apply go
    apply go
    refine ev0 (rn_field rfl rfl FO121_0) ?_
    refine ev (rn_load rfl rfl (run_loadVarA T29 rfl ((a_8.drop 0).take 2))) ?_
    refine ev (rn_load rfl rfl (run_loadVarA T29 rfl (hp.at_ (i := 1) rfl))) ?_
    obtain ⟨⟨x_19, x_1a, x_1b⟩, q_1c, h⟩ := bind_some h
    refine ev_call rfl rfl C62 (((integer_DivMod_ok n) _ _  (Int_2.mk x_0.re.Neg x_0.re.Mag) v_1 r_2 (Int_2.mk x_13 x_14) v_15 r_18 hp.imm _ q_1c).mono ?_)
    rintro _ w_1d ⟨I_1e, v_1f, v_1g, hv, hq, r_1h, r_1i⟩
    replace hv := hv.symm
    subst hv
    have hs := hq.st
    have hp := hp.join0 hq
    replace a_8 := a_8.step hs
    replace r_2 := r_2.step hs
    replace r_4 := r_4.step hs
    replace r_18 := r_18.step hs
    refine ev_alloc hp rfl T29 ?_
    intro g_1j w_1k hp hs
    replace a_8 := a_8.step hs
    replace r_2 := r_2.step hs
    replace r_4 := r_4.step hs
    replace r_1h := r_1h.step hs
    replace r_1i := r_1i.step hs
    replace r_18 := r_18.step hs
    refine ev_alloc hp rfl T29 ?_
    intro g_1l w_1m hp hs
    replace a_8 := a_8.step hs
    replace r_2 := r_2.step hs
    replace r_4 := r_4.step hs
    replace r_1h := r_1h.step hs
    replace r_1i := r_1i.step hs
    replace r_18 := r_18.step hs
    refine ev_storeA hp (i := 1) (off := 0) (vs := [(.bool x_19.Neg), v_1f]) rfl rfl rfl rfl T29 rfl (Nat.le_of_ble_eq_true rfl) (ones_cons rfl (ones_cons r_1h.one ones_nil)) ?_
    intro w_1n hp hs
    replace a_8 := a_8.step hs
    replace r_2 := r_2.step hs
    replace r_4 := r_4.step hs
    replace r_1i := r_1i.step hs
    replace r_1h := r_1h.step hs
    replace r_18 := r_18.step hs
    refine ev_storeA hp (i := 0) (off := 0) (vs := [(.bool x_1a.Neg), v_1g]) rfl rfl rfl rfl T29 rfl (Nat.le_of_ble_eq_true rfl) (ones_cons rfl (ones_cons r_1i.one ones_nil)) ?_
    intro w_1o hp hs
    replace a_8 := a_8.step hs
    replace r_2 := r_2.step hs
    replace r_4 := r_4.step hs
    replace r_1i := r_1i.step hs
    replace r_1h := r_1h.step hs
    replace r_18 := r_18.step hs
    apply go
    apply go
    refine ev0 (rn_field rfl rfl FO121_1) ?_
    refine ev (rn_load rfl rfl (run_loadVarA T29 rfl ((a_8.drop 2).take 2))) ?_
    refine ev (rn_load rfl rfl (run_loadVarA T29 rfl (hp.at_ (i := 3) rfl))) ?_
    obtain ⟨⟨x_1p, x_1q, x_1r⟩, q_1s, h⟩ := bind_some h
    refine ev_call rfl rfl C62 (((integer_DivMod_ok n) _ _  (Int_2.mk x_0.im.Neg x_0.im.Mag) v_3 r_4 (Int_2.mk x_13 x_14) v_15 r_18 hp.imm _ q_1s).mono ?_)
    rintro _ w_1t ⟨I_1u, v_1v, v_1w, hv, hq, r_1x, r_1y⟩
    replace hv := hv.symm
    subst hv
    have hs := hq.st
    have hp := hp.join0 hq
    replace r_1i := r_1i.step hs
    replace r_1h := r_1h.step hs
    replace r_18 := r_18.step hs
    refine ev_alloc hp rfl T29 ?_
    intro g_1z w_20 hp hs
    replace r_1x := r_1x.step hs
    replace r_1y := r_1y.step hs
    replace r_1i := r_1i.step hs
    replace r_1h := r_1h.step hs
    replace r_18 := r_18.step hs
    refine ev_alloc hp rfl T29 ?_
    intro g_21 w_22 hp hs
    replace r_1x := r_1x.step hs
    replace r_1y := r_1y.step hs
    replace r_1i := r_1i.step hs
    replace r_1h := r_1h.step hs
    replace r_18 := r_18.step hs
    refine ev_storeA hp (i := 1) (off := 0) (vs := [(.bool x_1p.Neg), v_1v]) rfl rfl rfl rfl T29 rfl (Nat.le_of_ble_eq_true rfl) (ones_cons rfl (ones_cons r_1x.one ones_nil)) ?_
    intro w_23 hp hs
    replace r_1y := r_1y.step hs
    replace r_1x := r_1x.step hs
    replace r_1i := r_1i.step hs
    replace r_1h := r_1h.step hs
    replace r_18 := r_18.step hs
    refine ev_storeA hp (i := 0) (off := 0) (vs := [(.bool x_1q.Neg), v_1w]) rfl rfl rfl rfl T29 rfl (Nat.le_of_ble_eq_true rfl) (ones_cons rfl (ones_cons r_1y.one ones_nil)) ?_
    intro w_24 hp hs
    replace r_1y := r_1y.step hs
    replace r_1x := r_1x.step hs
    replace r_1i := r_1i.step hs
    replace r_1h := r_1h.step hs
    replace r_18 := r_18.step hs
    apply go
    apply go
    refine ev (rn_load rfl rfl (run_loadVarA T29 rfl (hp.at_ (i := 1) rfl))) ?_
    refine ev (rn_load rfl rfl (run_loadVarA T29 rfl (hp.at_ (i := 3) rfl))) ?_
    obtain ⟨A_25, m_26, m_27, rfl⟩ := r_1x.isSl
    obtain ⟨A_28, m_29, m_2a, rfl⟩ := r_1h.isSl
    refine ev0 (fun w => rn_build (cs := [(.bool x_1p.Neg), (.slice A_25 m_26 m_27), (.bool x_19.Neg), (.slice A_28 m_29 m_2a)]) rfl rfl T38 PL38 rfl) ?_
    refine ev_storeA hp (i := 4) (off := 0) (vs := [(.bool x_1p.Neg), (.slice A_25 m_26 m_27), (.bool x_19.Neg), (.slice A_28 m_29 m_2a)]) rfl rfl rfl rfl T38 rfl (Nat.le_of_ble_eq_true rfl) (ones_cons rfl (ones_cons r_1x.one (ones_cons rfl (ones_cons r_1h.one ones_nil)))) ?_
    intro w_2b hp hs
    replace r_1y := r_1y.step hs
    replace r_1x := r_1x.step hs
    replace r_1i := r_1i.step hs
    replace r_1h := r_1h.step hs
    replace r_18 := r_18.step hs
    apply go
    obtain rfl := Option.some.inj h
    refine ⟨_, run_loadVarA T38 rfl (hp.at_ (i := 4) rfl), ?_⟩
    have hp := hp.sel [] (by decide)
    exact ⟨I_1u, (.slice A_25 m_26 m_27), (.slice A_28 m_29 m_2a), rfl, hp, r_1x, r_1h⟩

end Go.Proofs.YtcdboppghnchpaaDoor

namespace Go.Proofs.YtcdboppghnchpaaDoor
open Go Go.Proofs.YtcdboppghnchpaaDoor.Gw Go.RowKit
set_option linter.unusedVariables false
attribute [local irreducible] Ev EvQ EvS EvH
def rotation_Norm_S (f : Rot → Option Rot) : Prop := ∀ (w0 : World) (I0 : Nat → Prop) (x_0 : Rot) (v_1 : Value) (r_2 : RepS (dI .u32) w0 I0 v_1 x_0.P.Mag) (v_3 : Value) (r_4 : RepS (dI .u32) w0 I0 v_3 x_0.Q.Mag) (hI : ∀ g, I0 g → g < w0.heap.size) (r : Rot), f x_0 = some r →
    Ret Tryd.prog 56 #[(.agg #[(.bool x_0.P.Neg), v_1, (.bool x_0.Q.Neg), v_3])] w0 fun v w1 => ∃ (I1 : Nat → Prop) (u_5 : Value) (u_6 : Value), v = (.agg #[(.bool r.P.Neg), u_5, (.bool r.Q.Neg), u_6]) ∧ Hp ⟨w0, I0, []⟩ I1 [] w1 ∧ RepS (dI .u32) w1 I1 u_5 r.P.Mag ∧ RepS (dI .u32) w1 I1 u_6 r.Q.Mag
theorem rotation_Norm_ok (n : Nat) : rotation_Norm_S (rotation_Norm n) := by
  intro w0 I0 x_0 v_1 r_2 v_3 r_4 hI r h
  unfold rotation_Norm at h
  refine enter Tryd.func56 rfl (Nat.le_of_ble_eq_true rfl) ?_
  have hp : Hp ⟨w0, I0, []⟩ I0 [] w0 := Hp.start hI
  apply go
  apply go
  refine ev_boxI hp rfl rfl ?_
  intro p_5 I_6 w_7 hp hs a_8
  replace r_2 := r_2.step hs
  replace r_4 := r_4.step hs
  refine ev_alloc hp rfl T38 ?_
  intro g_9 w_a hp hs
  replace a_8 := a_8.step hs
  replace r_2 := r_2.step hs
  replace r_4 := r_4.step hs
  apply go
  apply go
  refine ev (rn_load rfl rfl (run_loadVarA T38 rfl a_8)) ?_
  obtain ⟨x_b, q_c, h⟩ := bind_some h
  refine ev_call rfl rfl C55 (((rotation_of_ok n) _ _  (Rot.mk (Int_2.mk x_0.P.Neg x_0.P.Mag) (Int_2.mk x_0.Q.Neg x_0.Q.Mag)) v_1 r_2 v_3 r_4 hp.imm _ q_c).mono ?_)
  rintro _ w_d ⟨I_e, v_f, v_g, hv, hq, r_h, r_i⟩
  replace hv := hv.symm
  subst hv
  have hs := hq.st
  have hp := hp.join0 hq
  obtain ⟨x_j, q_k, h⟩ := bind_some h
  refine ev_call rfl rfl C72 (((rotation_gauss_rot_ok n) _ _  x_b v_f r_h v_g r_i hp.imm _ q_k).mono ?_)
  rintro _ w_l ⟨I_m, v_n, v_o, hv, hq, r_p, r_q⟩
  replace hv := hv.symm
  subst hv
  have hs := hq.st
  have hp := hp.join0 hq
  refine ev_storeA hp (i := 0) (off := 0) (vs := [(.bool x_j.P.Neg), v_n, (.bool x_j.Q.Neg), v_o]) rfl rfl rfl rfl T38 rfl (Nat.le_of_ble_eq_true rfl) (ones_cons rfl (ones_cons r_p.one (ones_cons rfl (ones_cons r_q.one ones_nil)))) ?_
  intro w_r hp hs
  replace r_p := r_p.step hs
  replace r_q := r_q.step hs
  apply go
  obtain rfl := Option.some.inj h
  refine ⟨_, run_loadVarA T38 rfl (hp.at_ (i := 0) rfl), ?_⟩
  have hp := hp.sel [] (by decide)
  exact ⟨I_m, v_n, v_o, rfl, hp, r_p, r_q⟩

end Go.Proofs.YtcdboppghnchpaaDoor

namespace Go.Proofs.YtcdboppghnchpaaDoor
open Go Go.Proofs.YtcdboppghnchpaaDoor.Gw Go.RowKit
set_option linter.unusedVariables false
attribute [local irreducible] Ev EvQ EvS EvH
def rotation_Of_S (f : Int → Int → Option Rot) : Prop := ∀ (w0 : World) (I0 : Nat → Prop) (x_0 : Int) (x_1 : Int) (hI : ∀ g, I0 g → g < w0.heap.size) (r : Rot), f x_0 x_1 = some r →
    Ret Tryd.prog 35 #[(.int .i64 x_0), (.int .i64 x_1)] w0 fun v w1 => ∃ (I1 : Nat → Prop) (u_2 : Value) (u_3 : Value), v = (.agg #[(.bool r.P.Neg), u_2, (.bool r.Q.Neg), u_3]) ∧ Hp ⟨w0, I0, []⟩ I1 [] w1 ∧ RepS (dI .u32) w1 I1 u_2 r.P.Mag ∧ RepS (dI .u32) w1 I1 u_3 r.Q.Mag
theorem rotation_Of_ok (n : Nat) : rotation_Of_S (rotation_Of n) := by
  intro w0 I0 x_0 x_1 hI r h
  unfold rotation_Of at h
  refine enter Tryd.func35 rfl (Nat.le_of_ble_eq_true rfl) ?_
  have hp : Hp ⟨w0, I0, []⟩ I0 [] w0 := Hp.start hI
  apply go
  apply go
  refine ev_alloc hp rfl T38 ?_
  intro g_2 w_3 hp hs
  apply go
  apply go
  obtain ⟨x_4, q_5, h⟩ := bind_some h
  refine ev_call rfl rfl C29 (((integer_Of_ok n) _ _  x_0 hp.imm _ q_5).mono ?_)
  rintro _ w_6 ⟨I_7, v_8, hv, hq, r_9⟩
  replace hv := hv.symm
  subst hv
  have hs := hq.st
  have hp := hp.join0 hq
  obtain ⟨x_a, q_b, h⟩ := bind_some h
  refine ev_call rfl rfl C29 (((integer_Of_ok n) _ _  x_1 hp.imm _ q_b).mono ?_)
  rintro _ w_c ⟨I_d, v_e, hv, hq, r_f⟩
  replace hv := hv.symm
  subst hv
  have hs := hq.st
  have hp := hp.join0 hq
  replace r_9 := r_9.step hs
  obtain ⟨A_g, m_h, m_i, rfl⟩ := r_9.isSl
  obtain ⟨A_j, m_k, m_l, rfl⟩ := r_f.isSl
  refine ev0 (fun w => rn_build (cs := [(.bool x_4.Neg), (.slice A_g m_h m_i), (.bool x_a.Neg), (.slice A_j m_k m_l)]) rfl rfl T38 PL38 rfl) ?_
  obtain ⟨x_m, q_n, h⟩ := bind_some h
  refine ev_call rfl rfl C56 (((rotation_Norm_ok n) _ _  (Rot.mk (Int_2.mk x_4.Neg x_4.Mag) (Int_2.mk x_a.Neg x_a.Mag)) (.slice A_g m_h m_i) r_9 (.slice A_j m_k m_l) r_f hp.imm _ q_n).mono ?_)
  rintro _ w_o ⟨I_p, v_q, v_r, hv, hq, r_s, r_t⟩
  replace hv := hv.symm
  subst hv
  have hs := hq.st
  have hp := hp.join0 hq
  refine ev_storeA hp (i := 0) (off := 0) (vs := [(.bool x_m.P.Neg), v_q, (.bool x_m.Q.Neg), v_r]) rfl rfl rfl rfl T38 rfl (Nat.le_of_ble_eq_true rfl) (ones_cons rfl (ones_cons r_s.one (ones_cons rfl (ones_cons r_t.one ones_nil)))) ?_
  intro w_u hp hs
  replace r_s := r_s.step hs
  replace r_t := r_t.step hs
  apply go
  obtain rfl := Option.some.inj h
  refine ⟨_, run_loadVarA T38 rfl (hp.at_ (i := 0) rfl), ?_⟩
  have hp := hp.sel [] (by decide)
  exact ⟨I_p, v_q, v_r, rfl, hp, r_s, r_t⟩

end Go.Proofs.YtcdboppghnchpaaDoor
