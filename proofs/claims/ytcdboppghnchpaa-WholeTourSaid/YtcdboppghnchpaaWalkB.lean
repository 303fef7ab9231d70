/-
  Each function of the program computes the plain function of its name.
-/
import Derived.Test.YtcdboppghnchpaaFactsA
import Derived.Test.YtcdboppghnchpaaWalkA
namespace Go.Proofs.Ytcdboppghnchpaa
open Go Go.Proofs.Ytcdboppghnchpaa.Gw Go.RowKit
set_option linter.unusedVariables false
attribute [local irreducible] Ev EvQ EvS EvH
def base_At_S (f : Plan → Cell → Option Int) : Prop := ∀ (w0 : World) (I0 : Nat → Prop) (x_0 : Plan) (v_1 : Value) (r_2 : RepS (dI .u8) w0 I0 v_1 x_0.Cells) (x_3 : Cell) (hI : ∀ g, I0 g → g < w0.heap.size) (r : Int), f x_0 x_3 = some r →
    Ret Try.prog 10 #[(.agg #[(.int .i64 x_0.W), (.int .i64 x_0.H), v_1]), (.agg #[(.int .i64 x_3.X), (.int .i64 x_3.Y)])] w0 fun v w1 => v = (.int .u8 r) ∧ Ch [] w0 w1
theorem base_At_ok (n : Nat) : base_At_S (base_At n) := by
  intro w0 I0 x_0 v_1 r_2 x_3 hI r h
  unfold base_At at h
  refine enter Try.func10 rfl (Nat.le_of_ble_eq_true rfl) ?_
  have hp : Hp ⟨w0, I0, []⟩ I0 [] w0 := Hp.start hI
  apply go
  apply go
  refine ev_boxI hp rfl rfl ?_
  intro p_4 I_5 w_6 hp hs a_7
  replace r_2 := r_2.step hs
  refine ev_boxI hp rfl rfl ?_
  intro p_8 I_9 w_a hp hs a_b
  replace a_7 := a_7.step hs
  replace r_2 := r_2.step hs
  apply go
  apply go
  apply go
  refine ev (rn_load rfl rfl (run_loadVarA T24 rfl a_7)) ?_
  refine ev (rn_load rfl rfl (run_loadVarA T26 rfl a_b)) ?_
  obtain ⟨x_c, q_d, h⟩ := bind_some h
  refine ev_call rfl rfl C9 (((base_Inside_ok n) _ _  (Plan.mk x_0.W x_0.H x_0.Cells) v_1 r_2 (Cell.mk x_3.X x_3.Y) hp.imm _ q_d).mono ?_)
  rintro _ w_e ⟨rfl, hc⟩
  have hs := hp.stp hc
  replace hp := hp.ext hc
  replace a_7 := a_7.step hs
  replace r_2 := r_2.step hs
  replace a_b := a_b.step hs
  apply go
  refine sel_of (fun hc => ?_) (fun hc => ?_)
  ·
    have h := cond_t h hc
    apply go
    apply go
    apply go
    obtain rfl := Option.some.inj h
    exact ⟨rfl, hp.ch⟩
  ·
    have h := cond_f h hc
    apply go
    apply go
    apply go
    refine ev0 (rn_field rfl rfl FO24_2) ?_
    refine ev (rn_load rfl rfl (run_loadVar1 T22 (a_7.2 2 _ rfl))) ?_
    refine ev0 (rn_field rfl rfl FO26_1) ?_
    refine ev (rn_load rfl rfl (run_loadVar1 T3 (a_b.2 1 _ rfl))) ?_
    refine ev0 (rn_field rfl rfl FO24_0) ?_
    refine ev (rn_load rfl rfl (run_loadVar1 T3 (a_7.2 0 _ rfl))) ?_
    refine ev0 (rn_field rfl rfl FO26_0) ?_
    refine ev (rn_load rfl rfl (run_loadVar1 T3 (a_b.2 0 _ rfl))) ?_
    obtain ⟨x_f, q_g, h⟩ := bind_some h
    refine ev_index rfl rfl rfl Try.underlying22 T5 r_2 q_g ?_
    intro p_h c_i d_j a_k
    obtain rfl : c_i = [(.int .u8 x_f)] := d_j
    refine ev (rn_load rfl rfl (run_loadVar1 T5 (a_k.2 0 _ rfl))) ?_
    apply go
    obtain rfl := Option.some.inj h
    exact ⟨rfl, hp.ch⟩

end Go.Proofs.Ytcdboppghnchpaa

namespace Go.Proofs.Ytcdboppghnchpaa
open Go Go.Proofs.Ytcdboppghnchpaa.Gw Go.RowKit
set_option linter.unusedVariables false
attribute [local irreducible] Ev EvQ EvS EvH
def path_Find_S (f : Plan → Cell → Cell → Option ((List Cell) × Int × Int)) : Prop := ∀ (w0 : World) (I0 : Nat → Prop) (x_0 : Plan) (v_1 : Value) (r_2 : RepS (dI .u8) w0 I0 v_1 x_0.Cells) (x_3 : Cell) (x_4 : Cell) (hI : ∀ g, I0 g → g < w0.heap.size) (r : ((List Cell) × Int × Int)), f x_0 x_3 x_4 = some r →
    Ret Try.prog 11 #[(.agg #[(.int .i64 x_0.W), (.int .i64 x_0.H), v_1]), (.agg #[(.int .i64 x_3.X), (.int .i64 x_3.Y)]), (.agg #[(.int .i64 x_4.X), (.int .i64 x_4.Y)])] w0 fun v w1 => ∃ (I1 : Nat → Prop) (u_5 : Value), v = (.tuple #[u_5, (.int .i64 r.2.1), (.int .i64 r.2.2)]) ∧ Hp ⟨w0, I0, []⟩ I1 [] w1 ∧ RepS dCell w1 I1 u_5 r.1
theorem path_Find_ok (n : Nat) : path_Find_S (path_Find n) := by
  intro w0 I0 x_0 v_1 r_2 x_3 x_4 hI r h
  unfold path_Find at h
  refine enter Try.func11 rfl (Nat.le_of_ble_eq_true rfl) ?_
  have hp : Hp ⟨w0, I0, []⟩ I0 [] w0 := Hp.start hI
  apply go
  apply go
  refine ev_boxI hp rfl rfl ?_
  intro p_5 I_6 w_7 hp hs a_8
  replace r_2 := r_2.step hs
  refine ev_boxI hp rfl rfl ?_
  intro p_9 I_a w_b hp hs a_c
  replace a_8 := a_8.step hs
  replace r_2 := r_2.step hs
  refine ev_boxI hp rfl rfl ?_
  intro p_d I_e w_f hp hs a_g
  replace a_8 := a_8.step hs
  replace r_2 := r_2.step hs
  replace a_c := a_c.step hs
  apply go
  apply go
  apply go
  apply go
  refine ev (rn_load rfl rfl (run_loadVarA T24 rfl a_8)) ?_
  obtain ⟨x_h, q_i, h⟩ := bind_some h
  refine ev_call rfl rfl C13 (((plan_Valid_ok n) _ _  (Plan.mk x_0.W x_0.H x_0.Cells) v_1 r_2 hp.imm _ q_i).mono ?_)
  rintro _ w_j ⟨rfl, hc⟩
  have hs := hp.stp hc
  replace hp := hp.ext hc
  replace a_8 := a_8.step hs
  replace r_2 := r_2.step hs
  replace a_c := a_c.step hs
  replace a_g := a_g.step hs
  apply go
  refine sel_of (fun hc => ?_) (fun hc => ?_)
  ·
    have h := cond_t h hc
    apply go
    apply go
    apply go
    obtain rfl := Option.some.inj h
    exact ⟨I_e, .slice none 0 0, rfl, hp, RepS.nil _ _ _⟩
  ·
    have h := cond_f h hc
    obtain ⟨y_k, q_l, h⟩ := bind_some h
    refine W.cut (γ := Bool) (fun g => [(3, (.pointer (some (p_5)))), (4, (.pointer (some (p_9)))), (5, (.pointer (some (p_d)))), (22, (.bool (g)))]) (fun g w' => y_k = (g) ∧ Hp ⟨w0, I0, []⟩ I_e [] w' ∧ RepS (dI .u8) w' I_e v_1 x_0.Cells ∧ At w' I_e p_5 [(.int .i64 x_0.W), (.int .i64 x_0.H), v_1] ∧ At w' I_e p_9 [(.int .i64 x_3.X), (.int .i64 x_3.Y)] ∧ At w' I_e p_d [(.int .i64 x_4.X), (.int .i64 x_4.Y)]) ?_ ?_
    ·
      apply go
      refine ev (rn_load rfl rfl (run_loadVarA T24 rfl a_8)) ?_
      refine ev (rn_load rfl rfl (run_loadVarA T26 rfl a_c)) ?_
      obtain ⟨x_m, q_n, q_l⟩ := bind_some q_l
      refine ev_call rfl rfl C22 (((path_free_ok n) _ _  (Plan.mk x_0.W x_0.H x_0.Cells) v_1 r_2 (Cell.mk x_3.X x_3.Y) hp.imm _ q_n).mono ?_)
      rintro _ w_o ⟨rfl, hc⟩
      have hs := hp.stp hc
      replace hp := hp.ext hc
      replace a_8 := a_8.step hs
      replace r_2 := r_2.step hs
      replace a_c := a_c.step hs
      replace a_g := a_g.step hs
      refine sel_of (fun hc => ?_) (fun hc => ?_)
      ·
        have q_l := cond_t q_l hc
        obtain rfl := Option.some.inj q_l
        exact ⟨true, (.c rfl (.c rfl (.c rfl (.c rfl .n)))), rfl, hp, r_2, a_8, a_c, a_g⟩
      ·
        have q_l := cond_f q_l hc
        refine ev (rn_load rfl rfl (run_loadVarA T24 rfl a_8)) ?_
        refine ev (rn_load rfl rfl (run_loadVarA T26 rfl a_g)) ?_
        obtain ⟨x_p, q_q, q_l⟩ := bind_some q_l
        refine ev_call rfl rfl C22 (((path_free_ok n) _ _  (Plan.mk x_0.W x_0.H x_0.Cells) v_1 r_2 (Cell.mk x_4.X x_4.Y) hp.imm _ q_q).mono ?_)
        rintro _ w_r ⟨rfl, hc⟩
        have hs := hp.stp hc
        replace hp := hp.ext hc
        replace a_8 := a_8.step hs
        replace r_2 := r_2.step hs
        replace a_c := a_c.step hs
        replace a_g := a_g.step hs
        obtain rfl := Option.some.inj q_l
        exact ⟨(!x_p), (.c rfl (.c rfl (.c rfl (.c rfl .n)))), rfl, hp, r_2, a_8, a_c, a_g⟩
    ·
      rintro x_s w_t ⟨hy, hp, r_2, a_8, a_c, a_g⟩
      replace hy := hy.symm
      subst hy
      apply go
      refine sel_of (fun hc => ?_) (fun hc => ?_)
      ·
        have h := cond_t h hc
        apply go
        apply go
        apply go
        obtain rfl := Option.some.inj h
        exact ⟨I_e, .slice none 0 0, rfl, hp, RepS.nil _ _ _⟩
      ·
        have h := cond_f h hc
        apply go
        apply go
        apply go
        refine ev (rn_load rfl rfl (run_loadVarA T24 rfl a_8)) ?_
        refine ev (rn_load rfl rfl (run_loadVarA T26 rfl a_g)) ?_
        obtain ⟨x_u, q_v, h⟩ := bind_some h
        refine ev_call rfl rfl C23 (((path_costs_ok n) _ _  (Plan.mk x_0.W x_0.H x_0.Cells) v_1 r_2 (Cell.mk x_4.X x_4.Y) hp.imm _ q_v).mono ?_)
        rintro _ w_w ⟨I_x, v_y, hv, hq, r_z⟩
        replace hv := hv.symm
        subst hv
        have hs := hq.st
        have hp := hp.join0 hq
        replace a_8 := a_8.step hs
        replace r_2 := r_2.step hs
        replace a_c := a_c.step hs
        replace a_g := a_g.step hs
        apply go
        apply go
        refine ev0 (rn_field rfl rfl FO26_1) ?_
        refine ev (rn_load rfl rfl (run_loadVar1 T3 (a_c.2 1 _ rfl))) ?_
        refine ev0 (rn_field rfl rfl FO24_0) ?_
        refine ev (rn_load rfl rfl (run_loadVar1 T3 (a_8.2 0 _ rfl))) ?_
        refine ev0 (rn_field rfl rfl FO26_0) ?_
        refine ev (rn_load rfl rfl (run_loadVar1 T3 (a_c.2 0 _ rfl))) ?_
        obtain ⟨x_10, q_11, h⟩ := bind_some h
        refine ev_index rfl rfl rfl Try.underlying35 T3 r_z q_11 ?_
        intro p_12 c_13 d_14 a_15
        obtain rfl : c_13 = [(.int .i64 x_10)] := d_14
        refine ev (rn_load rfl rfl (run_loadVar1 T3 (a_15.2 0 _ rfl))) ?_
        apply go
        apply go
        apply go
        apply go
        refine sel_of (fun hc => ?_) (fun hc => ?_)
        ·
          have h := cond_t h hc
          apply go
          apply go
          apply go
          obtain rfl := Option.some.inj h
          exact ⟨I_x, .slice none 0 0, rfl, hp, RepS.nil _ _ _⟩
        ·
          have h := cond_f h hc
          apply go
          apply go
          apply go
          refine ev (rn_load rfl rfl (run_loadVarA T26 rfl a_c)) ?_
          refine ev_litON (d := dCell) (xs := [(Cell.mk x_3.X x_3.Y)]) (cs := [(.int .i64 x_3.X), (.int .i64 x_3.Y)]) hp rfl rfl Try.underlying28 T26 (by decide) (by decide) rfl rfl (Elems.cons (d := dCell) (xs := _) dCell_m (Elems.nil _ _ _ _)) ?_
          intro v_16 e_17 w_18 hp hs o_19
          replace a_8 := a_8.step hs
          replace r_2 := r_2.step hs
          replace a_c := a_c.step hs
          replace a_g := a_g.step hs
          replace r_z := r_z.step hs
          obtain ⟨y_1a, q_1b, h⟩ := bind_some h
          refine W.cut (γ := ((List Cell) × Value × Ent × (Nat → Prop))) (fun g => [(10, (.int .i64 x_10)), (11, (g.2.1))]) (fun g w' => y_1a = (g.1) ∧ Hp ⟨w0, I0, []⟩ (g.2.2.2) [(g.2.2.1)] w' ∧ OwnS dCell 26 w' (g.2.2.2) (g.2.1) (g.2.2.1) (g.1)) ?_ ?_
          ·
            apply go
            apply go
            refine ev (rn_load rfl rfl (run_loadVarA T26 rfl a_c)) ?_
            refine ev_alloc hp rfl T26 ?_
            intro g_1c w_1d hp hs
            replace a_8 := a_8.step hs
            replace r_2 := r_2.step hs
            replace a_g := a_g.step hs
            replace r_z := r_z.step hs
            replace o_19 := o_19.step hs
            refine ev_storeA hp (i := 0) (off := 0) (vs := [(.int .i64 x_3.X), (.int .i64 x_3.Y)]) rfl rfl rfl rfl T26 rfl (Nat.le_of_ble_eq_true rfl) (ones_of rfl) ?_
            intro w_1e hp hs
            replace a_8 := a_8.step hs
            replace r_2 := r_2.step hs
            replace a_g := a_g.step hs
            replace r_z := r_z.step hs
            replace o_19 := o_19.step hs
            apply go
            have hp := hp.perm [1, 0] (by decide)
            refine W.loop q_1b (γ := (Value × Ent × Nat × (Nat → Prop))) (fun s g => [(3, (.pointer (some (p_5)))), (5, (.pointer (some (p_d)))), (9, v_y), (10, (.int .i64 x_10)), (11, (g.1)), (12, (.pointer (some ⟨(g.2.2.1), 0, none⟩)))]) (fun s g w' => Hp ⟨w0, I0, []⟩ (g.2.2.2) [(g.2.1), some ((g.2.2.1), [(.int .i64 (s.2.1)), (.int .i64 (s.2.2))], 26)] w' ∧ RepS (dI .u8) w' (g.2.2.2) v_1 x_0.Cells ∧ At w' (g.2.2.2) p_5 [(.int .i64 x_0.W), (.int .i64 x_0.H), v_1] ∧ At w' (g.2.2.2) p_d [(.int .i64 x_4.X), (.int .i64 x_4.Y)] ∧ RepS (dI .i64) w' (g.2.2.2) v_y x_u ∧ OwnS dCell 26 w' (g.2.2.2) (g.1) (g.2.1) (s.1)) (v_16, e_17, g_1c, I_x) (.c rfl (.c rfl (.c rfl (.c rfl (.c rfl (.c rfl .n)))))) ⟨hp, r_2, a_8, a_g, r_z, o_19⟩ ?_
            rintro ⟨x_1f, x_1g, x_1h⟩ ⟨v_1i, e_1j, g_1k, I_1l⟩ w_1m y_1n ⟨hp, r_2, a_8, a_g, r_z, o_1o⟩ q_1p q_1q
            unfold path_Find_L11 at q_1p
            apply go
            apply go
            apply go
            refine ev (rn_load rfl rfl (run_loadVarA T26 rfl (hp.at_ (i := 1) rfl))) ?_
            refine ev (rn_load rfl rfl (run_loadVarA T26 rfl a_g)) ?_
            refine ev0 (rn_neA rfl rfl rfl (EQ26 x_1g x_1h x_4.X x_4.Y)) ?_
            apply go
            refine sel_of (fun hc => ?_) (fun hc => ?_)
            ·
              have q_1p := cond_t q_1p hc
              apply go
              obtain ⟨y_1r, q_1s, q_1p⟩ := bind_some q_1p
              refine W.cut (γ := ((List Cell) × Value × Ent × (Nat → Prop))) (fun g => [(3, (.pointer (some (p_5)))), (5, (.pointer (some (p_d)))), (9, v_y), (10, (.int .i64 x_10)), (11, (g.2.1)), (12, (.pointer (some ⟨g_1k, 0, none⟩)))]) (fun g w' => y_1r = (g.1) ∧ Hp ⟨w0, I0, []⟩ (g.2.2.2) [(g.2.2.1), some (g_1k, [(.int .i64 x_1g), (.int .i64 x_1h)], 26)] w' ∧ RepS (dI .u8) w' (g.2.2.2) v_1 x_0.Cells ∧ At w' (g.2.2.2) p_5 [(.int .i64 x_0.W), (.int .i64 x_0.H), v_1] ∧ At w' (g.2.2.2) p_d [(.int .i64 x_4.X), (.int .i64 x_4.Y)] ∧ RepS (dI .i64) w' (g.2.2.2) v_y x_u ∧ OwnS dCell 26 w' (g.2.2.2) (g.2.1) (g.2.2.1) (g.1)) ?_ ?_
              ·
                apply go
                apply go
                apply go
                obtain ⟨x_1t, q_1u, q_1s⟩ := bind_some q_1s
                refine ev_call rfl rfl C24 (((path_turns_ok n) _ _   hp.imm _ q_1u).mono ?_)
                rintro _ w_1v ⟨I_1w, v_1x, hv, hq, r_1y⟩
                replace hv := hv.symm
                subst hv
                have hs := hq.st
                have hp := hp.join0 hq
                replace a_8 := a_8.step hs
                replace r_2 := r_2.step hs
                replace a_g := a_g.step hs
                replace r_z := r_z.step hs
                replace o_1o := o_1o.step hs
                apply go
                refine W.loop q_1s (γ := Unit) (fun s _ => [(3, (.pointer (some (p_5)))), (5, (.pointer (some (p_d)))), (9, v_y), (10, (.int .i64 x_10)), (11, v_1i), (12, (.pointer (some ⟨g_1k, 0, none⟩))), (61, (.agg v_1x.toArray)), (62, (.int .i64 (s)))]) (fun s _ w' => Hp ⟨w0, I0, []⟩ I_1w [e_1j, some (g_1k, [(.int .i64 x_1g), (.int .i64 x_1h)], 26)] w' ∧ RepS (dI .u8) w' I_1w v_1 x_0.Cells ∧ At w' I_1w p_5 [(.int .i64 x_0.W), (.int .i64 x_0.H), v_1] ∧ At w' I_1w p_d [(.int .i64 x_4.X), (.int .i64 x_4.Y)] ∧ RepS (dI .i64) w' I_1w v_y x_u ∧ OwnS dCell 26 w' I_1w v_1i e_1j x_1f ∧ (dA 8 dCell).rep w' I_1w v_1x x_1t) () (.c rfl (.c rfl (.c rfl (.c rfl (.c rfl (.c rfl (.c rfl (.c rfl .n)))))))) ⟨hp, r_2, a_8, a_g, r_z, o_1o, r_1y⟩ ?_
                rintro x_1z ⟨⟩ w_20 y_21 ⟨hp, r_2, a_8, a_g, r_z, o_1o, r_1y⟩ q_22 q_23
                unfold path_Find_L13 at q_22
                apply go
                apply go
                apply go
                apply go
                refine sel_of (fun hc => ?_) (fun hc => ?_)
                ·
                  have q_22 := cond_t q_22 hc
                  apply go
                  apply go
                  apply go
                  apply go
                  apply go
                  obtain ⟨x_24, q_25, q_22⟩ := bind_some q_22
                  refine ev0 (rn_indexVA rfl rfl rfl Try.underlying60 T26 r_1y q_25 dCell_o) ?_
                  refine ev_alloc hp rfl T26 ?_
                  intro g_26 w_27 hp hs
                  replace a_8 := a_8.step hs
                  replace r_2 := r_2.step hs
                  replace a_g := a_g.step hs
                  replace r_z := r_z.step hs
                  replace o_1o := o_1o.step hs
                  replace r_1y := r_1y.step hs
                  refine ev_storeA hp (i := 0) (off := 0) (vs := [(.int .i64 x_24.X), (.int .i64 x_24.Y)]) rfl rfl rfl rfl T26 rfl (Nat.le_of_ble_eq_true rfl) (ones_of rfl) ?_
                  intro w_28 hp hs
                  replace a_8 := a_8.step hs
                  replace r_2 := r_2.step hs
                  replace a_g := a_g.step hs
                  replace r_z := r_z.step hs
                  replace o_1o := o_1o.step hs
                  replace r_1y := r_1y.step hs
                  apply go
                  apply go
                  refine ev (rn_load rfl rfl (run_loadVarA T24 rfl a_8)) ?_
                  refine ev (rn_load rfl rfl (run_loadVarA T26 rfl (hp.at_ (i := 2) rfl))) ?_
                  refine ev (rn_load rfl rfl (run_loadVarA T26 rfl (hp.at_ (i := 0) rfl))) ?_
                  obtain ⟨⟨x_29, x_2a, x_2b⟩, q_2c, q_22⟩ := bind_some q_22
                  refine ev_call rfl rfl C25 (((path_cost_ok n) _ _  (Plan.mk x_0.W x_0.H x_0.Cells) v_1 r_2 (Cell.mk x_1g x_1h) (Cell.mk x_24.X x_24.Y) hp.imm _ q_2c).mono ?_)
                  rintro _ w_2d ⟨rfl, hc⟩
                  have hs := hp.stp hc
                  replace hp := hp.ext hc
                  replace a_8 := a_8.step hs
                  replace r_2 := r_2.step hs
                  replace a_g := a_g.step hs
                  replace r_z := r_z.step hs
                  replace o_1o := o_1o.step hs
                  replace r_1y := r_1y.step hs
                  refine ev_alloc hp rfl T26 ?_
                  intro g_2e w_2f hp hs
                  replace a_8 := a_8.step hs
                  replace r_2 := r_2.step hs
                  replace a_g := a_g.step hs
                  replace r_z := r_z.step hs
                  replace o_1o := o_1o.step hs
                  replace r_1y := r_1y.step hs
                  refine ev_storeA hp (i := 0) (off := 0) (vs := [(.int .i64 x_29.X), (.int .i64 x_29.Y)]) rfl rfl rfl rfl T26 rfl (Nat.le_of_ble_eq_true rfl) (ones_of rfl) ?_
                  intro w_2g hp hs
                  replace a_8 := a_8.step hs
                  replace r_2 := r_2.step hs
                  replace a_g := a_g.step hs
                  replace r_z := r_z.step hs
                  replace o_1o := o_1o.step hs
                  replace r_1y := r_1y.step hs
                  obtain ⟨y_2h, q_2i, q_22⟩ := bind_some q_22
                  refine W.cut (γ := Bool) (fun g => [(3, (.pointer (some (p_5)))), (5, (.pointer (some (p_d)))), (9, v_y), (10, (.int .i64 x_10)), (11, v_1i), (12, (.pointer (some ⟨g_1k, 0, none⟩))), (15, (.pointer (some ⟨g_2e, 0, none⟩))), (61, (.agg v_1x.toArray)), (62, (.int .i64 x_1z)), (100, (.bool (g)))]) (fun g w' => y_2h = (g) ∧ Hp ⟨w0, I0, []⟩ I_1w [e_1j, some (g_1k, [(.int .i64 x_1g), (.int .i64 x_1h)], 26), some (g_2e, [(.int .i64 x_29.X), (.int .i64 x_29.Y)], 26)] w' ∧ RepS (dI .u8) w' I_1w v_1 x_0.Cells ∧ At w' I_1w p_5 [(.int .i64 x_0.W), (.int .i64 x_0.H), v_1] ∧ At w' I_1w p_d [(.int .i64 x_4.X), (.int .i64 x_4.Y)] ∧ RepS (dI .i64) w' I_1w v_y x_u ∧ OwnS dCell 26 w' I_1w v_1i e_1j x_1f ∧ (dA 8 dCell).rep w' I_1w v_1x x_1t) ?_ ?_
                  ·
                    refine W.quiet (fun w' => Ch [] w_2g w') MX (by kernel_rfl) (Ch.drew [] w_2g) ?_
                    refine sel_of (fun hc => ?_) (fun hc => ?_)
                    ·
                      have q_2i := cond_t q_2i hc
                      refine evq0 (rn_field rfl rfl FO26_1) ?_
                      refine evq (fun w' hw => rn_load rfl rfl (run_loadVar1 T3 ((hp.ext hw).cell (i := 0) (off := 1) rfl rfl))) ?_
                      refine evq0 (rn_field rfl rfl FO24_0) ?_
                      refine evq (fun w' hw => rn_load rfl rfl (run_loadVar1 T3 ((a_8.step (hp.stp hw)).2 0 _ rfl))) ?_
                      refine evq0 (rn_field rfl rfl FO26_0) ?_
                      refine evq (fun w' hw => rn_load rfl rfl (run_loadVar1 T3 ((hp.ext hw).cell (i := 0) (off := 0) rfl rfl))) ?_
                      obtain ⟨x_2j, q_2k, q_2i⟩ := bind_some q_2i
                      refine evq_index rfl rfl rfl Try.underlying35 T3 r_z q_2k ?_
                      intro p_2l c_2m d_2n a_2o
                      obtain rfl : c_2m = [(.int .i64 x_2j)] := d_2n
                      refine evq (fun w' hw => rn_load rfl rfl (run_loadVar1 T3 ((a_2o.step (hp.stp hw)).2 0 _ rfl))) ?_
                      refine evq0 (rn_field rfl rfl FO26_1) ?_
                      refine evq (fun w' hw => rn_load rfl rfl (run_loadVar1 T3 ((hp.ext hw).cell (i := 3) (off := 1) rfl rfl))) ?_
                      refine evq0 (rn_field rfl rfl FO24_0) ?_
                      refine evq (fun w' hw => rn_load rfl rfl (run_loadVar1 T3 ((a_8.step (hp.stp hw)).2 0 _ rfl))) ?_
                      refine evq0 (rn_field rfl rfl FO26_0) ?_
                      refine evq (fun w' hw => rn_load rfl rfl (run_loadVar1 T3 ((hp.ext hw).cell (i := 3) (off := 0) rfl rfl))) ?_
                      obtain ⟨x_2p, q_2q, q_2i⟩ := bind_some q_2i
                      refine evq_index rfl rfl rfl Try.underlying35 T3 r_z q_2q ?_
                      intro p_2r c_2s d_2t a_2u
                      obtain rfl : c_2s = [(.int .i64 x_2p)] := d_2t
                      refine evq (fun w' hw => rn_load rfl rfl (run_loadVar1 T3 ((a_2u.step (hp.stp hw)).2 0 _ rfl))) ?_
                      intro w_2v hc
                      have hs := hp.stp hc
                      replace hp := hp.ext hc
                      replace a_8 := a_8.step hs
                      replace r_2 := r_2.step hs
                      replace a_g := a_g.step hs
                      replace r_z := r_z.step hs
                      replace o_1o := o_1o.step hs
                      replace r_1y := r_1y.step hs
                      replace a_2o := a_2o.step hs
                      replace a_2u := a_2u.step hs
                      obtain rfl := Option.some.inj q_2i
                      have hp := hp.perm [2, 3, 0] (by decide)
                      exact ⟨((IntKind.i64.wrap (x_2j + x_2a)) == x_2p), (.c rfl (.c rfl (.c rfl (.c rfl (.c rfl (.c rfl (.c rfl (.c rfl (.c rfl (.c rfl .n)))))))))), rfl, hp, r_2, a_8, a_g, r_z, o_1o, r_1y⟩
                    ·
                      have q_2i := cond_f q_2i hc
                      intro w_2w hc
                      have hs := hp.stp hc
                      replace hp := hp.ext hc
                      replace a_8 := a_8.step hs
                      replace r_2 := r_2.step hs
                      replace a_g := a_g.step hs
                      replace r_z := r_z.step hs
                      replace o_1o := o_1o.step hs
                      replace r_1y := r_1y.step hs
                      obtain rfl := Option.some.inj q_2i
                      have hp := hp.perm [2, 3, 0] (by decide)
                      exact ⟨false, (.c rfl (.c rfl (.c rfl (.c rfl (.c rfl (.c rfl (.c rfl (.c rfl (.c rfl (.c rfl .n)))))))))), rfl, hp, r_2, a_8, a_g, r_z, o_1o, r_1y⟩
                  ·
                    rintro x_2x w_2y ⟨hy, hp, r_2, a_8, a_g, r_z, o_1o, r_1y⟩
                    replace hy := hy.symm
                    subst hy
                    apply go
                    refine sel_of (fun hc => ?_) (fun hc => ?_)
                    ·
                      have q_22 := cond_t q_22 hc
                      apply go
                      apply go
                      refine ev (rn_load rfl rfl (run_loadVarA T26 rfl (hp.at_ (i := 2) rfl))) ?_
                      refine ev_litN (d := dCell) (xs := [(Cell.mk x_29.X x_29.Y)]) (cs := [(.int .i64 x_29.X), (.int .i64 x_29.Y)]) hp rfl rfl Try.underlying28 T26 (by decide) rfl rfl (Elems.cons (d := dCell) (xs := _) dCell_m (Elems.nil _ _ _ _)) ?_
                      intro v_2z I_30 w_31 hp hs r_32
                      replace a_8 := a_8.step hs
                      replace r_2 := r_2.step hs
                      replace a_g := a_g.step hs
                      replace r_z := r_z.step hs
                      replace o_1o := o_1o.step hs
                      obtain ⟨x_33, q_34, q_22⟩ := bind_some q_22
                      refine ev_append hp (i := 0) rfl rfl rfl rfl Try.underlying28 T26 rfl rfl o_1o r_32 q_34 ?_
                      rintro v_35 e_36 w_37 hp hs o_38
                      replace a_8 := a_8.step hs
                      replace r_2 := r_2.step hs
                      replace a_g := a_g.step hs
                      replace r_z := r_z.step hs
                      apply go
                      have q_39 := congrArg some (q_23 _ (Option.some.inj q_22).symm)
                      obtain rfl := Option.some.inj q_39
                      have hp := hp.sel [0, 1] (by decide)
                      exact ⟨(x_33, v_35, e_36, I_30), (.c rfl (.c rfl (.c rfl (.c rfl (.c rfl (.c rfl .n)))))), rfl, hp, r_2, a_8, a_g, r_z, o_38⟩
                    ·
                      have q_22 := cond_f q_22 hc
                      apply go
                      apply go
                      have hp := hp.sel [0, 1] (by decide)
                      exact ⟨_, (Option.some.inj q_22).symm, (), (.c rfl (.c rfl (.c rfl (.c rfl (.c rfl (.c rfl (.c rfl (.c rfl .n)))))))), ⟨hp, r_2, a_8, a_g, r_z, o_1o, r_1y⟩⟩
                ·
                  have q_22 := cond_f q_22 hc
                  apply go
                  have q_3a := congrArg some (q_23 _ (Option.some.inj q_22).symm)
                  obtain rfl := Option.some.inj q_3a
                  exact ⟨(x_1f, v_1i, e_1j, I_1w), (.c rfl (.c rfl (.c rfl (.c rfl (.c rfl (.c rfl .n)))))), rfl, hp, r_2, a_8, a_g, r_z, o_1o⟩
              ·
                rintro ⟨x_3b, v_3c, e_3d, I_3e⟩ w_3f ⟨hy, hp, r_2, a_8, a_g, r_z, o_3g⟩
                replace hy := hy.symm
                subst hy
                apply go
                apply go
                apply go
                refine ev (rn_load rfl rfl (run_loadVarA T26 rfl (hp.at_ (i := 1) rfl))) ?_
                apply go
                refine ev_alloc hp rfl T26 ?_
                intro g_3h w_3i hp hs
                replace a_8 := a_8.step hs
                replace r_2 := r_2.step hs
                replace a_g := a_g.step hs
                replace r_z := r_z.step hs
                replace o_3g := o_3g.step hs
                refine ev_storeA hp (i := 0) (off := 0) (vs := [(.int .i64 x_1g), (.int .i64 x_1h)]) rfl rfl rfl rfl T26 rfl (Nat.le_of_ble_eq_true rfl) (ones_of rfl) ?_
                intro w_3j hp hs
                replace a_8 := a_8.step hs
                replace r_2 := r_2.step hs
                replace a_g := a_g.step hs
                replace r_z := r_z.step hs
                replace o_3g := o_3g.step hs
                apply go
                refine ev0 (x_lenO rfl rfl Try.underlying28 o_3g) ?_
                obtain ⟨x_3k, q_3l, q_1p⟩ := bind_some q_1p
                refine ev_indexO rfl rfl rfl Try.underlying28 T26 o_3g q_3l ?_
                intro g_3m c_3n h_3o d_3p l_3q
                refine ev (rn_load rfl rfl (run_loadVarA T26 rfl (hp.atE (i := 1) rfl h_3o (dCell_o d_3p)))) ?_
                refine ev_storeA hp (i := 0) (off := 0) (vs := [(.int .i64 x_3k.X), (.int .i64 x_3k.Y)]) rfl rfl rfl rfl T26 rfl (Nat.le_of_ble_eq_true rfl) (ones_of rfl) ?_
                intro w_3r hp hs
                replace a_8 := a_8.step hs
                replace r_2 := r_2.step hs
                replace a_g := a_g.step hs
                replace r_z := r_z.step hs
                replace o_3g := o_3g.step hs
                have hp := hp.perm [1, 0] (by decide)
                exact ⟨_, (Option.some.inj q_1p).symm, (v_3c, e_3d, g_3h, I_3e), (.c rfl (.c rfl (.c rfl (.c rfl (.c rfl (.c rfl .n)))))), ⟨hp, r_2, a_8, a_g, r_z, o_3g⟩⟩
            ·
              have q_1p := cond_f q_1p hc
              apply go
              have q_3s := congrArg some (q_1q _ (Option.some.inj q_1p).symm)
              obtain rfl := Option.some.inj q_3s
              have hp := hp.sel [0] (by decide)
              exact ⟨(x_1f, v_1i, e_1j, I_1l), (.c rfl (.c rfl .n)), rfl, hp, o_1o⟩
          ·
            rintro ⟨x_3t, v_3u, e_3v, I_3w⟩ w_3x ⟨hy, hp, o_3y⟩
            replace hy := hy.symm
            subst hy
            apply go
            apply go
            apply go
            obtain rfl := Option.some.inj h
            have r_3z := o_3y.frz hp (i := 0) rfl
            obtain ⟨hp, hs⟩ := freeze_hp hp (i := 0) rfl
            have hp := hp.sel [] (by decide)
            exact ⟨(Ad I_3w e_3v), v_3u, rfl, hp, r_3z⟩

end Go.Proofs.Ytcdboppghnchpaa

namespace Go.Proofs.Ytcdboppghnchpaa
open Go Go.Proofs.Ytcdboppghnchpaa.Gw Go.RowKit
set_option linter.unusedVariables false
attribute [local irreducible] Ev EvQ EvS EvH
def frontier_Done_S (f : Plan → Cell → Option (Bool × Int)) : Prop := ∀ (w0 : World) (I0 : Nat → Prop) (x_0 : Plan) (v_1 : Value) (r_2 : RepS (dI .u8) w0 I0 v_1 x_0.Cells) (x_3 : Cell) (hI : ∀ g, I0 g → g < w0.heap.size) (r : (Bool × Int)), f x_0 x_3 = some r →
    Ret Try.prog 12 #[(.agg #[(.int .i64 x_0.W), (.int .i64 x_0.H), v_1]), (.agg #[(.int .i64 x_3.X), (.int .i64 x_3.Y)])] w0 fun v w1 => v = (.tuple #[(.bool r.1), (.int .i64 r.2)]) ∧ Ch [] w0 w1
theorem frontier_Done_ok (n : Nat) : frontier_Done_S (frontier_Done n) := by
  intro w0 I0 x_0 v_1 r_2 x_3 hI r h
  unfold frontier_Done at h
  refine enter Try.func12 rfl (Nat.le_of_ble_eq_true rfl) ?_
  have hp : Hp ⟨w0, I0, []⟩ I0 [] w0 := Hp.start hI
  apply go
  apply go
  refine ev_boxI hp rfl rfl ?_
  intro p_4 I_5 w_6 hp hs a_7
  replace r_2 := r_2.step hs
  refine ev_boxI hp rfl rfl ?_
  intro p_8 I_9 w_a hp hs a_b
  replace a_7 := a_7.step hs
  replace r_2 := r_2.step hs
  apply go
  apply go
  refine ev (rn_load rfl rfl (run_loadVarA T24 rfl a_7)) ?_
  refine ev (rn_load rfl rfl (run_loadVarA T26 rfl a_b)) ?_
  obtain ⟨⟨x_c, x_d⟩, q_e, h⟩ := bind_some h
  refine ev_call rfl rfl C6 (((frontier_Goals_ok n) _ _  (Plan.mk x_0.W x_0.H x_0.Cells) v_1 r_2 (Cell.mk x_3.X x_3.Y) hp.imm _ q_e).mono ?_)
  rintro _ w_f ⟨I_g, v_h, hv, hq, r_i⟩
  replace hv := hv.symm
  subst hv
  have hs := hq.st
  have hp := hp.join0 hq
  apply go
  apply go
  apply go
  apply go
  refine sel_of (fun hc => ?_) (fun hc => ?_)
  ·
    have h := cond_t h hc
    apply go
    apply go
    apply go
    obtain rfl := Option.some.inj h
    exact ⟨rfl, hp.ch⟩
  ·
    have h := cond_f h hc
    apply go
    apply go
    apply go
    refine ev0 (rn_len rfl rfl Try.underlying32 r_i) ?_
    apply go
    obtain rfl := Option.some.inj h
    exact ⟨rfl, hp.ch⟩

end Go.Proofs.Ytcdboppghnchpaa

namespace Go.Proofs.Ytcdboppghnchpaa
open Go Go.Proofs.Ytcdboppghnchpaa.Gw Go.RowKit
set_option linter.unusedVariables false
attribute [local irreducible] Ev EvQ EvS EvH
def top_WholeTour_S (f : Plan → Cell → Option Bool) : Prop := ∀ (w0 : World) (I0 : Nat → Prop) (x_0 : Plan) (v_1 : Value) (r_2 : RepS (dI .u8) w0 I0 v_1 x_0.Cells) (x_3 : Cell) (hI : ∀ g, I0 g → g < w0.heap.size) (r : Bool), f x_0 x_3 = some r →
    Ret Try.prog 3 #[(.agg #[(.int .i64 x_0.W), (.int .i64 x_0.H), v_1]), (.agg #[(.int .i64 x_3.X), (.int .i64 x_3.Y)])] w0 fun v w1 => v = (.bool r) ∧ Ch [] w0 w1
theorem top_WholeTour_ok (n : Nat) : top_WholeTour_S (top_WholeTour n) := by
  intro w0 I0 x_0 v_1 r_2 x_3 hI r h
  unfold top_WholeTour at h
  refine enter Try.func3 rfl (Nat.le_of_ble_eq_true rfl) ?_
  have hp : Hp ⟨w0, I0, []⟩ I0 [] w0 := Hp.start hI
  apply go
  apply go
  refine ev_boxI hp rfl rfl ?_
  intro p_4 I_5 w_6 hp hs a_7
  replace r_2 := r_2.step hs
  refine ev_boxI hp rfl rfl ?_
  intro p_8 I_9 w_a hp hs a_b
  replace a_7 := a_7.step hs
  replace r_2 := r_2.step hs
  apply go
  obtain ⟨y_c, q_d, h⟩ := bind_some h
  refine W.cut (γ := Bool) (fun g => [(2, (.pointer (some (p_4)))), (3, (.pointer (some (p_8)))), (32, (.bool (g)))]) (fun g w' => y_c = (g) ∧ Hp ⟨w0, I0, []⟩ I_9 [] w' ∧ RepS (dI .u8) w' I_9 v_1 x_0.Cells ∧ At w' I_9 p_4 [(.int .i64 x_0.W), (.int .i64 x_0.H), v_1] ∧ At w' I_9 p_8 [(.int .i64 x_3.X), (.int .i64 x_3.Y)]) ?_ ?_
  ·
    apply go
    obtain ⟨x_e, q_f, q_d⟩ := bind_some q_d
    refine ev_call rfl rfl C4 (((top_tourAwake_ok n) _ _   hp.imm _ q_f).mono ?_)
    rintro _ w_g ⟨rfl, hc⟩
    have hs := hp.stp hc
    replace hp := hp.ext hc
    replace a_7 := a_7.step hs
    replace r_2 := r_2.step hs
    replace a_b := a_b.step hs
    refine sel_of (fun hc => ?_) (fun hc => ?_)
    ·
      have q_d := cond_t q_d hc
      obtain rfl := Option.some.inj q_d
      exact ⟨true, (.c rfl (.c rfl (.c rfl .n))), rfl, hp, r_2, a_7, a_b⟩
    ·
      have q_d := cond_f q_d hc
      refine ev0 (rn_field rfl rfl FO24_2) ?_
      refine ev (rn_load rfl rfl (run_loadVar1 T22 (a_7.2 2 _ rfl))) ?_
      refine ev0 (rn_len rfl rfl Try.underlying22 r_2) ?_
      obtain rfl := Option.some.inj q_d
      exact ⟨(decide ((x_0.Cells.length : Int) > 144)), (.c rfl (.c rfl (.c rfl .n))), rfl, hp, r_2, a_7, a_b⟩
  ·
    rintro x_h w_i ⟨hy, hp, r_2, a_7, a_b⟩
    replace hy := hy.symm
    subst hy
    apply go
    refine sel_of (fun hc => ?_) (fun hc => ?_)
    ·
      have h := cond_t h hc
      apply go
      apply go
      obtain ⟨x_j, q_k, h⟩ := bind_some h
      refine ev_call rfl rfl C4 (((top_tourAwake_ok n) _ _   hp.imm _ q_k).mono ?_)
      rintro _ w_l ⟨rfl, hc⟩
      have hs := hp.stp hc
      replace hp := hp.ext hc
      apply go
      obtain rfl := Option.some.inj h
      exact ⟨rfl, hp.ch⟩
    ·
      have h := cond_f h hc
      apply go
      apply go
      apply go
      refine ev (rn_load rfl rfl (run_loadVarA T24 rfl a_7)) ?_
      refine ev (rn_load rfl rfl (run_loadVarA T26 rfl a_b)) ?_
      obtain ⟨⟨x_m, x_n⟩, q_o, h⟩ := bind_some h
      refine ev_call rfl rfl C5 (((tour_Tour_ok n) _ _  (Plan.mk x_0.W x_0.H x_0.Cells) v_1 r_2 (Cell.mk x_3.X x_3.Y) hp.imm _ q_o).mono ?_)
      rintro _ w_p ⟨I_q, v_r, hv, hq, r_s⟩
      replace hv := hv.symm
      subst hv
      have hs := hq.st
      have hp := hp.join0 hq
      replace a_7 := a_7.step hs
      replace r_2 := r_2.step hs
      replace a_b := a_b.step hs
      apply go
      apply go
      refine ev (rn_load rfl rfl (run_loadVarA T24 rfl a_7)) ?_
      refine ev (rn_load rfl rfl (run_loadVarA T26 rfl a_b)) ?_
      obtain ⟨⟨x_t, x_u⟩, q_v, h⟩ := bind_some h
      refine ev_call rfl rfl C6 (((frontier_Goals_ok n) _ _  (Plan.mk x_0.W x_0.H x_0.Cells) v_1 r_2 (Cell.mk x_3.X x_3.Y) hp.imm _ q_v).mono ?_)
      rintro _ w_w ⟨I_x, v_y, hv, hq, r_z⟩
      replace hv := hv.symm
      subst hv
      have hs := hq.st
      have hp := hp.join0 hq
      replace a_7 := a_7.step hs
      replace r_2 := r_2.step hs
      replace a_b := a_b.step hs
      replace r_s := r_s.step hs
      apply go
      apply go
      refine ev (rn_load rfl rfl (run_loadVarA T24 rfl a_7)) ?_
      refine ev (rn_load rfl rfl (run_loadVarA T26 rfl a_b)) ?_
      obtain ⟨⟨x_10, x_11⟩, q_12, h⟩ := bind_some h
      refine ev_call rfl rfl C7 (((path_Costs_ok n) _ _  (Plan.mk x_0.W x_0.H x_0.Cells) v_1 r_2 (Cell.mk x_3.X x_3.Y) hp.imm _ q_12).mono ?_)
      rintro _ w_13 ⟨I_14, v_15, hv, hq, r_16⟩
      replace hv := hv.symm
      subst hv
      have hs := hq.st
      have hp := hp.join0 hq
      replace a_7 := a_7.step hs
      replace r_2 := r_2.step hs
      replace a_b := a_b.step hs
      replace r_s := r_s.step hs
      replace r_z := r_z.step hs
      apply go
      obtain ⟨y_17, q_18, h⟩ := bind_some h
      refine W.cut (γ := Bool) (fun g => [(2, (.pointer (some (p_4)))), (3, (.pointer (some (p_8)))), (5, v_r), (6, (.int .i64 x_n)), (7, v_y), (9, v_15), (59, (.bool (g)))]) (fun g w' => y_17 = (g) ∧ w_13 = w') ?_ ?_
      ·
        apply go
        refine sel_of (fun hc => ?_) (fun hc => ?_)
        ·
          have q_18 := cond_t q_18 hc
          obtain rfl := Option.some.inj q_18
          exact ⟨true, (.c rfl (.c rfl (.c rfl (.c rfl (.c rfl (.c rfl (.c rfl .n))))))), rfl, rfl⟩
        ·
          have q_18 := cond_f q_18 hc
          obtain rfl := Option.some.inj q_18
          exact ⟨(x_u != x_11), (.c rfl (.c rfl (.c rfl (.c rfl (.c rfl (.c rfl (.c rfl .n))))))), rfl, rfl⟩
      ·
        rintro x_19 _ ⟨hy, rfl⟩
        replace hy := hy.symm
        subst hy
        apply go
        refine sel_of (fun hc => ?_) (fun hc => ?_)
        ·
          have h := cond_t h hc
          apply go
          apply go
          apply go
          obtain rfl := Option.some.inj h
          exact ⟨rfl, hp.ch⟩
        ·
          have h := cond_f h hc
          apply go
          apply go
          obtain ⟨y_1a, q_1b, h⟩ := bind_some h
          refine W.cut (γ := Bool) (fun g => [(2, (.pointer (some (p_4)))), (3, (.pointer (some (p_8)))), (5, v_r), (6, (.int .i64 x_n)), (7, v_y), (9, v_15), (74, (.bool (g)))]) (fun g w' => y_1a = (g) ∧ Hp ⟨w0, I0, []⟩ I_14 [] w' ∧ RepS (dI .u8) w' I_14 v_1 x_0.Cells ∧ At w' I_14 p_4 [(.int .i64 x_0.W), (.int .i64 x_0.H), v_1] ∧ At w' I_14 p_8 [(.int .i64 x_3.X), (.int .i64 x_3.Y)] ∧ RepS dCell w' I_14 v_r x_m ∧ RepS dGoal w' I_14 v_y x_t ∧ RepS (dI .i64) w' I_14 v_15 x_10) ?_ ?_
          ·
            apply go
            refine sel_of (fun hc => ?_) (fun hc => ?_)
            ·
              have q_1b := cond_t q_1b hc
              obtain rfl := Option.some.inj q_1b
              exact ⟨true, (.c rfl (.c rfl (.c rfl (.c rfl (.c rfl (.c rfl (.c rfl .n))))))), rfl, hp, r_2, a_7, a_b, r_s, r_z, r_16⟩
            ·
              have q_1b := cond_f q_1b hc
              refine ev (rn_load rfl rfl (run_loadVarA T24 rfl a_7)) ?_
              obtain ⟨x_1c, q_1d, q_1b⟩ := bind_some q_1b
              refine ev_call rfl rfl C8 (((base_Plan_ok n) _ _  (Plan.mk x_0.W x_0.H x_0.Cells) v_1 r_2 hp.imm _ q_1d).mono ?_)
              rintro _ w_1e ⟨rfl, hc⟩
              have hs := hp.stp hc
              replace hp := hp.ext hc
              replace a_7 := a_7.step hs
              replace r_2 := r_2.step hs
              replace a_b := a_b.step hs
              replace r_s := r_s.step hs
              replace r_z := r_z.step hs
              replace r_16 := r_16.step hs
              refine sel_of (fun hc => ?_) (fun hc => ?_)
              ·
                have q_1b := cond_t q_1b hc
                obtain rfl := Option.some.inj q_1b
                exact ⟨true, (.c rfl (.c rfl (.c rfl (.c rfl (.c rfl (.c rfl (.c rfl .n))))))), rfl, hp, r_2, a_7, a_b, r_s, r_z, r_16⟩
              ·
                have q_1b := cond_f q_1b hc
                refine ev0 (rn_len rfl rfl Try.underlying35 r_16) ?_
                refine ev0 (rn_field rfl rfl FO24_2) ?_
                refine ev (rn_load rfl rfl (run_loadVar1 T22 (a_7.2 2 _ rfl))) ?_
                refine ev0 (rn_len rfl rfl Try.underlying22 r_2) ?_
                obtain rfl := Option.some.inj q_1b
                exact ⟨((x_10.length : Int) != (x_0.Cells.length : Int)), (.c rfl (.c rfl (.c rfl (.c rfl (.c rfl (.c rfl (.c rfl .n))))))), rfl, hp, r_2, a_7, a_b, r_s, r_z, r_16⟩
          ·
            rintro x_1f w_1g ⟨hy, hp, r_2, a_7, a_b, r_s, r_z, r_16⟩
            replace hy := hy.symm
            subst hy
            apply go
            refine sel_of (fun hc => ?_) (fun hc => ?_)
            ·
              have h := cond_t h hc
              obtain ⟨y_1h, q_1i, h⟩ := bind_some h
              refine W.cut (γ := Bool) (fun g => [(4, (.bool (g)))]) (fun g w' => y_1h = (g) ∧ w_1g = w') ?_ ?_
              ·
                apply go
                refine sel_of (fun hc => ?_) (fun hc => ?_)
                ·
                  have q_1i := cond_t q_1i hc
                  refine ev0 (rn_len rfl rfl Try.underlying28 r_s) ?_
                  refine sel_of (fun hc => ?_) (fun hc => ?_)
                  ·
                    have q_1i := cond_t q_1i hc
                    refine ev0 (rn_len rfl rfl Try.underlying32 r_z) ?_
                    obtain rfl := Option.some.inj q_1i
                    exact ⟨((x_t.length : Int) == 0), (.c rfl .n), rfl, rfl⟩
                  ·
                    have q_1i := cond_f q_1i hc
                    obtain rfl := Option.some.inj q_1i
                    exact ⟨false, (.c rfl .n), rfl, rfl⟩
                ·
                  have q_1i := cond_f q_1i hc
                  obtain rfl := Option.some.inj q_1i
                  exact ⟨false, (.c rfl .n), rfl, rfl⟩
              ·
                rintro x_1j _ ⟨hy, rfl⟩
                replace hy := hy.symm
                subst hy
                apply go
                obtain rfl := Option.some.inj h
                exact ⟨rfl, hp.ch⟩
            ·
              have h := cond_f h hc
              apply go
              apply go
              apply go
              refine ev0 (rn_field rfl rfl FO24_2) ?_
              refine ev (rn_load rfl rfl (run_loadVar1 T22 (a_7.2 2 _ rfl))) ?_
              refine ev0 (rn_len rfl rfl Try.underlying22 r_2) ?_
              obtain ⟨x_1k, q_1l, h⟩ := bind_some h
              refine ev_make (d := dB) (x0 := false) hp rfl rfl rfl Try.underlying39 T4 (fun _ _ => rfl) (Nat.le_of_ble_eq_true rfl) q_1l ?_
              intro v_1m e_1n w_1o hp hs o_1p
              replace a_7 := a_7.step hs
              replace r_2 := r_2.step hs
              replace a_b := a_b.step hs
              replace r_s := r_s.step hs
              replace r_z := r_z.step hs
              replace r_16 := r_16.step hs
              apply go
              apply go
              obtain ⟨y_1q, q_1r, h⟩ := bind_some h
              refine W.cut (γ := ((List Bool) × Bool × Ent × (Nat → Prop))) (fun g => [(2, (.pointer (some (p_4)))), (3, (.pointer (some (p_8)))), (7, v_y), (9, v_15), (11, v_1m), (12, (.bool (g.2.1)))]) (fun g w' => y_1q = .go ((g.1), (g.2.1)) ∧ Hp ⟨w0, I0, []⟩ (g.2.2.2) [(g.2.2.1)] w' ∧ RepS (dI .u8) w' (g.2.2.2) v_1 x_0.Cells ∧ At w' (g.2.2.2) p_4 [(.int .i64 x_0.W), (.int .i64 x_0.H), v_1] ∧ At w' (g.2.2.2) p_8 [(.int .i64 x_3.X), (.int .i64 x_3.Y)] ∧ RepS dGoal w' (g.2.2.2) v_y x_t ∧ RepS (dI .i64) w' (g.2.2.2) v_15 x_10 ∧ OwnS dB 4 w' (g.2.2.2) v_1m (g.2.2.1) (g.1)) ?_ ?_
              ·
                apply go
                apply go
                apply go
                refine W.loop q_1r (γ := (Ent × (Nat → Prop))) (fun s g => [(2, (.pointer (some (p_4)))), (3, (.pointer (some (p_8)))), (5, v_r), (7, v_y), (9, v_15), (11, v_1m), (12, (.bool (s.2.1))), (13, (.int .i64 (s.2.2)))]) (fun s g w' => Hp ⟨w0, I0, []⟩ (g.2) [(g.1)] w' ∧ RepS (dI .u8) w' (g.2) v_1 x_0.Cells ∧ At w' (g.2) p_4 [(.int .i64 x_0.W), (.int .i64 x_0.H), v_1] ∧ At w' (g.2) p_8 [(.int .i64 x_3.X), (.int .i64 x_3.Y)] ∧ RepS dCell w' (g.2) v_r x_m ∧ RepS dGoal w' (g.2) v_y x_t ∧ RepS (dI .i64) w' (g.2) v_15 x_10 ∧ OwnS dB 4 w' (g.2) v_1m (g.1) (s.1)) (e_1n, I_14) (.c rfl (.c rfl (.c rfl (.c rfl (.c rfl (.c rfl (.c rfl (.c rfl .n)))))))) ⟨hp, r_2, a_7, a_b, r_s, r_z, r_16, o_1p⟩ ?_
                rintro ⟨x_1s, x_1t, x_1u⟩ ⟨e_1v, I_1w⟩ w1000008 y1000009 ⟨hp, r_2, a_7, a_b, r_s, r_z, r_16, o_1x⟩ q1000010 q1000011
                unfold top_WholeTour_L11 at q1000010
                apply go
                apply go
                apply go
                refine ev0 (rn_len rfl rfl Try.underlying28 r_s) ?_
                apply go
                refine sel_of (fun hc => ?_) (fun hc => ?_)
                ·
                  have q1000010 := cond_t q1000010 hc
                  apply go
                  obtain ⟨y1000129, q1000130, q1000010⟩ := bind_some q1000010
                  refine W.cut (γ := ((List Bool) × Bool × Ent × (Nat → Prop))) (fun g => [(2, (.pointer (some (p_4)))), (3, (.pointer (some (p_8)))), (5, v_r), (7, v_y), (9, v_15), (11, v_1m), (12, (.bool (g.2.1))), (13, (.int .i64 x_1u))]) (fun g w' => y1000129 = .go ((g.1), (g.2.1)) ∧ Hp ⟨w0, I0, []⟩ (g.2.2.2) [(g.2.2.1)] w' ∧ RepS (dI .u8) w' (g.2.2.2) v_1 x_0.Cells ∧ At w' (g.2.2.2) p_4 [(.int .i64 x_0.W), (.int .i64 x_0.H), v_1] ∧ At w' (g.2.2.2) p_8 [(.int .i64 x_3.X), (.int .i64 x_3.Y)] ∧ RepS dCell w' (g.2.2.2) v_r x_m ∧ RepS dGoal w' (g.2.2.2) v_y x_t ∧ RepS (dI .i64) w' (g.2.2.2) v_15 x_10 ∧ OwnS dB 4 w' (g.2.2.2) v_1m (g.2.2.1) (g.1)) ?_ ?_
                  ·
                    apply go
                    apply go
                    apply go
                    obtain ⟨x1000131, q1000132, q1000130⟩ := bind_some q1000130
                    refine ev_index rfl rfl rfl Try.underlying28 T26 r_s q1000132 ?_
                    intro p1000133 c1000134 d1000135 a1000136
                    obtain rfl := dCell_o d1000135
                    refine ev (rn_load rfl rfl (run_loadVarA T26 rfl a1000136)) ?_
                    refine ev_alloc hp rfl T26 ?_
                    intro g1000137 w1000138 hp hs
                    replace a_7 := a_7.step hs
                    replace r_2 := r_2.step hs
                    replace a_b := a_b.step hs
                    replace r_s := r_s.step hs
                    replace r_z := r_z.step hs
                    replace r_16 := r_16.step hs
                    replace o_1x := o_1x.step hs
                    refine ev_storeA hp (i := 0) (off := 0) (vs := [(.int .i64 x1000131.X), (.int .i64 x1000131.Y)]) rfl rfl rfl rfl T26 rfl (Nat.le_of_ble_eq_true rfl) (ones_of rfl) ?_
                    intro w1000139 hp hs
                    replace a_7 := a_7.step hs
                    replace r_2 := r_2.step hs
                    replace a_b := a_b.step hs
                    replace r_s := r_s.step hs
                    replace r_z := r_z.step hs
                    replace r_16 := r_16.step hs
                    replace o_1x := o_1x.step hs
                    apply go
                    apply go
                    apply go
                    refine ev (rn_load rfl rfl (run_loadVarA T24 rfl a_7)) ?_
                    refine ev (rn_load rfl rfl (run_loadVarA T26 rfl (hp.at_ (i := 0) rfl))) ?_
                    obtain ⟨x1000140, q1000141, q1000130⟩ := bind_some q1000130
                    refine ev_call rfl rfl C9 (((base_Inside_ok n) _ _  (Plan.mk x_0.W x_0.H x_0.Cells) v_1 r_2 (Cell.mk x1000131.X x1000131.Y) hp.imm _ q1000141).mono ?_)
                    rintro _ w1000142 ⟨rfl, hc⟩
                    have hs := hp.stp hc
                    replace hp := hp.ext hc
                    replace a_7 := a_7.step hs
                    replace r_2 := r_2.step hs
                    replace a_b := a_b.step hs
                    replace r_s := r_s.step hs
                    replace r_z := r_z.step hs
                    replace r_16 := r_16.step hs
                    replace o_1x := o_1x.step hs
                    apply go
                    refine sel_of (fun hc => ?_) (fun hc => ?_)
                    ·
                      have q1000130 := cond_t q1000130 hc
                      apply go
                      apply go
                      apply go
                      obtain rfl := Option.some.inj q1000130
                      have q1000143 := congrArg some (q1000011 _ (Option.some.inj q1000010).symm)
                      obtain rfl := Option.some.inj q1000143
                      obtain rfl := Option.some.inj h
                      exact ⟨rfl, hp.ch⟩
                    ·
                      have q1000130 := cond_f q1000130 hc
                      apply go
                      apply go
                      apply go
                      refine ev0 (rn_field rfl rfl FO26_1) ?_
                      refine ev (rn_load rfl rfl (run_loadVar1 T3 (hp.cell (i := 0) (off := 1) rfl rfl))) ?_
                      refine ev0 (rn_field rfl rfl FO24_0) ?_
                      refine ev (rn_load rfl rfl (run_loadVar1 T3 (a_7.2 0 _ rfl))) ?_
                      refine ev0 (rn_field rfl rfl FO26_0) ?_
                      refine ev (rn_load rfl rfl (run_loadVar1 T3 (hp.cell (i := 0) (off := 0) rfl rfl))) ?_
                      obtain ⟨x1000144, q1000145, q1000130⟩ := bind_some q1000130
                      refine ev_indexO rfl rfl rfl Try.underlying39 T4 o_1x q1000145 ?_
                      intro g1000146 c1000147 h1000150 d1000148 l1000149
                      refine ev_storeE hp (i := 1) rfl h1000150 rfl rfl rfl T4 o_1x q1000145 (x0 := true) rfl ?_
                      intro e1000153 w1000152 hp hs o1000154
                      replace a_7 := a_7.step hs
                      replace r_2 := r_2.step hs
                      replace a_b := a_b.step hs
                      replace r_s := r_s.step hs
                      replace r_z := r_z.step hs
                      replace r_16 := r_16.step hs
                      apply go
                      apply go
                      refine ev0 (rn_field rfl rfl FO26_0) ?_
                      refine ev (rn_load rfl rfl (run_loadVar1 T3 (hp.cell (i := 0) (off := 0) rfl rfl))) ?_
                      refine ev0 (rn_field rfl rfl FO26_1) ?_
                      refine ev (rn_load rfl rfl (run_loadVar1 T3 (hp.cell (i := 0) (off := 1) rfl rfl))) ?_
                      refine ev0 (fun w => rn_build (cs := [(.int .i64 (IntKind.i64.wrap (x1000131.X + 1))), (.int .i64 x1000131.Y)]) rfl rfl T26 PL26 rfl) ?_
                      refine ev0 (rn_field rfl rfl FO26_0) ?_
                      refine ev (rn_load rfl rfl (run_loadVar1 T3 (hp.cell (i := 0) (off := 0) rfl rfl))) ?_
                      refine ev0 (rn_field rfl rfl FO26_1) ?_
                      refine ev (rn_load rfl rfl (run_loadVar1 T3 (hp.cell (i := 0) (off := 1) rfl rfl))) ?_
                      refine ev0 (fun w => rn_build (cs := [(.int .i64 x1000131.X), (.int .i64 (IntKind.i64.wrap (x1000131.Y + 1)))]) rfl rfl T26 PL26 rfl) ?_
                      refine ev0 (rn_field rfl rfl FO26_0) ?_
                      refine ev (rn_load rfl rfl (run_loadVar1 T3 (hp.cell (i := 0) (off := 0) rfl rfl))) ?_
                      refine ev0 (rn_field rfl rfl FO26_1) ?_
                      refine ev (rn_load rfl rfl (run_loadVar1 T3 (hp.cell (i := 0) (off := 1) rfl rfl))) ?_
                      refine ev0 (fun w => rn_build (cs := [(.int .i64 (IntKind.i64.wrap (x1000131.X - 1))), (.int .i64 x1000131.Y)]) rfl rfl T26 PL26 rfl) ?_
                      refine ev0 (rn_field rfl rfl FO26_0) ?_
                      refine ev (rn_load rfl rfl (run_loadVar1 T3 (hp.cell (i := 0) (off := 0) rfl rfl))) ?_
                      refine ev0 (rn_field rfl rfl FO26_1) ?_
                      refine ev (rn_load rfl rfl (run_loadVar1 T3 (hp.cell (i := 0) (off := 1) rfl rfl))) ?_
                      refine ev0 (fun w => rn_build (cs := [(.int .i64 x1000131.X), (.int .i64 (IntKind.i64.wrap (x1000131.Y - 1)))]) rfl rfl T26 PL26 rfl) ?_
                      refine ev_litN (d := dCell) (xs := [(Cell.mk (IntKind.i64.wrap (x1000131.X + 1)) x1000131.Y), (Cell.mk x1000131.X (IntKind.i64.wrap (x1000131.Y + 1))), (Cell.mk (IntKind.i64.wrap (x1000131.X - 1)) x1000131.Y), (Cell.mk x1000131.X (IntKind.i64.wrap (x1000131.Y - 1)))]) (cs := [(.int .i64 (IntKind.i64.wrap (x1000131.X + 1))), (.int .i64 x1000131.Y), (.int .i64 x1000131.X), (.int .i64 (IntKind.i64.wrap (x1000131.Y + 1))), (.int .i64 (IntKind.i64.wrap (x1000131.X - 1))), (.int .i64 x1000131.Y), (.int .i64 x1000131.X), (.int .i64 (IntKind.i64.wrap (x1000131.Y - 1)))]) hp rfl rfl Try.underlying28 T26 (by decide) (by kernel_rfl) rfl (Elems.cons (d := dCell) (xs := _) dCell_m (Elems.cons (d := dCell) (xs := _) dCell_m (Elems.cons (d := dCell) (xs := _) dCell_m (Elems.cons (d := dCell) (xs := _) dCell_m (Elems.nil _ _ _ _))))) ?_
                      intro v1000157 I1000159 w1000158 hp hs r1000160
                      replace a_7 := a_7.step hs
                      replace r_2 := r_2.step hs
                      replace a_b := a_b.step hs
                      replace r_s := r_s.step hs
                      replace r_z := r_z.step hs
                      replace r_16 := r_16.step hs
                      replace o1000154 := o1000154.step hs
                      apply go
                      apply go
                      apply go
                      have hp := hp.sel [1] (by decide)
                      refine W.loop q1000130 (γ := Unit) (fun s _ => [(2, (.pointer (some (p_4)))), (3, (.pointer (some (p_8)))), (5, v_r), (7, v_y), (9, v_15), (11, v_1m), (12, (.bool (s.1))), (13, (.int .i64 x_1u)), (15, v1000157), (16, (.int .i64 (s.2)))]) (fun s _ w' => Hp ⟨w0, I0, []⟩ I1000159 [e1000153] w' ∧ RepS (dI .u8) w' I1000159 v_1 x_0.Cells ∧ At w' I1000159 p_4 [(.int .i64 x_0.W), (.int .i64 x_0.H), v_1] ∧ At w' I1000159 p_8 [(.int .i64 x_3.X), (.int .i64 x_3.Y)] ∧ RepS dCell w' I1000159 v_r x_m ∧ RepS dGoal w' I1000159 v_y x_t ∧ RepS (dI .i64) w' I1000159 v_15 x_10 ∧ OwnS dB 4 w' I1000159 v_1m e1000153 (upd x_1s (IntKind.i64.wrap ((IntKind.i64.wrap (x1000131.Y * x_0.W)) + x1000131.X)) true) ∧ RepS dCell w' I1000159 v1000157 [(Cell.mk (IntKind.i64.wrap (x1000131.X + 1)) x1000131.Y), (Cell.mk x1000131.X (IntKind.i64.wrap (x1000131.Y + 1))), (Cell.mk (IntKind.i64.wrap (x1000131.X - 1)) x1000131.Y), (Cell.mk x1000131.X (IntKind.i64.wrap (x1000131.Y - 1)))]) () (.c rfl (.c rfl (.c rfl (.c rfl (.c rfl (.c rfl (.c rfl (.c rfl (.c rfl (.c rfl .n)))))))))) ⟨hp, r_2, a_7, a_b, r_s, r_z, r_16, o1000154, r1000160⟩ ?_
                      rintro ⟨x1000185, x1000186⟩ ⟨⟩ w1000213 y1000214 ⟨hp, r_2, a_7, a_b, r_s, r_z, r_16, o1000154, r1000160⟩ q1000215 q1000216
                      unfold top_WholeTour_L13 at q1000215
                      apply go
                      apply go
                      apply go
                      apply go
                      refine sel_of (fun hc => ?_) (fun hc => ?_)
                      ·
                        have q1000215 := cond_t q1000215 hc
                        apply go
                        obtain ⟨y1000229, q1000230, q1000215⟩ := bind_some q1000215
                        refine W.cut (γ := Bool) (fun g => [(2, (.pointer (some (p_4)))), (3, (.pointer (some (p_8)))), (5, v_r), (7, v_y), (9, v_15), (11, v_1m), (12, (.bool (g))), (13, (.int .i64 x_1u)), (15, v1000157), (16, (.int .i64 x1000186))]) (fun g w' => y1000229 = (g) ∧ Hp ⟨w0, I0, []⟩ I1000159 [e1000153] w' ∧ RepS (dI .u8) w' I1000159 v_1 x_0.Cells ∧ At w' I1000159 p_4 [(.int .i64 x_0.W), (.int .i64 x_0.H), v_1] ∧ At w' I1000159 p_8 [(.int .i64 x_3.X), (.int .i64 x_3.Y)] ∧ RepS dCell w' I1000159 v_r x_m ∧ RepS dGoal w' I1000159 v_y x_t ∧ RepS (dI .i64) w' I1000159 v_15 x_10 ∧ OwnS dB 4 w' I1000159 v_1m e1000153 (upd x_1s (IntKind.i64.wrap ((IntKind.i64.wrap (x1000131.Y * x_0.W)) + x1000131.X)) true) ∧ RepS dCell w' I1000159 v1000157 [(Cell.mk (IntKind.i64.wrap (x1000131.X + 1)) x1000131.Y), (Cell.mk x1000131.X (IntKind.i64.wrap (x1000131.Y + 1))), (Cell.mk (IntKind.i64.wrap (x1000131.X - 1)) x1000131.Y), (Cell.mk x1000131.X (IntKind.i64.wrap (x1000131.Y - 1)))]) ?_ ?_
                        ·
                          apply go
                          refine W.quiet (fun w' => Ch [] w1000213 w') MX (by kernel_rfl) (Ch.drew [] w1000213) ?_
                          refine sel_of (fun hc => ?_) (fun hc => ?_)
                          ·
                            have q1000230 := cond_t q1000230 hc
                            intro w1000231 hc
                            have hs := hp.stp hc
                            replace hp := hp.ext hc
                            replace a_7 := a_7.step hs
                            replace r_2 := r_2.step hs
                            replace a_b := a_b.step hs
                            replace r_s := r_s.step hs
                            replace r_z := r_z.step hs
                            replace r_16 := r_16.step hs
                            replace o1000154 := o1000154.step hs
                            replace r1000160 := r1000160.step hs
                            obtain rfl := Option.some.inj q1000230
                            exact ⟨true, (.c rfl (.c rfl (.c rfl (.c rfl (.c rfl (.c rfl (.c rfl (.c rfl (.c rfl (.c rfl .n)))))))))), rfl, hp, r_2, a_7, a_b, r_s, r_z, r_16, o1000154, r1000160⟩
                          ·
                            have q1000230 := cond_f q1000230 hc
                            refine evq (fun w' hw => rn_load rfl rfl (run_loadVarA T24 rfl (a_7.step (hp.stp hw)))) ?_
                            obtain ⟨x1000232, q1000233, q1000230⟩ := bind_some q1000230
                            refine evq_index rfl rfl rfl Try.underlying28 T26 r1000160 q1000233 ?_
                            intro p1000234 c1000235 d1000236 a1000237
                            obtain rfl := dCell_o d1000236
                            refine evq (fun w' hw => rn_load rfl rfl (run_loadVarA T26 rfl (a1000237.step (hp.stp hw)))) ?_
                            obtain ⟨x1000238, q1000239, q1000230⟩ := bind_some q1000230
                            refine evq_call rfl rfl C10 (fun w' hw => ((base_At_ok n) _ _  (Plan.mk x_0.W x_0.H x_0.Cells) v_1 (r_2.step (hp.stp hw)) (Cell.mk x1000232.X x1000232.Y) (hp.ext hw).imm _ q1000239).mono fun _ _ ⟨e, hc⟩ => ⟨e, hw.trans hc⟩) ?_
                            intro w1000240 hc
                            have hs := hp.stp hc
                            replace hp := hp.ext hc
                            replace a_7 := a_7.step hs
                            replace r_2 := r_2.step hs
                            replace a_b := a_b.step hs
                            replace r_s := r_s.step hs
                            replace r_z := r_z.step hs
                            replace r_16 := r_16.step hs
                            replace o1000154 := o1000154.step hs
                            replace r1000160 := r1000160.step hs
                            replace a1000237 := a1000237.step hs
                            obtain rfl := Option.some.inj q1000230
                            exact ⟨(x1000238 == 0), (.c rfl (.c rfl (.c rfl (.c rfl (.c rfl (.c rfl (.c rfl (.c rfl (.c rfl (.c rfl .n)))))))))), rfl, hp, r_2, a_7, a_b, r_s, r_z, r_16, o1000154, r1000160⟩
                        ·
                          rintro x1000227 w1000228 ⟨hy, hp, r_2, a_7, a_b, r_s, r_z, r_16, o1000154, r1000160⟩
                          replace hy := hy.symm
                          subst hy
                          apply go
                          exact ⟨_, (Option.some.inj q1000215).symm, (), (.c rfl (.c rfl (.c rfl (.c rfl (.c rfl (.c rfl (.c rfl (.c rfl (.c rfl (.c rfl .n)))))))))), ⟨hp, r_2, a_7, a_b, r_s, r_z, r_16, o1000154, r1000160⟩⟩
                      ·
                        have q1000215 := cond_f q1000215 hc
                        apply go
                        have q1000241 := congrArg some (q1000216 _ (Option.some.inj q1000215).symm)
                        obtain rfl := Option.some.inj q1000241
                        exact ⟨((upd x_1s (IntKind.i64.wrap ((IntKind.i64.wrap (x1000131.Y * x_0.W)) + x1000131.X)) true), x1000185, e1000153, I1000159), (.c rfl (.c rfl (.c rfl (.c rfl (.c rfl (.c rfl (.c rfl (.c rfl .n)))))))), rfl, hp, r_2, a_7, a_b, r_s, r_z, r_16, o1000154⟩
                  ·
                    rintro ⟨x1000122, x1000126, e1000124, I1000127⟩ w1000128 ⟨hy, hp, r_2, a_7, a_b, r_s, r_z, r_16, o1000125⟩
                    replace hy := hy.symm
                    subst hy
                    apply go
                    exact ⟨_, (Option.some.inj q1000010).symm, (e1000124, I1000127), (.c rfl (.c rfl (.c rfl (.c rfl (.c rfl (.c rfl (.c rfl (.c rfl .n)))))))), ⟨hp, r_2, a_7, a_b, r_s, r_z, r_16, o1000125⟩⟩
                ·
                  have q1000010 := cond_f q1000010 hc
                  apply go
                  have q1000242 := congrArg some (q1000011 _ (Option.some.inj q1000010).symm)
                  obtain rfl := Option.some.inj q1000242
                  exact ⟨(x_1s, x_1t, e_1v, I_1w), (.c rfl (.c rfl (.c rfl (.c rfl (.c rfl (.c rfl .n)))))), rfl, hp, r_2, a_7, a_b, r_z, r_16, o_1x⟩
              ·
                rintro ⟨x_1y, x_1z, e_20, I_21⟩ w_22 ⟨hy, hp, r_2, a_7, a_b, r_z, r_16, o_23⟩
                replace hy := hy.symm
                subst hy
                obtain ⟨y1000297, q1000298, h⟩ := bind_some h
                refine W.cut (γ := Unit) (fun _ => [(2, (.pointer (some (p_4)))), (3, (.pointer (some (p_8)))), (7, v_y), (11, v_1m), (12, (.bool x_1z))]) (fun _ w' => y1000297 = .go () ∧ Hp ⟨w0, I0, []⟩ I_21 [e_20] w' ∧ RepS (dI .u8) w' I_21 v_1 x_0.Cells ∧ At w' I_21 p_4 [(.int .i64 x_0.W), (.int .i64 x_0.H), v_1] ∧ At w' I_21 p_8 [(.int .i64 x_3.X), (.int .i64 x_3.Y)] ∧ RepS dGoal w' I_21 v_y x_t ∧ OwnS dB 4 w' I_21 v_1m e_20 x_1y) ?_ ?_
                ·
                  apply go
                  apply go
                  apply go
                  refine W.loop q1000298 (γ := Unit) (fun s _ => [(2, (.pointer (some (p_4)))), (3, (.pointer (some (p_8)))), (7, v_y), (9, v_15), (11, v_1m), (12, (.bool x_1z)), (17, (.int .i64 (s)))]) (fun s _ w' => Hp ⟨w0, I0, []⟩ I_21 [e_20] w' ∧ RepS (dI .u8) w' I_21 v_1 x_0.Cells ∧ At w' I_21 p_4 [(.int .i64 x_0.W), (.int .i64 x_0.H), v_1] ∧ At w' I_21 p_8 [(.int .i64 x_3.X), (.int .i64 x_3.Y)] ∧ RepS dGoal w' I_21 v_y x_t ∧ RepS (dI .i64) w' I_21 v_15 x_10 ∧ OwnS dB 4 w' I_21 v_1m e_20 x_1y) () (.c rfl (.c rfl (.c rfl (.c rfl (.c rfl (.c rfl (.c rfl .n))))))) ⟨hp, r_2, a_7, a_b, r_z, r_16, o_23⟩ ?_
                  rintro x1000314 ⟨⟩ w1000331 y1000332 ⟨hp, r_2, a_7, a_b, r_z, r_16, o_23⟩ q1000333 q1000334
                  unfold top_WholeTour_L15 at q1000333
                  apply go
                  apply go
                  apply go
                  refine ev0 (x_lenO rfl rfl Try.underlying39 o_23) ?_
                  apply go
                  refine sel_of (fun hc => ?_) (fun hc => ?_)
                  ·
                    have q1000333 := cond_t q1000333 hc
                    apply go
                    apply go
                    apply go
                    apply go
                    refine W.quiet (fun w' => Ch [] w1000331 w') MX (by kernel_rfl) (Ch.drew [] w1000331) ?_
                    obtain ⟨x1000335, q1000336, q1000333⟩ := bind_some q1000333
                    refine evq_indexO rfl rfl rfl Try.underlying39 T4 o_23 q1000336 ?_
                    intro g1000337 c1000338 h1000341 d1000339 l1000340
                    refine evq (fun w' hw => rn_load rfl rfl (run_loadVar1 T4 ((hp.ext hw).cellE (i := 0) rfl h1000341 d1000339 (j := 0) rfl))) ?_
                    obtain ⟨x1000343, q1000344, q1000333⟩ := bind_some q1000333
                    refine evq_index rfl rfl rfl Try.underlying35 T3 r_16 q1000344 ?_
                    intro p1000345 c1000346 d1000347 a1000348
                    obtain rfl : c1000346 = [(.int .i64 x1000343)] := d1000347
                    refine evq (fun w' hw => rn_load rfl rfl (run_loadVar1 T3 ((a1000348.step (hp.stp hw)).2 0 _ rfl))) ?_
                    refine evq0 (rn_neB rfl rfl rfl Try.underlying4) ?_
                    intro w1000349 hc
                    have hs := hp.stp hc
                    replace hp := hp.ext hc
                    replace a_7 := a_7.step hs
                    replace r_2 := r_2.step hs
                    replace a_b := a_b.step hs
                    replace r_z := r_z.step hs
                    replace r_16 := r_16.step hs
                    replace o_23 := o_23.step hs
                    apply go
                    refine sel_of (fun hc => ?_) (fun hc => ?_)
                    ·
                      have q1000333 := cond_t q1000333 hc
                      apply go
                      apply go
                      apply go
                      have q1000350 := congrArg some (q1000334 _ (Option.some.inj q1000333).symm)
                      obtain rfl := Option.some.inj q1000350
                      obtain rfl := Option.some.inj h
                      exact ⟨rfl, hp.ch⟩
                    ·
                      have q1000333 := cond_f q1000333 hc
                      apply go
                      apply go
                      exact ⟨_, (Option.some.inj q1000333).symm, (), (.c rfl (.c rfl (.c rfl (.c rfl (.c rfl (.c rfl (.c rfl .n))))))), ⟨hp, r_2, a_7, a_b, r_z, r_16, o_23⟩⟩
                  ·
                    have q1000333 := cond_f q1000333 hc
                    apply go
                    have q1000351 := congrArg some (q1000334 _ (Option.some.inj q1000333).symm)
                    obtain rfl := Option.some.inj q1000351
                    exact ⟨(), (.c rfl (.c rfl (.c rfl (.c rfl (.c rfl .n))))), rfl, hp, r_2, a_7, a_b, r_z, o_23⟩
                ·
                  rintro ⟨⟩ w1000296 ⟨hy, hp, r_2, a_7, a_b, r_z, o_23⟩
                  replace hy := hy.symm
                  subst hy
                  obtain ⟨y1000544, q1000545, h⟩ := bind_some h
                  refine W.cut (γ := (Nat → Prop)) (fun g => [(2, (.pointer (some (p_4)))), (3, (.pointer (some (p_8)))), (7, v_y), (12, (.bool x_1z))]) (fun g w' => y1000544 = .go () ∧ Hp ⟨w0, I0, []⟩ (g) [] w' ∧ RepS (dI .u8) w' (g) v_1 x_0.Cells ∧ At w' (g) p_4 [(.int .i64 x_0.W), (.int .i64 x_0.H), v_1] ∧ At w' (g) p_8 [(.int .i64 x_3.X), (.int .i64 x_3.Y)] ∧ RepS dGoal w' (g) v_y x_t) ?_ ?_
                  ·
                    apply go
                    apply go
                    apply go
                    refine W.loop q1000545 (γ := (Nat → Prop)) (fun s g => [(2, (.pointer (some (p_4)))), (3, (.pointer (some (p_8)))), (7, v_y), (11, v_1m), (12, (.bool x_1z)), (18, (.int .i64 (s)))]) (fun s g w' => Hp ⟨w0, I0, []⟩ (g) [e_20] w' ∧ RepS (dI .u8) w' (g) v_1 x_0.Cells ∧ At w' (g) p_4 [(.int .i64 x_0.W), (.int .i64 x_0.H), v_1] ∧ At w' (g) p_8 [(.int .i64 x_3.X), (.int .i64 x_3.Y)] ∧ RepS dGoal w' (g) v_y x_t ∧ OwnS dB 4 w' (g) v_1m e_20 x_1y) I_21 (.c rfl (.c rfl (.c rfl (.c rfl (.c rfl (.c rfl .n)))))) ⟨hp, r_2, a_7, a_b, r_z, o_23⟩ ?_
                    rintro x1000606 I1000607 w1000670 y1000671 ⟨hp, r_2, a_7, a_b, r_z, o_23⟩ q1000672 q1000673
                    unfold top_WholeTour_L17 at q1000672
                    apply go
                    apply go
                    apply go
                    refine ev0 (rn_len rfl rfl Try.underlying32 r_z) ?_
                    apply go
                    refine sel_of (fun hc => ?_) (fun hc => ?_)
                    ·
                      have q1000672 := cond_t q1000672 hc
                      apply go
                      apply go
                      apply go
                      apply go
                      apply go
                      obtain ⟨x1000674, q1000675, q1000672⟩ := bind_some q1000672
                      refine ev_index rfl rfl rfl Try.underlying32 T43 r_z q1000675 ?_
                      intro p1000676 c1000677 d1000678 a1000679
                      obtain rfl := dGoal_o d1000678
                      refine ev0 (rn_field rfl rfl FO43_0) ?_
                      refine ev (rn_load rfl rfl (run_loadVarA T26 rfl ((a1000679.drop 0).take 2))) ?_
                      refine ev_alloc hp rfl T26 ?_
                      intro g1000680 w1000681 hp hs
                      replace a_7 := a_7.step hs
                      replace r_2 := r_2.step hs
                      replace a_b := a_b.step hs
                      replace r_z := r_z.step hs
                      replace o_23 := o_23.step hs
                      refine ev_storeA hp (i := 0) (off := 0) (vs := [(.int .i64 x1000674.Cell.X), (.int .i64 x1000674.Cell.Y)]) rfl rfl rfl rfl T26 rfl (Nat.le_of_ble_eq_true rfl) (ones_of rfl) ?_
                      intro w1000682 hp hs
                      replace a_7 := a_7.step hs
                      replace r_2 := r_2.step hs
                      replace a_b := a_b.step hs
                      replace r_z := r_z.step hs
                      replace o_23 := o_23.step hs
                      apply go
                      apply go
                      refine ev (rn_load rfl rfl (run_loadVarA T24 rfl a_7)) ?_
                      refine ev (rn_load rfl rfl (run_loadVarA T26 rfl a_b)) ?_
                      refine ev (rn_load rfl rfl (run_loadVarA T26 rfl (hp.at_ (i := 0) rfl))) ?_
                      obtain ⟨⟨x1000683, x1000684, x1000685⟩, q1000686, q1000672⟩ := bind_some q1000672
                      refine ev_call rfl rfl C11 (((path_Find_ok n) _ _  (Plan.mk x_0.W x_0.H x_0.Cells) v_1 r_2 (Cell.mk x_3.X x_3.Y) (Cell.mk x1000674.Cell.X x1000674.Cell.Y) hp.imm _ q1000686).mono ?_)
                      rintro _ w1000687 ⟨I1000688, v1000689, hv, hq, r1000690⟩
                      replace hv := hv.symm
                      subst hv
                      have hs := hq.st
                      have hp := hp.join0 hq
                      replace a_7 := a_7.step hs
                      replace r_2 := r_2.step hs
                      replace a_b := a_b.step hs
                      replace r_z := r_z.step hs
                      replace o_23 := o_23.step hs
                      obtain ⟨y1000712, q1000713, q1000672⟩ := bind_some q1000672
                      refine W.cut (γ := Bool) (fun g => [(2, (.pointer (some (p_4)))), (3, (.pointer (some (p_8)))), (7, v_y), (11, v_1m), (12, (.bool x_1z)), (18, (.int .i64 x1000606)), (227, (.bool (g)))]) (fun g w' => y1000712 = (g) ∧ w1000687 = w') ?_ ?_
                      ·
                        apply go
                        refine sel_of (fun hc => ?_) (fun hc => ?_)
                        ·
                          have q1000713 := cond_t q1000713 hc
                          obtain rfl := Option.some.inj q1000713
                          exact ⟨true, (.c rfl (.c rfl (.c rfl (.c rfl (.c rfl (.c rfl (.c rfl .n))))))), rfl, rfl⟩
                        ·
                          have q1000713 := cond_f q1000713 hc
                          obtain ⟨x1000714, q1000715, q1000713⟩ := bind_some q1000713
                          refine ev_index rfl rfl rfl Try.underlying32 T43 r_z q1000715 ?_
                          intro p1000716 c1000717 d1000718 a1000719
                          obtain rfl := dGoal_o d1000718
                          refine ev0 (rn_field rfl rfl FO43_1) ?_
                          refine ev (rn_load rfl rfl (run_loadVar1 T3 (a1000719.2 2 _ rfl))) ?_
                          refine sel_of (fun hc => ?_) (fun hc => ?_)
                          ·
                            have q1000713 := cond_t q1000713 hc
                            obtain rfl := Option.some.inj q1000713
                            exact ⟨true, (.c rfl (.c rfl (.c rfl (.c rfl (.c rfl (.c rfl (.c rfl .n))))))), rfl, rfl⟩
                          ·
                            have q1000713 := cond_f q1000713 hc
                            refine ev0 (rn_field rfl rfl FO26_1) ?_
                            refine ev (rn_load rfl rfl (run_loadVar1 T3 (hp.cell (i := 0) (off := 1) rfl rfl))) ?_
                            refine ev0 (rn_field rfl rfl FO24_0) ?_
                            refine ev (rn_load rfl rfl (run_loadVar1 T3 (a_7.2 0 _ rfl))) ?_
                            refine ev0 (rn_field rfl rfl FO26_0) ?_
                            refine ev (rn_load rfl rfl (run_loadVar1 T3 (hp.cell (i := 0) (off := 0) rfl rfl))) ?_
                            obtain ⟨x1000720, q1000721, q1000713⟩ := bind_some q1000713
                            refine ev_indexO rfl rfl rfl Try.underlying39 T4 o_23 q1000721 ?_
                            intro g1000722 c1000723 h1000726 d1000724 l1000725
                            refine ev (rn_load rfl rfl (run_loadVar1 T4 (hp.cellE (i := 1) rfl h1000726 d1000724 (j := 0) rfl))) ?_
                            refine sel_of (fun hc => ?_) (fun hc => ?_)
                            ·
                              have q1000713 := cond_t q1000713 hc
                              obtain rfl := Option.some.inj q1000713
                              exact ⟨true, (.c rfl (.c rfl (.c rfl (.c rfl (.c rfl (.c rfl (.c rfl .n))))))), rfl, rfl⟩
                            ·
                              have q1000713 := cond_f q1000713 hc
                              refine sel_of (fun hc => ?_) (fun hc => ?_)
                              ·
                                have q1000713 := cond_t q1000713 hc
                                obtain ⟨x1000728, q1000729, q1000713⟩ := bind_some q1000713
                                refine ev_index rfl rfl rfl Try.underlying32 T43 r_z q1000729 ?_
                                intro p1000730 c1000731 d1000732 a1000733
                                obtain rfl := dGoal_o d1000732
                                refine ev0 (rn_field rfl rfl FO43_1) ?_
                                refine ev (rn_load rfl rfl (run_loadVar1 T3 (a1000733.2 2 _ rfl))) ?_
                                obtain rfl := Option.some.inj q1000713
                                exact ⟨(decide (x1000728.Cost > x1000684)), (.c rfl (.c rfl (.c rfl (.c rfl (.c rfl (.c rfl (.c rfl .n))))))), rfl, rfl⟩
                              ·
                                have q1000713 := cond_f q1000713 hc
                                obtain rfl := Option.some.inj q1000713
                                exact ⟨false, (.c rfl (.c rfl (.c rfl (.c rfl (.c rfl (.c rfl (.c rfl .n))))))), rfl, rfl⟩
                      ·
                        rintro x1000711 _ ⟨hy, rfl⟩
                        replace hy := hy.symm
                        subst hy
                        apply go
                        refine sel_of (fun hc => ?_) (fun hc => ?_)
                        ·
                          have q1000672 := cond_t q1000672 hc
                          apply go
                          apply go
                          apply go
                          have q1000734 := congrArg some (q1000673 _ (Option.some.inj q1000672).symm)
                          obtain rfl := Option.some.inj q1000734
                          obtain rfl := Option.some.inj h
                          exact ⟨rfl, hp.ch⟩
                        ·
                          have q1000672 := cond_f q1000672 hc
                          apply go
                          apply go
                          have hp := hp.sel [1] (by decide)
                          exact ⟨_, (Option.some.inj q1000672).symm, I1000688, (.c rfl (.c rfl (.c rfl (.c rfl (.c rfl (.c rfl .n)))))), ⟨hp, r_2, a_7, a_b, r_z, o_23⟩⟩
                    ·
                      have q1000672 := cond_f q1000672 hc
                      apply go
                      have q1000735 := congrArg some (q1000673 _ (Option.some.inj q1000672).symm)
                      obtain rfl := Option.some.inj q1000735
                      have hp := hp.sel [] (by decide)
                      exact ⟨I1000607, (.c rfl (.c rfl (.c rfl (.c rfl .n)))), rfl, hp, r_2, a_7, a_b, r_z⟩
                  ·
                    rintro I1000542 w1000543 ⟨hy, hp, r_2, a_7, a_b, r_z⟩
                    replace hy := hy.symm
                    subst hy
                    apply go
                    apply go
                    refine ev (rn_load rfl rfl (run_loadVarA T24 rfl a_7)) ?_
                    refine ev (rn_load rfl rfl (run_loadVarA T26 rfl a_b)) ?_
                    obtain ⟨⟨x1000736, x1000737⟩, q1000738, h⟩ := bind_some h
                    refine ev_call rfl rfl C12 (((frontier_Done_ok n) _ _  (Plan.mk x_0.W x_0.H x_0.Cells) v_1 r_2 (Cell.mk x_3.X x_3.Y) hp.imm _ q1000738).mono ?_)
                    rintro _ w1000739 ⟨rfl, hc⟩
                    have hs := hp.stp hc
                    replace hp := hp.ext hc
                    replace r_z := r_z.step hs
                    obtain ⟨y1000741, q1000742, h⟩ := bind_some h
                    refine W.cut (γ := Bool) (fun g => [(4, (.bool (g)))]) (fun g w' => y1000741 = (g) ∧ w1000739 = w') ?_ ?_
                    ·
                      apply go
                      refine sel_of (fun hc => ?_) (fun hc => ?_)
                      ·
                        have q1000742 := cond_t q1000742 hc
                        refine ev0 (rn_eqB rfl rfl rfl Try.underlying4) ?_
                        refine sel_of (fun hc => ?_) (fun hc => ?_)
                        ·
                          have q1000742 := cond_t q1000742 hc
                          refine ev0 (rn_len rfl rfl Try.underlying32 r_z) ?_
                          refine ev0 (rn_eqB rfl rfl rfl Try.underlying4) ?_
                          obtain rfl := Option.some.inj q1000742
                          exact ⟨(x1000736 == ((x_t.length : Int) == 0)), (.c rfl .n), rfl, rfl⟩
                        ·
                          have q1000742 := cond_f q1000742 hc
                          obtain rfl := Option.some.inj q1000742
                          exact ⟨false, (.c rfl .n), rfl, rfl⟩
                      ·
                        have q1000742 := cond_f q1000742 hc
                        obtain rfl := Option.some.inj q1000742
                        exact ⟨false, (.c rfl .n), rfl, rfl⟩
                    ·
                      rintro x1000740 _ ⟨hy, rfl⟩
                      replace hy := hy.symm
                      subst hy
                      apply go
                      obtain rfl := Option.some.inj h
                      exact ⟨rfl, hp.ch⟩

end Go.Proofs.Ytcdboppghnchpaa
