/-
  Each function of the program computes the plain function of its name.
-/
import Derived.Test.YtknnmbcaoekgmaaFactsA
import Derived.Test.YtknnmbcaoekgmaaWalkA
namespace Go.Proofs.Ytknnmbcaoekgmaa
open Go Go.Proofs.Ytknnmbcaoekgmaa.Gw Go.RowKit
set_option linter.unusedVariables false
attribute [local irreducible] Ev EvQ EvS EvH
def law41_TreeHalts_S (f : Node → (List Input) → Option Bool) : Prop := ∀ (w0 : World) (I0 : Nat → Prop) (x_0 : Node) (v_1 : Value) (r_2 : RepS dNode w0 I0 v_1 x_0.Kids) (x_3 : (List Input)) (v_4 : Value) (r_5 : RepS dInput w0 I0 v_4 x_3) (hI : ∀ g, I0 g → g < w0.heap.size) (r : Bool), f x_0 x_3 = some r →
    Ret Try.prog 6 #[(.agg #[(.int .i64 x_0.Kind), (.int .i64 x_0.Name), (.int .i64 x_0.Count), v_1]), v_4] w0 fun v w1 => v = (.bool r) ∧ Ch [] w0 w1
set_option maxHeartbeats 6400000 in
theorem law41_TreeHalts_ok (n : Nat) : law41_TreeHalts_S (law41_TreeHalts n) := by
  intro w0 I0 x_0 v_1 r_2 x_3 v_4 r_5 hI r h
  unfold law41_TreeHalts at h
  refine enter Try.func6 rfl (Nat.le_of_ble_eq_true rfl) ?_
  have hp : Hp ⟨w0, I0, []⟩ I0 [] w0 := Hp.start hI
  apply go
  apply go
  refine ev_boxI hp rfl rfl ?_
  intro p_6 I_7 w_8 hp hs a_9
  replace r_5 := r_5.step hs
  replace r_2 := r_2.step hs
  apply go
  obtain ⟨y_a, q_b, h⟩ := bind_some h
  refine W.cut (γ := Bool) (fun g => [(1, v_4), (2, (.pointer (some (p_6)))), (27, (.bool (g)))]) (fun g w' => y_a = (g) ∧ Hp ⟨w0, I0, []⟩ I_7 [] w' ∧ RepS dInput w' I_7 v_4 x_3 ∧ RepS dNode w' I_7 v_1 x_0.Kids ∧ At w' I_7 p_6 [(.int .i64 x_0.Kind), (.int .i64 x_0.Name), (.int .i64 x_0.Count), v_1]) ?_ ?_
  ·
    apply go
    obtain ⟨x_c, q_d, q_b⟩ := bind_some q_b
    refine ev_call rfl rfl C9 (((law41_awake_ok n) _ _   hp.imm _ q_d).mono ?_)
    rintro _ w_e ⟨rfl, hc⟩
    have hs := hp.stp hc
    replace hp := hp.ext hc
    replace r_5 := r_5.step hs
    replace a_9 := a_9.step hs
    replace r_2 := r_2.step hs
    refine sel_of (fun hc => ?_) (fun hc => ?_)
    ·
      have q_b := cond_t q_b hc
      obtain rfl := Option.some.inj q_b
      exact ⟨true, (.c rfl (.c rfl (.c rfl .n))), rfl, hp, r_5, r_2, a_9⟩
    ·
      have q_b := cond_f q_b hc
      refine ev (rn_load rfl rfl (run_loadVarA T24 rfl a_9)) ?_
      obtain ⟨x_f, q_g, q_b⟩ := bind_some q_b
      refine ev_call rfl rfl C15 (((law41_few_ok n) _ _  (Node.mk x_0.Kind x_0.Name x_0.Count x_0.Kids) v_1 r_2 hp.imm _ q_g).mono ?_)
      rintro _ w_h ⟨rfl, hc⟩
      have hs := hp.stp hc
      replace hp := hp.ext hc
      replace r_5 := r_5.step hs
      replace a_9 := a_9.step hs
      replace r_2 := r_2.step hs
      refine sel_of (fun hc => ?_) (fun hc => ?_)
      ·
        have q_b := cond_t q_b hc
        obtain rfl := Option.some.inj q_b
        exact ⟨true, (.c rfl (.c rfl (.c rfl .n))), rfl, hp, r_5, r_2, a_9⟩
      ·
        have q_b := cond_f q_b hc
        obtain ⟨x_i, q_j, q_b⟩ := bind_some q_b
        refine ev_call rfl rfl C16 (((law41_short_ok n) _ _  x_3 v_4 r_5 hp.imm _ q_j).mono ?_)
        rintro _ w_k ⟨rfl, hc⟩
        have hs := hp.stp hc
        replace hp := hp.ext hc
        replace r_5 := r_5.step hs
        replace a_9 := a_9.step hs
        replace r_2 := r_2.step hs
        obtain rfl := Option.some.inj q_b
        exact ⟨(!x_i), (.c rfl (.c rfl (.c rfl .n))), rfl, hp, r_5, r_2, a_9⟩
  ·
    rintro x_l w_m ⟨hy, hp, r_5, r_2, a_9⟩
    replace hy := hy.symm
    subst hy
    apply go
    refine sel_of (fun hc => ?_) (fun hc => ?_)
    ·
      have h := cond_t h hc
      apply go
      apply go
      obtain ⟨x_n, q_o, h⟩ := bind_some h
      refine ev_call rfl rfl C9 (((law41_awake_ok n) _ _   hp.imm _ q_o).mono ?_)
      rintro _ w_p ⟨rfl, hc⟩
      have hs := hp.stp hc
      replace hp := hp.ext hc
      apply go
      obtain rfl := Option.some.inj h
      exact ⟨rfl, hp.ch⟩
    ·
      have h := cond_f h hc
      apply go
      apply go
      apply go
      refine ev (rn_load rfl rfl (run_loadVarA T24 rfl a_9)) ?_
      obtain ⟨⟨x_q, x_r⟩, q_s, h⟩ := bind_some h
      refine ev_call rfl rfl C14 (((tree_New_ok n) _ _  (Node.mk x_0.Kind x_0.Name x_0.Count x_0.Kids) v_1 r_2 hp.imm _ q_s).mono ?_)
      rintro _ w_t ⟨I_u, v_v, F_w, hv, hq17775, q_x⟩
      replace hv := hv.symm
      subst hv
      rcases x_q with _ | x_y
      ·
        obtain ⟨rfl, rfl⟩ := q_x
        have hs := hq17775.st
        have hp := hp.join0 hq17775
        replace r_5 := r_5.step hs
        replace a_9 := a_9.step hs
        replace r_2 := r_2.step hs
        apply go
        apply go
        apply go
        apply go
        refine sel_of (fun hc => ?_) (fun hc => ?_)
        ·
          have h := cond_t h hc
          apply go
          apply go
          refine ev (rn_load rfl rfl (run_loadVarA T24 rfl a_9)) ?_
          obtain ⟨x_z, q_10, h⟩ := bind_some h
          refine ev_call rfl rfl C13 (((ref41_Valid_ok n) _ _  (Node.mk x_0.Kind x_0.Name x_0.Count x_0.Kids) v_1 r_2 hp.imm _ q_10).mono ?_)
          rintro _ w_11 ⟨rfl, hc⟩
          have hs := hp.stp hc
          replace hp := hp.ext hc
          apply go
          obtain rfl := Option.some.inj h
          exact ⟨rfl, hp.ch⟩
        ·
          have h := cond_f h hc
          apply go
          obtain ⟨y_12, q_13, h⟩ := bind_some h
          refine W.cut (γ := (Nat → Prop)) (fun g => []) (fun g w' => y_12 = .go () ∧ Hp ⟨w0, I0, []⟩ (g) [] w') ?_ ?_
          ·
            apply go
            apply go
            apply go
            refine W.loop q_13 (γ := (Nat → Prop)) (fun s g => [(1, v_4), (5, (.pointer none)), (7, (.int .i64 (s)))]) (fun s g w' => Hp ⟨w0, I0, []⟩ (g) [] w' ∧ RepS dInput w' (g) v_4 x_3) I_u (.c rfl (.c rfl (.c rfl .n))) ⟨hp, r_5⟩ ?_
            rintro x_14 I_15 w_16 y_17 ⟨hp, r_5⟩ q_18 q_19
            unfold law41_TreeHalts_L51 at q_18
            apply go
            apply go
            apply go
            refine ev0 (rn_len rfl rfl Try.underlying32 r_5) ?_
            apply go
            refine sel_of (fun hc => ?_) (fun hc => ?_)
            ·
              have q_18 := cond_t q_18 hc
              apply go
              obtain ⟨y_1a, q_1b, q_18⟩ := bind_some q_18
              refine W.cut (γ := (Nat → Prop)) (fun g => [(1, v_4), (5, (.pointer none)), (7, (.int .i64 x_14))]) (fun g w' => y_1a = .go () ∧ Hp ⟨w0, I0, []⟩ (g) [] w' ∧ RepS dInput w' (g) v_4 x_3) ?_ ?_
              ·
                apply go
                apply go
                apply go
                obtain ⟨x_1c, q_1d, q_1b⟩ := bind_some q_1b
                refine ev_call rfl rfl C22 (((tree_Runner_Activenil_ok n) _ _   hp.imm _ q_1d).mono ?_)
                rintro _ w_1e ⟨I_1f, v_1g, hv, hq, r_1h⟩
                replace hv := hv.symm
                subst hv
                have hs := hq.st
                have hp := hp.join0 hq
                replace r_5 := r_5.step hs
                apply go
                have hs := hp.stp (Ch.drew [] w_1e)
                have hp := hp.drew
                replace r_5 := r_5.step hs
                replace r_1h := r_1h.step hs
                refine W.held [(0, true), (1, true), (2, true), (3, true), (4, true), (5, true), (6, true), (7, true), (8, true), (9, true), (10, true), (11, false), (12, true), (13, true), (14, true), (15, true), (16, true), (17, true), (18, true)] (Stp I_1f w_1e.drew I_1f) MX (by kernel_rfl) (Stp.refl _ _) ?_
                have hz := Stp.refl I_1f w_1e.drew
                obtain ⟨x_1i, q_1j, q_1b⟩ := bind_some q_1b
                refine evh_index rfl rfl rfl Try.underlying32 T42 r_5 q_1j ?_
                intro p_1k c_1l d_1m a_1n
                obtain ⟨v_1o, v_1p, rfl, r_1q, r_1r⟩ := dInput_o d_1m
                refine evh0 (rn_field rfl rfl FO42_0) ?_
                refine evh (fun w' hw => rn_load rfl rfl (run_loadVar1 T39 ((a_1n.step hw).2 0 _ rfl))) ?_
                obtain ⟨x_1s, q_1t, q_1b⟩ := bind_some q_1b
                refine evh_index rfl rfl rfl Try.underlying32 T42 r_5 q_1t ?_
                intro p_1u c_1v d_1w a_1x
                obtain ⟨v_1y, v_1z, rfl, r_20, r_21⟩ := dInput_o d_1w
                refine evh0 (rn_field rfl rfl FO42_1) ?_
                refine evh (fun w' hw => rn_load rfl rfl (run_loadVar1 T40 ((a_1x.step hw).2 1 _ rfl))) ?_
                obtain ⟨⟨x_22, x_23, x_24⟩, q_25, q_1b⟩ := bind_some q_1b
                refine ev_call rfl rfl C21 (((tree_Runner_Ticknil_ok n) _ _  x_1i.Actions v_1o r_1q x_1s.Tests v_1z r_21 hp.imm _ q_25).mono ?_)
                rintro _ w_26 ⟨I_27, v_28, v_29, hv, hq, r_2a, r_2b⟩
                replace hv := hv.symm
                subst hv
                have hs := hq.st
                have hp := hp.join0 hq
                replace hz := hz.trans hs
                replace r_5 := r_5.step hs
                replace r_1h := r_1h.step hs
                refine ⟨Stp I_27 w_26 I_27, Stp.refl _ _, fun x hx => hz.held hx, ?_⟩
                have hz := Stp.refl I_27 w_26
                apply go
                apply go
                obtain ⟨x_2c, q_2d, q_1b⟩ := bind_some q_1b
                refine ev_call rfl rfl C22 (((tree_Runner_Activenil_ok n) _ _   hp.imm _ q_2d).mono ?_)
                rintro _ w_2e ⟨I_2f, v_2g, hv, hq, r_2h⟩
                replace hv := hv.symm
                subst hv
                have hs := hq.st
                have hp := hp.join0 hq
                replace r_5 := r_5.step hs
                replace r_1h := r_1h.step hs
                replace r_2a := r_2a.step hs
                replace r_2b := r_2b.step hs
                apply go
                obtain ⟨y_2i, q_2j, q_1b⟩ := bind_some q_1b
                refine W.cut (γ := Bool) (fun g => [(1, v_4), (5, (.pointer none)), (7, (.int .i64 x_14)), (8, v_1g), (10, v_28), (11, v_29), (12, v_2g), (79, (.bool (g)))]) (fun g w' => y_2i = (g) ∧ w_2e = w') ?_ ?_
                ·
                  apply go
                  refine sel_of (fun hc => ?_) (fun hc => ?_)
                  ·
                    have q_2j := cond_t q_2j hc
                    obtain rfl := Option.some.inj q_2j
                    exact ⟨true, (.c rfl (.c rfl (.c rfl (.c rfl (.c rfl (.c rfl (.c rfl (.c rfl .n)))))))), rfl, rfl⟩
                  ·
                    have q_2j := cond_f q_2j hc
                    refine sel_of (fun hc => ?_) (fun hc => ?_)
                    ·
                      have q_2j := cond_t q_2j hc
                      obtain rfl := Option.some.inj q_2j
                      exact ⟨true, (.c rfl (.c rfl (.c rfl (.c rfl (.c rfl (.c rfl (.c rfl (.c rfl .n)))))))), rfl, rfl⟩
                    ·
                      have q_2j := cond_f q_2j hc
                      refine sel_of (fun hc => ?_) (fun hc => ?_)
                      ·
                        have q_2j := cond_t q_2j hc
                        refine ev0 (rn_len rfl rfl Try.underlying39 r_2h) ?_
                        obtain rfl := Option.some.inj q_2j
                        exact ⟨(decide ((x_2c.length : Int) > 0)), (.c rfl (.c rfl (.c rfl (.c rfl (.c rfl (.c rfl (.c rfl (.c rfl .n)))))))), rfl, rfl⟩
                      ·
                        have q_2j := cond_f q_2j hc
                        obtain rfl := Option.some.inj q_2j
                        exact ⟨false, (.c rfl (.c rfl (.c rfl (.c rfl (.c rfl (.c rfl (.c rfl (.c rfl .n)))))))), rfl, rfl⟩
                ·
                  rintro x_2k _ ⟨hy, rfl⟩
                  replace hy := hy.symm
                  subst hy
                  apply go
                  refine sel_of (fun hc => ?_) (fun hc => ?_)
                  ·
                    have q_1b := cond_t q_1b hc
                    apply go
                    apply go
                    apply go
                    obtain rfl := Option.some.inj q_1b
                    have q_2l := congrArg some (q_19 _ (Option.some.inj q_18).symm)
                    obtain rfl := Option.some.inj q_2l
                    obtain rfl := Option.some.inj h
                    exact ⟨rfl, hp.ch⟩
                  ·
                    have q_1b := cond_f q_1b hc
                    apply go
                    obtain ⟨y_2m, q_2n, q_1b⟩ := bind_some q_1b
                    refine W.cut (γ := Unit) (fun _ => [(1, v_4), (5, (.pointer none)), (7, (.int .i64 x_14)), (8, v_1g), (10, v_28), (11, v_29)]) (fun _ w' => y_2m = .go () ∧ Hp ⟨w0, I0, []⟩ I_2f [] w' ∧ RepS dInput w' I_2f v_4 x_3 ∧ RepS (dI .i64) w' I_2f v_1g x_1c ∧ RepS (dI .i64) w' I_2f v_28 x_23 ∧ RepS (dI .i64) w' I_2f v_29 x_24) ?_ ?_
                    ·
                      apply go
                      apply go
                      apply go
                      refine W.loop q_2n (γ := Unit) (fun s _ => [(1, v_4), (5, (.pointer none)), (7, (.int .i64 x_14)), (8, v_1g), (10, v_28), (11, v_29), (12, v_2g), (13, (.int .i64 (s)))]) (fun s _ w' => Hp ⟨w0, I0, []⟩ I_2f [] w' ∧ RepS dInput w' I_2f v_4 x_3 ∧ RepS (dI .i64) w' I_2f v_1g x_1c ∧ RepS (dI .i64) w' I_2f v_28 x_23 ∧ RepS (dI .i64) w' I_2f v_29 x_24 ∧ RepS (dI .i64) w' I_2f v_2g x_2c) () (.c rfl (.c rfl (.c rfl (.c rfl (.c rfl (.c rfl (.c rfl (.c rfl .n)))))))) ⟨hp, r_5, r_1h, r_2a, r_2b, r_2h⟩ ?_
                      rintro x_2o ⟨⟩ w_2p y_2q ⟨hp, r_5, r_1h, r_2a, r_2b, r_2h⟩ q_2r q_2s
                      unfold law41_TreeHalts_L58 at q_2r
                      apply go
                      apply go
                      apply go
                      refine ev0 (rn_len rfl rfl Try.underlying39 r_2h) ?_
                      apply go
                      refine sel_of (fun hc => ?_) (fun hc => ?_)
                      ·
                        have q_2r := cond_t q_2r hc
                        apply go
                        apply go
                        apply go
                        obtain ⟨y_2t, q_2u, q_2r⟩ := bind_some q_2r
                        refine W.cut (γ := Bool) (fun g => [(1, v_4), (5, (.pointer none)), (7, (.int .i64 x_14)), (8, v_1g), (10, v_28), (11, v_29), (12, v_2g), (13, (.int .i64 x_2o)), (100, (.bool (g)))]) (fun g w' => y_2t = (g) ∧ Hp ⟨w0, I0, []⟩ I_2f [] w' ∧ RepS dInput w' I_2f v_4 x_3 ∧ RepS (dI .i64) w' I_2f v_1g x_1c ∧ RepS (dI .i64) w' I_2f v_28 x_23 ∧ RepS (dI .i64) w' I_2f v_29 x_24 ∧ RepS (dI .i64) w' I_2f v_2g x_2c) ?_ ?_
                        ·
                          apply go
                          obtain ⟨x_2v, q_2w, q_2u⟩ := bind_some q_2u
                          refine ev_index rfl rfl rfl Try.underlying39 T3 r_2h q_2w ?_
                          intro p_2x c_2y d_2z a_30
                          obtain rfl : c_2y = [(.int .i64 x_2v)] := d_2z
                          refine ev (rn_load rfl rfl (run_loadVar1 T3 (a_30.2 0 _ rfl))) ?_
                          obtain ⟨x_31, q_32, q_2u⟩ := bind_some q_2u
                          refine ev_call rfl rfl C23 (((law41_in_ok n) _ _  x_23 v_28 r_2a x_2v hp.imm _ q_32).mono ?_)
                          rintro _ w_33 ⟨rfl, hc⟩
                          have hs := hp.stp hc
                          replace hp := hp.ext hc
                          replace r_5 := r_5.step hs
                          replace r_1h := r_1h.step hs
                          replace r_2a := r_2a.step hs
                          replace r_2b := r_2b.step hs
                          replace r_2h := r_2h.step hs
                          refine sel_of (fun hc => ?_) (fun hc => ?_)
                          ·
                            have q_2u := cond_t q_2u hc
                            obtain rfl := Option.some.inj q_2u
                            exact ⟨true, (.c rfl (.c rfl (.c rfl (.c rfl (.c rfl (.c rfl (.c rfl (.c rfl (.c rfl .n))))))))), rfl, hp, r_5, r_1h, r_2a, r_2b, r_2h⟩
                          ·
                            have q_2u := cond_f q_2u hc
                            obtain ⟨x_34, q_35, q_2u⟩ := bind_some q_2u
                            refine ev_index rfl rfl rfl Try.underlying39 T3 r_2h q_35 ?_
                            intro p_36 c_37 d_38 a_39
                            obtain rfl : c_37 = [(.int .i64 x_34)] := d_38
                            refine ev (rn_load rfl rfl (run_loadVar1 T3 (a_39.2 0 _ rfl))) ?_
                            obtain ⟨x_3a, q_3b, q_2u⟩ := bind_some q_2u
                            refine ev_call rfl rfl C23 (((law41_in_ok n) _ _  x_24 v_29 r_2b x_34 hp.imm _ q_3b).mono ?_)
                            rintro _ w_3c ⟨rfl, hc⟩
                            have hs := hp.stp hc
                            replace hp := hp.ext hc
                            replace r_5 := r_5.step hs
                            replace r_1h := r_1h.step hs
                            replace r_2a := r_2a.step hs
                            replace r_2b := r_2b.step hs
                            replace r_2h := r_2h.step hs
                            replace a_39 := a_39.step hs
                            obtain rfl := Option.some.inj q_2u
                            exact ⟨x_3a, (.c rfl (.c rfl (.c rfl (.c rfl (.c rfl (.c rfl (.c rfl (.c rfl (.c rfl .n))))))))), rfl, hp, r_5, r_1h, r_2a, r_2b, r_2h⟩
                        ·
                          rintro x_3d w_3e ⟨hy, hp, r_5, r_1h, r_2a, r_2b, r_2h⟩
                          replace hy := hy.symm
                          subst hy
                          apply go
                          refine sel_of (fun hc => ?_) (fun hc => ?_)
                          ·
                            have q_2r := cond_t q_2r hc
                            apply go
                            apply go
                            apply go
                            have q_3f := congrArg some (q_2s _ (Option.some.inj q_2r).symm)
                            obtain rfl := Option.some.inj q_3f
                            obtain rfl := Option.some.inj q_1b
                            have q_3g := congrArg some (q_19 _ (Option.some.inj q_18).symm)
                            obtain rfl := Option.some.inj q_3g
                            obtain rfl := Option.some.inj h
                            exact ⟨rfl, hp.ch⟩
                          ·
                            have q_2r := cond_f q_2r hc
                            apply go
                            apply go
                            exact ⟨_, (Option.some.inj q_2r).symm, (), (.c rfl (.c rfl (.c rfl (.c rfl (.c rfl (.c rfl (.c rfl (.c rfl .n)))))))), ⟨hp, r_5, r_1h, r_2a, r_2b, r_2h⟩⟩
                      ·
                        have q_2r := cond_f q_2r hc
                        apply go
                        have q_3h := congrArg some (q_2s _ (Option.some.inj q_2r).symm)
                        obtain rfl := Option.some.inj q_3h
                        exact ⟨(), (.c rfl (.c rfl (.c rfl (.c rfl (.c rfl (.c rfl .n)))))), rfl, hp, r_5, r_1h, r_2a, r_2b⟩
                    ·
                      rintro ⟨⟩ w_3i ⟨hy, hp, r_5, r_1h, r_2a, r_2b⟩
                      replace hy := hy.symm
                      subst hy
                      obtain ⟨y_3j, q_3k, q_1b⟩ := bind_some q_1b
                      refine W.cut (γ := Unit) (fun _ => [(1, v_4), (5, (.pointer none)), (7, (.int .i64 x_14)), (8, v_1g), (10, v_28), (11, v_29)]) (fun _ w' => y_3j = .go () ∧ Hp ⟨w0, I0, []⟩ I_2f [] w' ∧ RepS dInput w' I_2f v_4 x_3 ∧ RepS (dI .i64) w' I_2f v_1g x_1c ∧ RepS (dI .i64) w' I_2f v_28 x_23 ∧ RepS (dI .i64) w' I_2f v_29 x_24) ?_ ?_
                      ·
                        apply go
                        apply go
                        apply go
                        refine W.loop q_3k (γ := Unit) (fun s _ => [(1, v_4), (5, (.pointer none)), (7, (.int .i64 x_14)), (8, v_1g), (10, v_28), (11, v_29), (14, (.int .i64 (s)))]) (fun s _ w' => Hp ⟨w0, I0, []⟩ I_2f [] w' ∧ RepS dInput w' I_2f v_4 x_3 ∧ RepS (dI .i64) w' I_2f v_1g x_1c ∧ RepS (dI .i64) w' I_2f v_28 x_23 ∧ RepS (dI .i64) w' I_2f v_29 x_24) () (.c rfl (.c rfl (.c rfl (.c rfl (.c rfl (.c rfl (.c rfl .n))))))) ⟨hp, r_5, r_1h, r_2a, r_2b⟩ ?_
                        rintro x_3l ⟨⟩ w_3m y_3n ⟨hp, r_5, r_1h, r_2a, r_2b⟩ q_3o q_3p
                        unfold law41_TreeHalts_L60 at q_3o
                        apply go
                        apply go
                        apply go
                        refine ev0 (rn_len rfl rfl Try.underlying39 r_1h) ?_
                        apply go
                        refine sel_of (fun hc => ?_) (fun hc => ?_)
                        ·
                          have q_3o := cond_t q_3o hc
                          apply go
                          apply go
                          apply go
                          obtain ⟨y_3q, q_3r, q_3o⟩ := bind_some q_3o
                          refine W.cut (γ := Bool) (fun g => [(1, v_4), (5, (.pointer none)), (7, (.int .i64 x_14)), (8, v_1g), (10, v_28), (11, v_29), (14, (.int .i64 x_3l)), (122, (.bool (g)))]) (fun g w' => y_3q = (g) ∧ Hp ⟨w0, I0, []⟩ I_2f [] w' ∧ RepS dInput w' I_2f v_4 x_3 ∧ RepS (dI .i64) w' I_2f v_1g x_1c ∧ RepS (dI .i64) w' I_2f v_28 x_23 ∧ RepS (dI .i64) w' I_2f v_29 x_24) ?_ ?_
                          ·
                            apply go
                            obtain ⟨x_3s, q_3t, q_3r⟩ := bind_some q_3r
                            refine ev_index rfl rfl rfl Try.underlying39 T3 r_1h q_3t ?_
                            intro p_3u c_3v d_3w a_3x
                            obtain rfl : c_3v = [(.int .i64 x_3s)] := d_3w
                            refine ev (rn_load rfl rfl (run_loadVar1 T3 (a_3x.2 0 _ rfl))) ?_
                            obtain ⟨x_3y, q_3z, q_3r⟩ := bind_some q_3r
                            refine ev_call rfl rfl C23 (((law41_in_ok n) _ _  x_23 v_28 r_2a x_3s hp.imm _ q_3z).mono ?_)
                            rintro _ w_40 ⟨rfl, hc⟩
                            have hs := hp.stp hc
                            replace hp := hp.ext hc
                            replace r_5 := r_5.step hs
                            replace r_1h := r_1h.step hs
                            replace r_2a := r_2a.step hs
                            replace r_2b := r_2b.step hs
                            refine sel_of (fun hc => ?_) (fun hc => ?_)
                            ·
                              have q_3r := cond_t q_3r hc
                              obtain ⟨x_41, q_42, q_3r⟩ := bind_some q_3r
                              refine ev_index rfl rfl rfl Try.underlying39 T3 r_1h q_42 ?_
                              intro p_43 c_44 d_45 a_46
                              obtain rfl : c_44 = [(.int .i64 x_41)] := d_45
                              refine ev (rn_load rfl rfl (run_loadVar1 T3 (a_46.2 0 _ rfl))) ?_
                              obtain ⟨x_47, q_48, q_3r⟩ := bind_some q_3r
                              refine ev_call rfl rfl C23 (((law41_in_ok n) _ _  x_24 v_29 r_2b x_41 hp.imm _ q_48).mono ?_)
                              rintro _ w_49 ⟨rfl, hc⟩
                              have hs := hp.stp hc
                              replace hp := hp.ext hc
                              replace r_5 := r_5.step hs
                              replace r_1h := r_1h.step hs
                              replace r_2a := r_2a.step hs
                              replace r_2b := r_2b.step hs
                              replace a_46 := a_46.step hs
                              obtain rfl := Option.some.inj q_3r
                              exact ⟨(!x_47), (.c rfl (.c rfl (.c rfl (.c rfl (.c rfl (.c rfl (.c rfl (.c rfl .n)))))))), rfl, hp, r_5, r_1h, r_2a, r_2b⟩
                            ·
                              have q_3r := cond_f q_3r hc
                              obtain rfl := Option.some.inj q_3r
                              exact ⟨false, (.c rfl (.c rfl (.c rfl (.c rfl (.c rfl (.c rfl (.c rfl (.c rfl .n)))))))), rfl, hp, r_5, r_1h, r_2a, r_2b⟩
                          ·
                            rintro x_4a w_4b ⟨hy, hp, r_5, r_1h, r_2a, r_2b⟩
                            replace hy := hy.symm
                            subst hy
                            apply go
                            refine sel_of (fun hc => ?_) (fun hc => ?_)
                            ·
                              have q_3o := cond_t q_3o hc
                              apply go
                              apply go
                              apply go
                              have q_4c := congrArg some (q_3p _ (Option.some.inj q_3o).symm)
                              obtain rfl := Option.some.inj q_4c
                              obtain rfl := Option.some.inj q_1b
                              have q_4d := congrArg some (q_19 _ (Option.some.inj q_18).symm)
                              obtain rfl := Option.some.inj q_4d
                              obtain rfl := Option.some.inj h
                              exact ⟨rfl, hp.ch⟩
                            ·
                              have q_3o := cond_f q_3o hc
                              apply go
                              apply go
                              exact ⟨_, (Option.some.inj q_3o).symm, (), (.c rfl (.c rfl (.c rfl (.c rfl (.c rfl (.c rfl (.c rfl .n))))))), ⟨hp, r_5, r_1h, r_2a, r_2b⟩⟩
                        ·
                          have q_3o := cond_f q_3o hc
                          apply go
                          have q_4e := congrArg some (q_3p _ (Option.some.inj q_3o).symm)
                          obtain rfl := Option.some.inj q_4e
                          exact ⟨(), (.c rfl (.c rfl (.c rfl (.c rfl (.c rfl (.c rfl .n)))))), rfl, hp, r_5, r_1h, r_2a, r_2b⟩
                      ·
                        rintro ⟨⟩ w_4f ⟨hy, hp, r_5, r_1h, r_2a, r_2b⟩
                        replace hy := hy.symm
                        subst hy
                        apply go
                        apply go
                        apply go
                        refine W.loop q_1b (γ := Unit) (fun s _ => [(1, v_4), (5, (.pointer none)), (7, (.int .i64 x_14)), (8, v_1g), (10, v_28), (11, v_29), (15, (.int .i64 (s)))]) (fun s _ w' => Hp ⟨w0, I0, []⟩ I_2f [] w' ∧ RepS dInput w' I_2f v_4 x_3 ∧ RepS (dI .i64) w' I_2f v_1g x_1c ∧ RepS (dI .i64) w' I_2f v_28 x_23 ∧ RepS (dI .i64) w' I_2f v_29 x_24) () (.c rfl (.c rfl (.c rfl (.c rfl (.c rfl (.c rfl (.c rfl .n))))))) ⟨hp, r_5, r_1h, r_2a, r_2b⟩ ?_
                        rintro x_4g ⟨⟩ w_4h y_4i ⟨hp, r_5, r_1h, r_2a, r_2b⟩ q_4j q_4k
                        unfold law41_TreeHalts_L61 at q_4j
                        apply go
                        apply go
                        apply go
                        refine ev0 (rn_len rfl rfl Try.underlying39 r_2b) ?_
                        apply go
                        refine sel_of (fun hc => ?_) (fun hc => ?_)
                        ·
                          have q_4j := cond_t q_4j hc
                          apply go
                          apply go
                          apply go
                          obtain ⟨y_4l, q_4m, q_4j⟩ := bind_some q_4j
                          refine W.cut (γ := Bool) (fun g => [(1, v_4), (5, (.pointer none)), (7, (.int .i64 x_14)), (8, v_1g), (10, v_28), (11, v_29), (15, (.int .i64 x_4g)), (144, (.bool (g)))]) (fun g w' => y_4l = (g) ∧ Hp ⟨w0, I0, []⟩ I_2f [] w' ∧ RepS dInput w' I_2f v_4 x_3 ∧ RepS (dI .i64) w' I_2f v_1g x_1c ∧ RepS (dI .i64) w' I_2f v_28 x_23 ∧ RepS (dI .i64) w' I_2f v_29 x_24) ?_ ?_
                          ·
                            apply go
                            obtain ⟨x_4n, q_4o, q_4m⟩ := bind_some q_4m
                            refine ev_index rfl rfl rfl Try.underlying39 T3 r_2b q_4o ?_
                            intro p_4p c_4q d_4r a_4s
                            obtain rfl : c_4q = [(.int .i64 x_4n)] := d_4r
                            refine ev (rn_load rfl rfl (run_loadVar1 T3 (a_4s.2 0 _ rfl))) ?_
                            obtain ⟨x_4t, q_4u, q_4m⟩ := bind_some q_4m
                            refine ev_call rfl rfl C23 (((law41_in_ok n) _ _  x_1c v_1g r_1h x_4n hp.imm _ q_4u).mono ?_)
                            rintro _ w_4v ⟨rfl, hc⟩
                            have hs := hp.stp hc
                            replace hp := hp.ext hc
                            replace r_5 := r_5.step hs
                            replace r_1h := r_1h.step hs
                            replace r_2a := r_2a.step hs
                            replace r_2b := r_2b.step hs
                            refine sel_of (fun hc => ?_) (fun hc => ?_)
                            ·
                              have q_4m := cond_t q_4m hc
                              obtain ⟨x_4w, q_4x, q_4m⟩ := bind_some q_4m
                              refine ev_index rfl rfl rfl Try.underlying39 T3 r_2b q_4x ?_
                              intro p_4y c_4z d_50 a_51
                              obtain rfl : c_4z = [(.int .i64 x_4w)] := d_50
                              refine ev (rn_load rfl rfl (run_loadVar1 T3 (a_51.2 0 _ rfl))) ?_
                              obtain ⟨x_52, q_53, q_4m⟩ := bind_some q_4m
                              refine ev_call rfl rfl C23 (((law41_in_ok n) _ _  x_23 v_28 r_2a x_4w hp.imm _ q_53).mono ?_)
                              rintro _ w_54 ⟨rfl, hc⟩
                              have hs := hp.stp hc
                              replace hp := hp.ext hc
                              replace r_5 := r_5.step hs
                              replace r_1h := r_1h.step hs
                              replace r_2a := r_2a.step hs
                              replace r_2b := r_2b.step hs
                              replace a_51 := a_51.step hs
                              obtain rfl := Option.some.inj q_4m
                              exact ⟨(!x_52), (.c rfl (.c rfl (.c rfl (.c rfl (.c rfl (.c rfl (.c rfl (.c rfl .n)))))))), rfl, hp, r_5, r_1h, r_2a, r_2b⟩
                            ·
                              have q_4m := cond_f q_4m hc
                              obtain rfl := Option.some.inj q_4m
                              exact ⟨false, (.c rfl (.c rfl (.c rfl (.c rfl (.c rfl (.c rfl (.c rfl (.c rfl .n)))))))), rfl, hp, r_5, r_1h, r_2a, r_2b⟩
                          ·
                            rintro x_55 w_56 ⟨hy, hp, r_5, r_1h, r_2a, r_2b⟩
                            replace hy := hy.symm
                            subst hy
                            apply go
                            refine sel_of (fun hc => ?_) (fun hc => ?_)
                            ·
                              have q_4j := cond_t q_4j hc
                              apply go
                              apply go
                              apply go
                              have q_57 := congrArg some (q_4k _ (Option.some.inj q_4j).symm)
                              obtain rfl := Option.some.inj q_57
                              have q_58 := congrArg some (q_19 _ (Option.some.inj q_18).symm)
                              obtain rfl := Option.some.inj q_58
                              obtain rfl := Option.some.inj h
                              exact ⟨rfl, hp.ch⟩
                            ·
                              have q_4j := cond_f q_4j hc
                              apply go
                              apply go
                              exact ⟨_, (Option.some.inj q_4j).symm, (), (.c rfl (.c rfl (.c rfl (.c rfl (.c rfl (.c rfl (.c rfl .n))))))), ⟨hp, r_5, r_1h, r_2a, r_2b⟩⟩
                        ·
                          have q_4j := cond_f q_4j hc
                          apply go
                          have q_59 := congrArg some (q_4k _ (Option.some.inj q_4j).symm)
                          obtain rfl := Option.some.inj q_59
                          exact ⟨I_2f, (.c rfl (.c rfl (.c rfl .n))), rfl, hp, r_5⟩
              ·
                rintro I_5a w_5b ⟨hy, hp, r_5⟩
                replace hy := hy.symm
                subst hy
                apply go
                exact ⟨_, (Option.some.inj q_18).symm, I_5a, (.c rfl (.c rfl (.c rfl .n))), ⟨hp, r_5⟩⟩
            ·
              have q_18 := cond_f q_18 hc
              apply go
              have q_5c := congrArg some (q_19 _ (Option.some.inj q_18).symm)
              obtain rfl := Option.some.inj q_5c
              exact ⟨I_15, .n, rfl, hp⟩
          ·
            rintro I_5d w_5e ⟨hy, hp⟩
            replace hy := hy.symm
            subst hy
            apply go
            apply go
            apply go
            obtain rfl := Option.some.inj h
            exact ⟨rfl, hp.ch⟩
      ·
        obtain ⟨g_5f, rfl, v_5g, v_5h, e_5i, v_5j, e_5k, rfl, f_5l, o_5m, o_5n⟩ := q_x
        have r_5o := f_5l.imm
        have hs := hq17775.st
        have hp := hp.join0 hq17775
        replace r_5 := r_5.step hs
        replace a_9 := a_9.step hs
        replace r_2 := r_2.step hs
        apply go
        apply go
        apply go
        apply go
        refine sel_of (fun hc => ?_) (fun hc => ?_)
        ·
          have h := cond_t h hc
          apply go
          apply go
          refine ev (rn_load rfl rfl (run_loadVarA T24 rfl a_9)) ?_
          obtain ⟨x_5p, q_5q, h⟩ := bind_some h
          refine ev_call rfl rfl C13 (((ref41_Valid_ok n) _ _  (Node.mk x_0.Kind x_0.Name x_0.Count x_0.Kids) v_1 r_2 hp.imm _ q_5q).mono ?_)
          rintro _ w_5r ⟨rfl, hc⟩
          have hs := hp.stp hc
          replace hp := hp.ext hc
          replace r_5o := r_5o.step hs
          replace o_5m := o_5m.step hs
          replace o_5n := o_5n.step hs
          apply go
          obtain rfl := Option.some.inj h
          exact ⟨rfl, hp.ch⟩
        ·
          have h := cond_f h hc
          apply go
          obtain ⟨y_5s, q_5t, h⟩ := bind_some h
          refine W.cut (γ := (Nat → Prop)) (fun g => []) (fun g w' => y_5s = .go () ∧ Hp ⟨w0, I0, []⟩ (g) [] w') ?_ ?_
          ·
            apply go
            apply go
            apply go
            have hp := hp.perm [1, 2, 0] (by decide)
            refine W.loop q_5t (γ := (Value × Value × Ent × Value × Ent × (Nat → Prop))) (fun s g => [(1, v_4), (5, (.pointer (some ⟨g_5f, 0, none⟩))), (7, (.int .i64 (s.2.2.2)))]) (fun s g w' => Hp ⟨w0, I0, []⟩ (g.2.2.2.2.2) [(g.2.2.1), (g.2.2.2.2.1), some (g_5f, [(g.1), (g.2.1), (g.2.2.2.1)], 61)] w' ∧ RepS dInput w' (g.2.2.2.2.2) v_4 x_3 ∧ RepS dNode_2 w' (g.2.2.2.2.2) (g.1) (s.1) ∧ OwnS (dI .i64) 3 w' (g.2.2.2.2.2) (g.2.1) (g.2.2.1) (s.2.1) ∧ OwnS dB 4 w' (g.2.2.2.2.2) (g.2.2.2.1) (g.2.2.2.2.1) (s.2.2.1)) (v_5g, v_5h, e_5i, v_5j, e_5k, I_u) (.c rfl (.c rfl (.c rfl .n))) ⟨hp, r_5, r_5o, o_5m, o_5n⟩ ?_
            rintro ⟨x_5u, x_5v, x_5w, x_5x⟩ ⟨v_5y, v_5z, e_60, v_61, e_62, I_63⟩ w_64 y_65 ⟨hp, r_5, r_66, o_67, o_68⟩ q_69 q_6a
            unfold law41_TreeHalts_L113 at q_69
            apply go
            apply go
            apply go
            refine ev0 (rn_len rfl rfl Try.underlying32 r_5) ?_
            apply go
            refine sel_of (fun hc => ?_) (fun hc => ?_)
            ·
              have q_69 := cond_t q_69 hc
              apply go
              obtain ⟨y_6b, q_6c, q_69⟩ := bind_some q_69
              refine W.cut (γ := ((List Node_2) × (List Int) × (List Bool) × Value × Value × Ent × Value × Ent × (Nat → Prop))) (fun g => [(1, v_4), (5, (.pointer (some ⟨g_5f, 0, none⟩))), (7, (.int .i64 x_5x))]) (fun g w' => y_6b = .go ((g.1), (g.2.1), (g.2.2.1)) ∧ Hp ⟨w0, I0, []⟩ (g.2.2.2.2.2.2.2.2) [(g.2.2.2.2.2.1), (g.2.2.2.2.2.2.2.1), some (g_5f, [(g.2.2.2.1), (g.2.2.2.2.1), (g.2.2.2.2.2.2.1)], 61)] w' ∧ RepS dInput w' (g.2.2.2.2.2.2.2.2) v_4 x_3 ∧ RepS dNode_2 w' (g.2.2.2.2.2.2.2.2) (g.2.2.2.1) (g.1) ∧ OwnS (dI .i64) 3 w' (g.2.2.2.2.2.2.2.2) (g.2.2.2.2.1) (g.2.2.2.2.2.1) (g.2.1) ∧ OwnS dB 4 w' (g.2.2.2.2.2.2.2.2) (g.2.2.2.2.2.2.1) (g.2.2.2.2.2.2.2.1) (g.2.2.1)) ?_ ?_
              ·
                apply go
                apply go
                apply go
                obtain ⟨⟨x_6d, x_6e⟩, q_6f, q_6c⟩ := bind_some q_6c
                refine ev_call rfl rfl C22 (((tree_Runner_Active_ok n) _ _  (Runner.mk x_5u x_5v x_5w) g_5f [some (g_5f, [v_5y, v_5z, v_61], 61), e_60, e_62] ⟨v_5y, v_5z, e_60, v_61, e_62, rfl, r_66, o_67, o_68⟩ (hp.lendL [2, 0, 1] (by decide)) _ q_6f).mono ?_)
                rintro _ w_6g ⟨I_6h, v_6i, F_6j, hv, hq35126, r_6k, q_6l⟩
                replace hv := hv.symm
                subst hv
                obtain ⟨v_6m, v_6n, e_6o, v_6p, e_6q, rfl, r_6r, o_6s, o_6t⟩ := q_6l
                have hs := hq35126.st
                have hp := hp.backL [2, 0, 1] [] (by decide) hq35126
                replace r_5 := r_5.step hs
                apply go
                have hs := hp.stp (Ch.drew [] w_6g)
                have hp := hp.drew
                replace r_5 := r_5.step hs
                replace r_6k := r_6k.step hs
                replace r_6r := r_6r.step hs
                replace o_6s := o_6s.step hs
                replace o_6t := o_6t.step hs
                refine W.held [(0, true), (1, true), (2, true), (3, true), (4, true), (5, true), (6, true), (7, true), (8, true), (9, true), (10, true), (11, false), (12, true), (13, true), (14, true), (15, true), (16, true), (17, true), (18, true)] (Stp I_6h w_6g.drew I_6h) MX (by kernel_rfl) (Stp.refl _ _) ?_
                have hz := Stp.refl I_6h w_6g.drew
                obtain ⟨x_6u, q_6v, q_6c⟩ := bind_some q_6c
                refine evh_index rfl rfl rfl Try.underlying32 T42 r_5 q_6v ?_
                intro p_6w c_6x d_6y a_6z
                obtain ⟨v_70, v_71, rfl, r_72, r_73⟩ := dInput_o d_6y
                refine evh0 (rn_field rfl rfl FO42_0) ?_
                refine evh (fun w' hw => rn_load rfl rfl (run_loadVar1 T39 ((a_6z.step hw).2 0 _ rfl))) ?_
                obtain ⟨x_74, q_75, q_6c⟩ := bind_some q_6c
                refine evh_index rfl rfl rfl Try.underlying32 T42 r_5 q_75 ?_
                intro p_76 c_77 d_78 a_79
                obtain ⟨v_7a, v_7b, rfl, r_7c, r_7d⟩ := dInput_o d_78
                refine evh0 (rn_field rfl rfl FO42_1) ?_
                refine evh (fun w' hw => rn_load rfl rfl (run_loadVar1 T40 ((a_79.step hw).2 1 _ rfl))) ?_
                obtain ⟨⟨x_7e, x_7f, x_7g, x_7h⟩, q_7i, q_6c⟩ := bind_some q_6c
                refine ev_call rfl rfl C21 (((tree_Runner_Tick_ok n) _ _  (Runner.mk x_6e.nodes x_6e.counters x_6e.active) g_5f [some (g_5f, [v_6m, v_6n, v_6p], 61), e_6o, e_6q] ⟨v_6m, v_6n, e_6o, v_6p, e_6q, rfl, r_6r, o_6s, o_6t⟩ x_6u.Actions v_70 r_72 x_74.Tests v_7b r_7d (hp.lendL [0, 1, 2] (by decide)) _ q_7i).mono ?_)
                rintro _ w_7j ⟨I_7k, v_7l, v_7m, F_7n, hv, hq35210, r_7o, r_7p, q_7q⟩
                replace hv := hv.symm
                subst hv
                obtain ⟨v_7r, v_7s, e_7t, v_7u, e_7v, rfl, r_7w, o_7x, o_7y⟩ := q_7q
                have hs := hq35210.st
                have hp := hp.backL [0, 1, 2] [] (by decide) hq35210
                replace hz := hz.trans hs
                replace r_5 := r_5.step hs
                replace r_6k := r_6k.step hs
                refine ⟨Stp I_7k w_7j I_7k, Stp.refl _ _, fun x hx => hz.held hx, ?_⟩
                have hz := Stp.refl I_7k w_7j
                apply go
                apply go
                obtain ⟨⟨x_7z, x_80⟩, q_81, q_6c⟩ := bind_some q_6c
                refine ev_call rfl rfl C22 (((tree_Runner_Active_ok n) _ _  (Runner.mk x_7h.nodes x_7h.counters x_7h.active) g_5f [some (g_5f, [v_7r, v_7s, v_7u], 61), e_7t, e_7v] ⟨v_7r, v_7s, e_7t, v_7u, e_7v, rfl, r_7w, o_7x, o_7y⟩ (hp.lendL [0, 1, 2] (by decide)) _ q_81).mono ?_)
                rintro _ w_82 ⟨I_83, v_84, F_85, hv, hq35228, r_86, q_87⟩
                replace hv := hv.symm
                subst hv
                obtain ⟨v_88, v_89, e_8a, v_8b, e_8c, rfl, r_8d, o_8e, o_8f⟩ := q_87
                have hs := hq35228.st
                have hp := hp.backL [0, 1, 2] [] (by decide) hq35228
                replace r_5 := r_5.step hs
                replace r_6k := r_6k.step hs
                replace r_7o := r_7o.step hs
                replace r_7p := r_7p.step hs
                apply go
                obtain ⟨y_8g, q_8h, q_6c⟩ := bind_some q_6c
                refine W.cut (γ := Bool) (fun g => [(1, v_4), (5, (.pointer (some ⟨g_5f, 0, none⟩))), (7, (.int .i64 x_5x)), (8, v_6i), (10, v_7l), (11, v_7m), (12, v_84), (79, (.bool (g)))]) (fun g w' => y_8g = (g) ∧ w_82 = w') ?_ ?_
                ·
                  apply go
                  refine sel_of (fun hc => ?_) (fun hc => ?_)
                  ·
                    have q_8h := cond_t q_8h hc
                    obtain rfl := Option.some.inj q_8h
                    exact ⟨true, (.c rfl (.c rfl (.c rfl (.c rfl (.c rfl (.c rfl (.c rfl (.c rfl .n)))))))), rfl, rfl⟩
                  ·
                    have q_8h := cond_f q_8h hc
                    refine sel_of (fun hc => ?_) (fun hc => ?_)
                    ·
                      have q_8h := cond_t q_8h hc
                      obtain rfl := Option.some.inj q_8h
                      exact ⟨true, (.c rfl (.c rfl (.c rfl (.c rfl (.c rfl (.c rfl (.c rfl (.c rfl .n)))))))), rfl, rfl⟩
                    ·
                      have q_8h := cond_f q_8h hc
                      refine sel_of (fun hc => ?_) (fun hc => ?_)
                      ·
                        have q_8h := cond_t q_8h hc
                        refine ev0 (rn_len rfl rfl Try.underlying39 r_86) ?_
                        obtain rfl := Option.some.inj q_8h
                        exact ⟨(decide ((x_7z.length : Int) > 0)), (.c rfl (.c rfl (.c rfl (.c rfl (.c rfl (.c rfl (.c rfl (.c rfl .n)))))))), rfl, rfl⟩
                      ·
                        have q_8h := cond_f q_8h hc
                        obtain rfl := Option.some.inj q_8h
                        exact ⟨false, (.c rfl (.c rfl (.c rfl (.c rfl (.c rfl (.c rfl (.c rfl (.c rfl .n)))))))), rfl, rfl⟩
                ·
                  rintro x_8i _ ⟨hy, rfl⟩
                  replace hy := hy.symm
                  subst hy
                  apply go
                  refine sel_of (fun hc => ?_) (fun hc => ?_)
                  ·
                    have q_6c := cond_t q_6c hc
                    apply go
                    apply go
                    apply go
                    obtain rfl := Option.some.inj q_6c
                    have q_8j := congrArg some (q_6a _ (Option.some.inj q_69).symm)
                    obtain rfl := Option.some.inj q_8j
                    obtain rfl := Option.some.inj h
                    exact ⟨rfl, hp.ch⟩
                  ·
                    have q_6c := cond_f q_6c hc
                    apply go
                    obtain ⟨y_8k, q_8l, q_6c⟩ := bind_some q_6c
                    refine W.cut (γ := Unit) (fun _ => [(1, v_4), (5, (.pointer (some ⟨g_5f, 0, none⟩))), (7, (.int .i64 x_5x)), (8, v_6i), (10, v_7l), (11, v_7m)]) (fun _ w' => y_8k = .go () ∧ Hp ⟨w0, I0, []⟩ I_83 [e_8a, e_8c, some (g_5f, [v_88, v_89, v_8b], 61)] w' ∧ RepS dInput w' I_83 v_4 x_3 ∧ RepS dNode_2 w' I_83 v_88 x_80.nodes ∧ OwnS (dI .i64) 3 w' I_83 v_89 e_8a x_80.counters ∧ OwnS dB 4 w' I_83 v_8b e_8c x_80.active ∧ RepS (dI .i64) w' I_83 v_6i x_6d ∧ RepS (dI .i64) w' I_83 v_7l x_7f ∧ RepS (dI .i64) w' I_83 v_7m x_7g) ?_ ?_
                    ·
                      apply go
                      apply go
                      apply go
                      have hp := hp.perm [1, 2, 0] (by decide)
                      refine W.loop q_8l (γ := Unit) (fun s _ => [(1, v_4), (5, (.pointer (some ⟨g_5f, 0, none⟩))), (7, (.int .i64 x_5x)), (8, v_6i), (10, v_7l), (11, v_7m), (12, v_84), (13, (.int .i64 (s)))]) (fun s _ w' => Hp ⟨w0, I0, []⟩ I_83 [e_8a, e_8c, some (g_5f, [v_88, v_89, v_8b], 61)] w' ∧ RepS dInput w' I_83 v_4 x_3 ∧ RepS dNode_2 w' I_83 v_88 x_80.nodes ∧ OwnS (dI .i64) 3 w' I_83 v_89 e_8a x_80.counters ∧ OwnS dB 4 w' I_83 v_8b e_8c x_80.active ∧ RepS (dI .i64) w' I_83 v_6i x_6d ∧ RepS (dI .i64) w' I_83 v_7l x_7f ∧ RepS (dI .i64) w' I_83 v_7m x_7g ∧ RepS (dI .i64) w' I_83 v_84 x_7z) () (.c rfl (.c rfl (.c rfl (.c rfl (.c rfl (.c rfl (.c rfl (.c rfl .n)))))))) ⟨hp, r_5, r_8d, o_8e, o_8f, r_6k, r_7o, r_7p, r_86⟩ ?_
                      rintro x_8m ⟨⟩ w_8n y_8o ⟨hp, r_5, r_8d, o_8e, o_8f, r_6k, r_7o, r_7p, r_86⟩ q_8p q_8q
                      unfold law41_TreeHalts_L120 at q_8p
                      apply go
                      apply go
                      apply go
                      refine ev0 (rn_len rfl rfl Try.underlying39 r_86) ?_
                      apply go
                      refine sel_of (fun hc => ?_) (fun hc => ?_)
                      ·
                        have q_8p := cond_t q_8p hc
                        apply go
                        apply go
                        apply go
                        obtain ⟨y_8r, q_8s, q_8p⟩ := bind_some q_8p
                        refine W.cut (γ := Bool) (fun g => [(1, v_4), (5, (.pointer (some ⟨g_5f, 0, none⟩))), (7, (.int .i64 x_5x)), (8, v_6i), (10, v_7l), (11, v_7m), (12, v_84), (13, (.int .i64 x_8m)), (100, (.bool (g)))]) (fun g w' => y_8r = (g) ∧ Hp ⟨w0, I0, []⟩ I_83 [e_8a, e_8c, some (g_5f, [v_88, v_89, v_8b], 61)] w' ∧ RepS dInput w' I_83 v_4 x_3 ∧ RepS dNode_2 w' I_83 v_88 x_80.nodes ∧ OwnS (dI .i64) 3 w' I_83 v_89 e_8a x_80.counters ∧ OwnS dB 4 w' I_83 v_8b e_8c x_80.active ∧ RepS (dI .i64) w' I_83 v_6i x_6d ∧ RepS (dI .i64) w' I_83 v_7l x_7f ∧ RepS (dI .i64) w' I_83 v_7m x_7g ∧ RepS (dI .i64) w' I_83 v_84 x_7z) ?_ ?_
                        ·
                          apply go
                          obtain ⟨x_8t, q_8u, q_8s⟩ := bind_some q_8s
                          refine ev_index rfl rfl rfl Try.underlying39 T3 r_86 q_8u ?_
                          intro p_8v c_8w d_8x a_8y
                          obtain rfl : c_8w = [(.int .i64 x_8t)] := d_8x
                          refine ev (rn_load rfl rfl (run_loadVar1 T3 (a_8y.2 0 _ rfl))) ?_
                          obtain ⟨x_8z, q_90, q_8s⟩ := bind_some q_8s
                          refine ev_call rfl rfl C23 (((law41_in_ok n) _ _  x_7f v_7l r_7o x_8t hp.imm _ q_90).mono ?_)
                          rintro _ w_91 ⟨rfl, hc⟩
                          have hs := hp.stp hc
                          replace hp := hp.ext hc
                          replace r_5 := r_5.step hs
                          replace r_6k := r_6k.step hs
                          replace r_7o := r_7o.step hs
                          replace r_7p := r_7p.step hs
                          replace r_86 := r_86.step hs
                          replace r_8d := r_8d.step hs
                          replace o_8e := o_8e.step hs
                          replace o_8f := o_8f.step hs
                          refine sel_of (fun hc => ?_) (fun hc => ?_)
                          ·
                            have q_8s := cond_t q_8s hc
                            obtain rfl := Option.some.inj q_8s
                            exact ⟨true, (.c rfl (.c rfl (.c rfl (.c rfl (.c rfl (.c rfl (.c rfl (.c rfl (.c rfl .n))))))))), rfl, hp, r_5, r_8d, o_8e, o_8f, r_6k, r_7o, r_7p, r_86⟩
                          ·
                            have q_8s := cond_f q_8s hc
                            obtain ⟨x_92, q_93, q_8s⟩ := bind_some q_8s
                            refine ev_index rfl rfl rfl Try.underlying39 T3 r_86 q_93 ?_
                            intro p_94 c_95 d_96 a_97
                            obtain rfl : c_95 = [(.int .i64 x_92)] := d_96
                            refine ev (rn_load rfl rfl (run_loadVar1 T3 (a_97.2 0 _ rfl))) ?_
                            obtain ⟨x_98, q_99, q_8s⟩ := bind_some q_8s
                            refine ev_call rfl rfl C23 (((law41_in_ok n) _ _  x_7g v_7m r_7p x_92 hp.imm _ q_99).mono ?_)
                            rintro _ w_9a ⟨rfl, hc⟩
                            have hs := hp.stp hc
                            replace hp := hp.ext hc
                            replace r_5 := r_5.step hs
                            replace r_6k := r_6k.step hs
                            replace r_7o := r_7o.step hs
                            replace r_7p := r_7p.step hs
                            replace r_86 := r_86.step hs
                            replace a_97 := a_97.step hs
                            replace r_8d := r_8d.step hs
                            replace o_8e := o_8e.step hs
                            replace o_8f := o_8f.step hs
                            obtain rfl := Option.some.inj q_8s
                            exact ⟨x_98, (.c rfl (.c rfl (.c rfl (.c rfl (.c rfl (.c rfl (.c rfl (.c rfl (.c rfl .n))))))))), rfl, hp, r_5, r_8d, o_8e, o_8f, r_6k, r_7o, r_7p, r_86⟩
                        ·
                          rintro x_9b w_9c ⟨hy, hp, r_5, r_8d, o_8e, o_8f, r_6k, r_7o, r_7p, r_86⟩
                          replace hy := hy.symm
                          subst hy
                          apply go
                          refine sel_of (fun hc => ?_) (fun hc => ?_)
                          ·
                            have q_8p := cond_t q_8p hc
                            apply go
                            apply go
                            apply go
                            have q_9d := congrArg some (q_8q _ (Option.some.inj q_8p).symm)
                            obtain rfl := Option.some.inj q_9d
                            obtain rfl := Option.some.inj q_6c
                            have q_9e := congrArg some (q_6a _ (Option.some.inj q_69).symm)
                            obtain rfl := Option.some.inj q_9e
                            obtain rfl := Option.some.inj h
                            exact ⟨rfl, hp.ch⟩
                          ·
                            have q_8p := cond_f q_8p hc
                            apply go
                            apply go
                            exact ⟨_, (Option.some.inj q_8p).symm, (), (.c rfl (.c rfl (.c rfl (.c rfl (.c rfl (.c rfl (.c rfl (.c rfl .n)))))))), ⟨hp, r_5, r_8d, o_8e, o_8f, r_6k, r_7o, r_7p, r_86⟩⟩
                      ·
                        have q_8p := cond_f q_8p hc
                        apply go
                        have q_9f := congrArg some (q_8q _ (Option.some.inj q_8p).symm)
                        obtain rfl := Option.some.inj q_9f
                        exact ⟨(), (.c rfl (.c rfl (.c rfl (.c rfl (.c rfl (.c rfl .n)))))), rfl, hp, r_5, r_8d, o_8e, o_8f, r_6k, r_7o, r_7p⟩
                    ·
                      rintro ⟨⟩ w_9g ⟨hy, hp, r_5, r_8d, o_8e, o_8f, r_6k, r_7o, r_7p⟩
                      replace hy := hy.symm
                      subst hy
                      obtain ⟨y_9h, q_9i, q_6c⟩ := bind_some q_6c
                      refine W.cut (γ := Unit) (fun _ => [(1, v_4), (5, (.pointer (some ⟨g_5f, 0, none⟩))), (7, (.int .i64 x_5x)), (8, v_6i), (10, v_7l), (11, v_7m)]) (fun _ w' => y_9h = .go () ∧ Hp ⟨w0, I0, []⟩ I_83 [e_8a, e_8c, some (g_5f, [v_88, v_89, v_8b], 61)] w' ∧ RepS dInput w' I_83 v_4 x_3 ∧ RepS dNode_2 w' I_83 v_88 x_80.nodes ∧ OwnS (dI .i64) 3 w' I_83 v_89 e_8a x_80.counters ∧ OwnS dB 4 w' I_83 v_8b e_8c x_80.active ∧ RepS (dI .i64) w' I_83 v_6i x_6d ∧ RepS (dI .i64) w' I_83 v_7l x_7f ∧ RepS (dI .i64) w' I_83 v_7m x_7g) ?_ ?_
                      ·
                        apply go
                        apply go
                        apply go
                        refine W.loop q_9i (γ := Unit) (fun s _ => [(1, v_4), (5, (.pointer (some ⟨g_5f, 0, none⟩))), (7, (.int .i64 x_5x)), (8, v_6i), (10, v_7l), (11, v_7m), (14, (.int .i64 (s)))]) (fun s _ w' => Hp ⟨w0, I0, []⟩ I_83 [e_8a, e_8c, some (g_5f, [v_88, v_89, v_8b], 61)] w' ∧ RepS dInput w' I_83 v_4 x_3 ∧ RepS dNode_2 w' I_83 v_88 x_80.nodes ∧ OwnS (dI .i64) 3 w' I_83 v_89 e_8a x_80.counters ∧ OwnS dB 4 w' I_83 v_8b e_8c x_80.active ∧ RepS (dI .i64) w' I_83 v_6i x_6d ∧ RepS (dI .i64) w' I_83 v_7l x_7f ∧ RepS (dI .i64) w' I_83 v_7m x_7g) () (.c rfl (.c rfl (.c rfl (.c rfl (.c rfl (.c rfl (.c rfl .n))))))) ⟨hp, r_5, r_8d, o_8e, o_8f, r_6k, r_7o, r_7p⟩ ?_
                        rintro x_9j ⟨⟩ w_9k y_9l ⟨hp, r_5, r_8d, o_8e, o_8f, r_6k, r_7o, r_7p⟩ q_9m q_9n
                        unfold law41_TreeHalts_L122 at q_9m
                        apply go
                        apply go
                        apply go
                        refine ev0 (rn_len rfl rfl Try.underlying39 r_6k) ?_
                        apply go
                        refine sel_of (fun hc => ?_) (fun hc => ?_)
                        ·
                          have q_9m := cond_t q_9m hc
                          apply go
                          apply go
                          apply go
                          obtain ⟨y_9o, q_9p, q_9m⟩ := bind_some q_9m
                          refine W.cut (γ := Bool) (fun g => [(1, v_4), (5, (.pointer (some ⟨g_5f, 0, none⟩))), (7, (.int .i64 x_5x)), (8, v_6i), (10, v_7l), (11, v_7m), (14, (.int .i64 x_9j)), (122, (.bool (g)))]) (fun g w' => y_9o = (g) ∧ Hp ⟨w0, I0, []⟩ I_83 [e_8a, e_8c, some (g_5f, [v_88, v_89, v_8b], 61)] w' ∧ RepS dInput w' I_83 v_4 x_3 ∧ RepS dNode_2 w' I_83 v_88 x_80.nodes ∧ OwnS (dI .i64) 3 w' I_83 v_89 e_8a x_80.counters ∧ OwnS dB 4 w' I_83 v_8b e_8c x_80.active ∧ RepS (dI .i64) w' I_83 v_6i x_6d ∧ RepS (dI .i64) w' I_83 v_7l x_7f ∧ RepS (dI .i64) w' I_83 v_7m x_7g) ?_ ?_
                          ·
                            apply go
                            obtain ⟨x_9q, q_9r, q_9p⟩ := bind_some q_9p
                            refine ev_index rfl rfl rfl Try.underlying39 T3 r_6k q_9r ?_
                            intro p_9s c_9t d_9u a_9v
                            obtain rfl : c_9t = [(.int .i64 x_9q)] := d_9u
                            refine ev (rn_load rfl rfl (run_loadVar1 T3 (a_9v.2 0 _ rfl))) ?_
                            obtain ⟨x_9w, q_9x, q_9p⟩ := bind_some q_9p
                            refine ev_call rfl rfl C23 (((law41_in_ok n) _ _  x_7f v_7l r_7o x_9q hp.imm _ q_9x).mono ?_)
                            rintro _ w_9y ⟨rfl, hc⟩
                            have hs := hp.stp hc
                            replace hp := hp.ext hc
                            replace r_5 := r_5.step hs
                            replace r_6k := r_6k.step hs
                            replace r_7o := r_7o.step hs
                            replace r_7p := r_7p.step hs
                            replace r_8d := r_8d.step hs
                            replace o_8e := o_8e.step hs
                            replace o_8f := o_8f.step hs
                            refine sel_of (fun hc => ?_) (fun hc => ?_)
                            ·
                              have q_9p := cond_t q_9p hc
                              obtain ⟨x_9z, q_a0, q_9p⟩ := bind_some q_9p
                              refine ev_index rfl rfl rfl Try.underlying39 T3 r_6k q_a0 ?_
                              intro p_a1 c_a2 d_a3 a_a4
                              obtain rfl : c_a2 = [(.int .i64 x_9z)] := d_a3
                              refine ev (rn_load rfl rfl (run_loadVar1 T3 (a_a4.2 0 _ rfl))) ?_
                              obtain ⟨x_a5, q_a6, q_9p⟩ := bind_some q_9p
                              refine ev_call rfl rfl C23 (((law41_in_ok n) _ _  x_7g v_7m r_7p x_9z hp.imm _ q_a6).mono ?_)
                              rintro _ w_a7 ⟨rfl, hc⟩
                              have hs := hp.stp hc
                              replace hp := hp.ext hc
                              replace r_5 := r_5.step hs
                              replace r_6k := r_6k.step hs
                              replace r_7o := r_7o.step hs
                              replace r_7p := r_7p.step hs
                              replace a_a4 := a_a4.step hs
                              replace r_8d := r_8d.step hs
                              replace o_8e := o_8e.step hs
                              replace o_8f := o_8f.step hs
                              obtain rfl := Option.some.inj q_9p
                              exact ⟨(!x_a5), (.c rfl (.c rfl (.c rfl (.c rfl (.c rfl (.c rfl (.c rfl (.c rfl .n)))))))), rfl, hp, r_5, r_8d, o_8e, o_8f, r_6k, r_7o, r_7p⟩
                            ·
                              have q_9p := cond_f q_9p hc
                              obtain rfl := Option.some.inj q_9p
                              exact ⟨false, (.c rfl (.c rfl (.c rfl (.c rfl (.c rfl (.c rfl (.c rfl (.c rfl .n)))))))), rfl, hp, r_5, r_8d, o_8e, o_8f, r_6k, r_7o, r_7p⟩
                          ·
                            rintro x_a8 w_a9 ⟨hy, hp, r_5, r_8d, o_8e, o_8f, r_6k, r_7o, r_7p⟩
                            replace hy := hy.symm
                            subst hy
                            apply go
                            refine sel_of (fun hc => ?_) (fun hc => ?_)
                            ·
                              have q_9m := cond_t q_9m hc
                              apply go
                              apply go
                              apply go
                              have q_aa := congrArg some (q_9n _ (Option.some.inj q_9m).symm)
                              obtain rfl := Option.some.inj q_aa
                              obtain rfl := Option.some.inj q_6c
                              have q_ab := congrArg some (q_6a _ (Option.some.inj q_69).symm)
                              obtain rfl := Option.some.inj q_ab
                              obtain rfl := Option.some.inj h
                              exact ⟨rfl, hp.ch⟩
                            ·
                              have q_9m := cond_f q_9m hc
                              apply go
                              apply go
                              exact ⟨_, (Option.some.inj q_9m).symm, (), (.c rfl (.c rfl (.c rfl (.c rfl (.c rfl (.c rfl (.c rfl .n))))))), ⟨hp, r_5, r_8d, o_8e, o_8f, r_6k, r_7o, r_7p⟩⟩
                        ·
                          have q_9m := cond_f q_9m hc
                          apply go
                          have q_ac := congrArg some (q_9n _ (Option.some.inj q_9m).symm)
                          obtain rfl := Option.some.inj q_ac
                          exact ⟨(), (.c rfl (.c rfl (.c rfl (.c rfl (.c rfl (.c rfl .n)))))), rfl, hp, r_5, r_8d, o_8e, o_8f, r_6k, r_7o, r_7p⟩
                      ·
                        rintro ⟨⟩ w_ad ⟨hy, hp, r_5, r_8d, o_8e, o_8f, r_6k, r_7o, r_7p⟩
                        replace hy := hy.symm
                        subst hy
                        apply go
                        apply go
                        apply go
                        refine W.loop q_6c (γ := Unit) (fun s _ => [(1, v_4), (5, (.pointer (some ⟨g_5f, 0, none⟩))), (7, (.int .i64 x_5x)), (8, v_6i), (10, v_7l), (11, v_7m), (15, (.int .i64 (s)))]) (fun s _ w' => Hp ⟨w0, I0, []⟩ I_83 [e_8a, e_8c, some (g_5f, [v_88, v_89, v_8b], 61)] w' ∧ RepS dInput w' I_83 v_4 x_3 ∧ RepS dNode_2 w' I_83 v_88 x_80.nodes ∧ OwnS (dI .i64) 3 w' I_83 v_89 e_8a x_80.counters ∧ OwnS dB 4 w' I_83 v_8b e_8c x_80.active ∧ RepS (dI .i64) w' I_83 v_6i x_6d ∧ RepS (dI .i64) w' I_83 v_7l x_7f ∧ RepS (dI .i64) w' I_83 v_7m x_7g) () (.c rfl (.c rfl (.c rfl (.c rfl (.c rfl (.c rfl (.c rfl .n))))))) ⟨hp, r_5, r_8d, o_8e, o_8f, r_6k, r_7o, r_7p⟩ ?_
                        rintro x_ae ⟨⟩ w_af y_ag ⟨hp, r_5, r_8d, o_8e, o_8f, r_6k, r_7o, r_7p⟩ q_ah q_ai
                        unfold law41_TreeHalts_L123 at q_ah
                        apply go
                        apply go
                        apply go
                        refine ev0 (rn_len rfl rfl Try.underlying39 r_7p) ?_
                        apply go
                        refine sel_of (fun hc => ?_) (fun hc => ?_)
                        ·
                          have q_ah := cond_t q_ah hc
                          apply go
                          apply go
                          apply go
                          obtain ⟨y_aj, q_ak, q_ah⟩ := bind_some q_ah
                          refine W.cut (γ := Bool) (fun g => [(1, v_4), (5, (.pointer (some ⟨g_5f, 0, none⟩))), (7, (.int .i64 x_5x)), (8, v_6i), (10, v_7l), (11, v_7m), (15, (.int .i64 x_ae)), (144, (.bool (g)))]) (fun g w' => y_aj = (g) ∧ Hp ⟨w0, I0, []⟩ I_83 [e_8a, e_8c, some (g_5f, [v_88, v_89, v_8b], 61)] w' ∧ RepS dInput w' I_83 v_4 x_3 ∧ RepS dNode_2 w' I_83 v_88 x_80.nodes ∧ OwnS (dI .i64) 3 w' I_83 v_89 e_8a x_80.counters ∧ OwnS dB 4 w' I_83 v_8b e_8c x_80.active ∧ RepS (dI .i64) w' I_83 v_6i x_6d ∧ RepS (dI .i64) w' I_83 v_7l x_7f ∧ RepS (dI .i64) w' I_83 v_7m x_7g) ?_ ?_
                          ·
                            apply go
                            obtain ⟨x_al, q_am, q_ak⟩ := bind_some q_ak
                            refine ev_index rfl rfl rfl Try.underlying39 T3 r_7p q_am ?_
                            intro p_an c_ao d_ap a_aq
                            obtain rfl : c_ao = [(.int .i64 x_al)] := d_ap
                            refine ev (rn_load rfl rfl (run_loadVar1 T3 (a_aq.2 0 _ rfl))) ?_
                            obtain ⟨x_ar, q_as, q_ak⟩ := bind_some q_ak
                            refine ev_call rfl rfl C23 (((law41_in_ok n) _ _  x_6d v_6i r_6k x_al hp.imm _ q_as).mono ?_)
                            rintro _ w_at ⟨rfl, hc⟩
                            have hs := hp.stp hc
                            replace hp := hp.ext hc
                            replace r_5 := r_5.step hs
                            replace r_6k := r_6k.step hs
                            replace r_7o := r_7o.step hs
                            replace r_7p := r_7p.step hs
                            replace r_8d := r_8d.step hs
                            replace o_8e := o_8e.step hs
                            replace o_8f := o_8f.step hs
                            refine sel_of (fun hc => ?_) (fun hc => ?_)
                            ·
                              have q_ak := cond_t q_ak hc
                              obtain ⟨x_au, q_av, q_ak⟩ := bind_some q_ak
                              refine ev_index rfl rfl rfl Try.underlying39 T3 r_7p q_av ?_
                              intro p_aw c_ax d_ay a_az
                              obtain rfl : c_ax = [(.int .i64 x_au)] := d_ay
                              refine ev (rn_load rfl rfl (run_loadVar1 T3 (a_az.2 0 _ rfl))) ?_
                              obtain ⟨x_b0, q_b1, q_ak⟩ := bind_some q_ak
                              refine ev_call rfl rfl C23 (((law41_in_ok n) _ _  x_7f v_7l r_7o x_au hp.imm _ q_b1).mono ?_)
                              rintro _ w_b2 ⟨rfl, hc⟩
                              have hs := hp.stp hc
                              replace hp := hp.ext hc
                              replace r_5 := r_5.step hs
                              replace r_6k := r_6k.step hs
                              replace r_7o := r_7o.step hs
                              replace r_7p := r_7p.step hs
                              replace a_az := a_az.step hs
                              replace r_8d := r_8d.step hs
                              replace o_8e := o_8e.step hs
                              replace o_8f := o_8f.step hs
                              obtain rfl := Option.some.inj q_ak
                              exact ⟨(!x_b0), (.c rfl (.c rfl (.c rfl (.c rfl (.c rfl (.c rfl (.c rfl (.c rfl .n)))))))), rfl, hp, r_5, r_8d, o_8e, o_8f, r_6k, r_7o, r_7p⟩
                            ·
                              have q_ak := cond_f q_ak hc
                              obtain rfl := Option.some.inj q_ak
                              exact ⟨false, (.c rfl (.c rfl (.c rfl (.c rfl (.c rfl (.c rfl (.c rfl (.c rfl .n)))))))), rfl, hp, r_5, r_8d, o_8e, o_8f, r_6k, r_7o, r_7p⟩
                          ·
                            rintro x_b3 w_b4 ⟨hy, hp, r_5, r_8d, o_8e, o_8f, r_6k, r_7o, r_7p⟩
                            replace hy := hy.symm
                            subst hy
                            apply go
                            refine sel_of (fun hc => ?_) (fun hc => ?_)
                            ·
                              have q_ah := cond_t q_ah hc
                              apply go
                              apply go
                              apply go
                              have q_b5 := congrArg some (q_ai _ (Option.some.inj q_ah).symm)
                              obtain rfl := Option.some.inj q_b5
                              have q_b6 := congrArg some (q_6a _ (Option.some.inj q_69).symm)
                              obtain rfl := Option.some.inj q_b6
                              obtain rfl := Option.some.inj h
                              exact ⟨rfl, hp.ch⟩
                            ·
                              have q_ah := cond_f q_ah hc
                              apply go
                              apply go
                              exact ⟨_, (Option.some.inj q_ah).symm, (), (.c rfl (.c rfl (.c rfl (.c rfl (.c rfl (.c rfl (.c rfl .n))))))), ⟨hp, r_5, r_8d, o_8e, o_8f, r_6k, r_7o, r_7p⟩⟩
                        ·
                          have q_ah := cond_f q_ah hc
                          apply go
                          have q_b7 := congrArg some (q_ai _ (Option.some.inj q_ah).symm)
                          obtain rfl := Option.some.inj q_b7
                          exact ⟨(x_80.nodes, x_80.counters, x_80.active, v_88, v_89, e_8a, v_8b, e_8c, I_83), (.c rfl (.c rfl (.c rfl .n))), rfl, hp, r_5, r_8d, o_8e, o_8f⟩
              ·
                rintro ⟨x_b8, x_b9, x_ba, v_bb, v_bc, e_bd, v_be, e_bf, I_bg⟩ w_bh ⟨hy, hp, r_5, r_bi, o_bj, o_bk⟩
                replace hy := hy.symm
                subst hy
                apply go
                exact ⟨_, (Option.some.inj q_69).symm, (v_bb, v_bc, e_bd, v_be, e_bf, I_bg), (.c rfl (.c rfl (.c rfl .n))), ⟨hp, r_5, r_bi, o_bj, o_bk⟩⟩
            ·
              have q_69 := cond_f q_69 hc
              apply go
              have q_bl := congrArg some (q_6a _ (Option.some.inj q_69).symm)
              obtain rfl := Option.some.inj q_bl
              have hp := hp.sel [] (by decide)
              exact ⟨I_63, .n, rfl, hp⟩
          ·
            rintro I_bm w_bn ⟨hy, hp⟩
            replace hy := hy.symm
            subst hy
            apply go
            apply go
            apply go
            obtain rfl := Option.some.inj h
            exact ⟨rfl, hp.ch⟩

end Go.Proofs.Ytknnmbcaoekgmaa
