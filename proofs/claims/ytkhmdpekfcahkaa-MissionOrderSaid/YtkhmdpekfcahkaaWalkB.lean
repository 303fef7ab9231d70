/-
  Each function of the program computes the plain function of its name.
-/
import Derived.Test.YtkhmdpekfcahkaaFactsA
import Derived.Test.YtkhmdpekfcahkaaWalkA
namespace Go.Proofs.Ytkhmdpekfcahkaa
open Go Go.Proofs.Ytkhmdpekfcahkaa.Gw Go.RowKit
set_option linter.unusedVariables false
attribute [local irreducible] Ev EvQ EvS EvH
def law42_MissionOrder_S (f : (List Task) → (List (List Int)) → Option Bool) : Prop := ∀ (w0 : World) (I0 : Nat → Prop) (x_0 : (List Task)) (v_1 : Value) (r_2 : RepS dTask w0 I0 v_1 x_0) (x_3 : (List (List Int))) (v_4 : Value) (r_5 : RepS (dSl (dI .i64)) w0 I0 v_4 x_3) (hI : ∀ g, I0 g → g < w0.heap.size) (r : Bool), f x_0 x_3 = some r →
    Ret Try.prog 4 #[v_1, v_4] w0 fun v w1 => v = (.bool r) ∧ Ch [] w0 w1
theorem law42_MissionOrder_ok (n : Nat) : law42_MissionOrder_S (law42_MissionOrder n) := by
  intro w0 I0 x_0 v_1 r_2 x_3 v_4 r_5 hI r h
  unfold law42_MissionOrder at h
  refine enter Try.func4 rfl (Nat.le_of_ble_eq_true rfl) ?_
  have hp : Hp ⟨w0, I0, []⟩ I0 [] w0 := Hp.start hI
  apply go
  apply go
  apply go
  obtain ⟨y_6, q_7, h⟩ := bind_some h
  refine W.cut (γ := Bool) (fun g => [(0, v_1), (1, v_4), (22, (.bool (g)))]) (fun g w' => y_6 = (g) ∧ Hp ⟨w0, I0, []⟩ I0 [] w' ∧ RepS dTask w' I0 v_1 x_0 ∧ RepS (dSl (dI .i64)) w' I0 v_4 x_3) ?_ ?_
  ·
    apply go
    obtain ⟨x_8, q_9, q_7⟩ := bind_some q_7
    refine ev_call rfl rfl C8 (((law42_awake_ok n) _ _   hp.imm _ q_9).mono ?_)
    rintro _ w_a ⟨rfl, hc⟩
    have hs := hp.stp hc
    replace hp := hp.ext hc
    replace r_2 := r_2.step hs
    replace r_5 := r_5.step hs
    refine sel_of (fun hc => ?_) (fun hc => ?_)
    ·
      have q_7 := cond_t q_7 hc
      obtain rfl := Option.some.inj q_7
      exact ⟨true, (.c rfl (.c rfl (.c rfl .n))), rfl, hp, r_2, r_5⟩
    ·
      have q_7 := cond_f q_7 hc
      obtain ⟨x_b, q_c, q_7⟩ := bind_some q_7
      refine ev_call rfl rfl C9 (((law42_few_ok n) _ _  x_0 v_1 r_2 x_3 v_4 r_5 hp.imm _ q_c).mono ?_)
      rintro _ w_d ⟨rfl, hc⟩
      have hs := hp.stp hc
      replace hp := hp.ext hc
      replace r_2 := r_2.step hs
      replace r_5 := r_5.step hs
      obtain rfl := Option.some.inj q_7
      exact ⟨(!x_b), (.c rfl (.c rfl (.c rfl .n))), rfl, hp, r_2, r_5⟩
  ·
    rintro x_e w_f ⟨hy, hp, r_2, r_5⟩
    replace hy := hy.symm
    subst hy
    apply go
    refine sel_of (fun hc => ?_) (fun hc => ?_)
    ·
      have h := cond_t h hc
      apply go
      apply go
      obtain ⟨x_g, q_h, h⟩ := bind_some h
      refine ev_call rfl rfl C8 (((law42_awake_ok n) _ _   hp.imm _ q_h).mono ?_)
      rintro _ w_i ⟨rfl, hc⟩
      have hs := hp.stp hc
      replace hp := hp.ext hc
      apply go
      obtain rfl := Option.some.inj h
      exact ⟨rfl, hp.ch⟩
    ·
      have h := cond_f h hc
      apply go
      apply go
      apply go
      obtain ⟨⟨x_j, x_k⟩, q_l, h⟩ := bind_some h
      refine ev_call rfl rfl C10 (((mission_New_ok n) _ _  x_0 v_1 r_2 hp.imm _ q_l).mono ?_)
      rintro _ w_m ⟨I_n, v_o, F_p, hv, hq15485, q_q⟩
      replace hv := hv.symm
      subst hv
      rcases x_j with _ | x_r
      ·
        obtain ⟨rfl, rfl⟩ := q_q
        have hs := hq15485.st
        have hp := hp.join0 hq15485
        replace r_2 := r_2.step hs
        replace r_5 := r_5.step hs
        apply go
        apply go
        apply go
        apply go
        refine sel_of (fun hc => ?_) (fun hc => ?_)
        ·
          have h := cond_t h hc
          apply go
          apply go
          refine ev0 (rn_eqNilP rfl rfl rfl Try.underlying26 (b := true) rfl) ?_
          apply go
          obtain rfl := Option.some.inj h
          exact ⟨rfl, hp.ch⟩
        ·
          have h := cond_f h hc
          apply go
          apply go
          apply go
          obtain ⟨y_s, q_t, h⟩ := bind_some h
          refine W.cut (γ := (Nat → Prop)) (fun g => []) (fun g w' => y_s = .go () ∧ Hp ⟨w0, I0, []⟩ (g) [] w') ?_ ?_
          ·
            apply go
            apply go
            apply go
            refine W.loop q_t (γ := (Nat → Prop)) (fun s g => [(0, v_1), (1, v_4), (5, (.pointer none)), (7, (.int .i64 (s.1))), (8, (.int .i64 (s.2)))]) (fun s g w' => Hp ⟨w0, I0, []⟩ (g) [] w' ∧ RepS dTask w' (g) v_1 x_0 ∧ RepS (dSl (dI .i64)) w' (g) v_4 x_3) I_n (.c rfl (.c rfl (.c rfl (.c rfl (.c rfl .n))))) ⟨hp, r_2, r_5⟩ ?_
            rintro ⟨x_u, x_v⟩ I_w w_x y_y ⟨hp, r_2, r_5⟩ q_z q_10
            unfold law42_MissionOrder_L41 at q_z
            apply go
            apply go
            apply go
            refine ev0 (rn_len rfl rfl Try.underlying23 r_5) ?_
            apply go
            refine sel_of (fun hc => ?_) (fun hc => ?_)
            ·
              have q_z := cond_t q_z hc
              apply go
              obtain ⟨y_11, q_12, q_z⟩ := bind_some q_z
              refine W.cut (γ := (Int × (Nat → Prop))) (fun g => [(0, v_1), (1, v_4), (5, (.pointer none)), (7, (.int .i64 (g.1))), (8, (.int .i64 x_v))]) (fun g w' => y_11 = .go (g.1) ∧ Hp ⟨w0, I0, []⟩ (g.2) [] w' ∧ RepS dTask w' (g.2) v_1 x_0 ∧ RepS (dSl (dI .i64)) w' (g.2) v_4 x_3) ?_ ?_
              ·
                apply go
                apply go
                apply go
                obtain ⟨x_13, q_14, q_12⟩ := bind_some q_12
                refine ev_index rfl rfl rfl Try.underlying23 T31 r_5 q_14 ?_
                intro p_15 c_16 d_17 a_18
                obtain ⟨v_19, rfl, r_1a⟩ := d_17
                refine ev (rn_load rfl rfl (run_loadVar1 T31 (a_18.2 0 _ rfl))) ?_
                obtain ⟨⟨x_1b, x_1c, x_1d⟩, q_1e, q_12⟩ := bind_some q_12
                refine ev_call rfl rfl C12 (((mission_Mission_Ticknil_ok n) _ _  x_13 v_19 r_1a hp.imm _ q_1e).mono ?_)
                rintro _ w_1f ⟨I_1g, hv, hq⟩
                replace hv := hv.symm
                subst hv
                have hs := hq.st
                have hp := hp.join0 hq
                replace r_2 := r_2.step hs
                replace r_5 := r_5.step hs
                apply go
                apply go
                obtain ⟨x_1h, q_1i, q_12⟩ := bind_some q_12
                refine ev_call rfl rfl C13 (((mission_Mission_Donenil_ok n) _ _   hp.imm _ q_1i).mono ?_)
                rintro _ w_1j ⟨I_1k, v_1l, hv, hq, r_1m⟩
                replace hv := hv.symm
                subst hv
                have hs := hq.st
                have hp := hp.join0 hq
                replace r_2 := r_2.step hs
                replace r_5 := r_5.step hs
                apply go
                apply go
                obtain ⟨y_1n, q_1o, q_12⟩ := bind_some q_12
                refine W.cut (γ := Int) (fun g => [(0, v_1), (1, v_4), (5, (.pointer none)), (7, (.int .i64 x_u)), (8, (.int .i64 x_v)), (9, (.int .i64 x_1b)), (11, (.int .i64 x_1d)), (12, v_1l), (13, (.int .i64 (g)))]) (fun g w' => y_1n = (g) ∧ w_1j = w') ?_ ?_
                ·
                  apply go
                  refine W.loop q_1o (γ := Unit) (fun s _ => [(0, v_1), (1, v_4), (5, (.pointer none)), (7, (.int .i64 x_u)), (8, (.int .i64 x_v)), (9, (.int .i64 x_1b)), (11, (.int .i64 x_1d)), (12, v_1l), (13, (.int .i64 (s)))]) (fun s _ w' => w_1j = w') () (.c rfl (.c rfl (.c rfl (.c rfl (.c rfl (.c rfl (.c rfl (.c rfl (.c rfl .n))))))))) rfl ?_
                  rintro x_1p ⟨⟩ _ y_1q rfl q_1r q_1s
                  unfold law42_MissionOrder_L47 at q_1r
                  apply go
                  obtain ⟨y_1t, q_1u, q_1r⟩ := bind_some q_1r
                  refine W.cut (γ := Bool) (fun g => [(0, v_1), (1, v_4), (5, (.pointer none)), (7, (.int .i64 x_u)), (8, (.int .i64 x_v)), (9, (.int .i64 x_1b)), (11, (.int .i64 x_1d)), (12, v_1l), (13, (.int .i64 x_1p)), (60, (.bool (g)))]) (fun g w' => y_1t = (g) ∧ w_1j = w') ?_ ?_
                  ·
                    apply go
                    refine ev0 (rn_len rfl rfl Try.underlying39 r_1m) ?_
                    refine sel_of (fun hc => ?_) (fun hc => ?_)
                    ·
                      have q_1u := cond_t q_1u hc
                      obtain ⟨x_1v, q_1w, q_1u⟩ := bind_some q_1u
                      refine ev_index rfl rfl rfl Try.underlying39 T4 r_1m q_1w ?_
                      intro p_1x c_1y d_1z a_20
                      obtain rfl : c_1y = [(.bool x_1v)] := d_1z
                      refine ev (rn_load rfl rfl (run_loadVar1 T4 (a_20.2 0 _ rfl))) ?_
                      obtain rfl := Option.some.inj q_1u
                      exact ⟨x_1v, (.c rfl (.c rfl (.c rfl (.c rfl (.c rfl (.c rfl (.c rfl (.c rfl (.c rfl (.c rfl .n)))))))))), rfl, rfl⟩
                    ·
                      have q_1u := cond_f q_1u hc
                      obtain rfl := Option.some.inj q_1u
                      exact ⟨false, (.c rfl (.c rfl (.c rfl (.c rfl (.c rfl (.c rfl (.c rfl (.c rfl (.c rfl (.c rfl .n)))))))))), rfl, rfl⟩
                  ·
                    rintro x_21 _ ⟨hy, rfl⟩
                    replace hy := hy.symm
                    subst hy
                    apply go
                    refine sel_of (fun hc => ?_) (fun hc => ?_)
                    ·
                      have q_1r := cond_t q_1r hc
                      apply go
                      apply go
                      apply go
                      exact ⟨_, (Option.some.inj q_1r).symm, (), (.c rfl (.c rfl (.c rfl (.c rfl (.c rfl (.c rfl (.c rfl (.c rfl (.c rfl .n))))))))), rfl⟩
                    ·
                      have q_1r := cond_f q_1r hc
                      apply go
                      have q_22 := congrArg some (q_1s _ (Option.some.inj q_1r).symm)
                      obtain rfl := Option.some.inj q_22
                      exact ⟨x_1p, (.c rfl (.c rfl (.c rfl (.c rfl (.c rfl (.c rfl (.c rfl (.c rfl (.c rfl .n))))))))), rfl, rfl⟩
                ·
                  rintro x_23 _ ⟨hy, rfl⟩
                  replace hy := hy.symm
                  subst hy
                  obtain ⟨y_24, q_25, q_12⟩ := bind_some q_12
                  refine W.cut (γ := Unit) (fun _ => [(0, v_1), (1, v_4), (5, (.pointer none)), (7, (.int .i64 x_u)), (8, (.int .i64 x_v)), (9, (.int .i64 x_1b)), (11, (.int .i64 x_1d)), (12, v_1l), (13, (.int .i64 x_23))]) (fun _ w' => y_24 = .go () ∧ w_1j = w') ?_ ?_
                  ·
                    apply go
                    apply go
                    apply go
                    refine W.loop q_25 (γ := Unit) (fun s _ => [(0, v_1), (1, v_4), (5, (.pointer none)), (7, (.int .i64 x_u)), (8, (.int .i64 x_v)), (9, (.int .i64 x_1b)), (11, (.int .i64 x_1d)), (12, v_1l), (13, (.int .i64 x_23)), (14, (.int .i64 (s)))]) (fun s _ w' => w_1j = w') () (.c rfl (.c rfl (.c rfl (.c rfl (.c rfl (.c rfl (.c rfl (.c rfl (.c rfl (.c rfl .n)))))))))) rfl ?_
                    rintro x_26 ⟨⟩ _ y_27 rfl q_28 q_29
                    unfold law42_MissionOrder_L49 at q_28
                    apply go
                    apply go
                    apply go
                    refine ev0 (rn_len rfl rfl Try.underlying39 r_1m) ?_
                    apply go
                    refine sel_of (fun hc => ?_) (fun hc => ?_)
                    ·
                      have q_28 := cond_t q_28 hc
                      apply go
                      apply go
                      apply go
                      apply go
                      apply go
                      obtain ⟨x_2a, q_2b, q_28⟩ := bind_some q_28
                      refine ev_index rfl rfl rfl Try.underlying39 T4 r_1m q_2b ?_
                      intro p_2c c_2d d_2e a_2f
                      obtain rfl : c_2d = [(.bool x_2a)] := d_2e
                      refine ev (rn_load rfl rfl (run_loadVar1 T4 (a_2f.2 0 _ rfl))) ?_
                      apply go
                      refine sel_of (fun hc => ?_) (fun hc => ?_)
                      ·
                        have q_28 := cond_t q_28 hc
                        apply go
                        apply go
                        apply go
                        have q_2g := congrArg some (q_29 _ (Option.some.inj q_28).symm)
                        obtain rfl := Option.some.inj q_2g
                        obtain rfl := Option.some.inj q_12
                        have q_2h := congrArg some (q_10 _ (Option.some.inj q_z).symm)
                        obtain rfl := Option.some.inj q_2h
                        obtain rfl := Option.some.inj h
                        exact ⟨rfl, hp.ch⟩
                      ·
                        have q_28 := cond_f q_28 hc
                        apply go
                        apply go
                        exact ⟨_, (Option.some.inj q_28).symm, (), (.c rfl (.c rfl (.c rfl (.c rfl (.c rfl (.c rfl (.c rfl (.c rfl (.c rfl (.c rfl .n)))))))))), rfl⟩
                    ·
                      have q_28 := cond_f q_28 hc
                      apply go
                      have q_2i := congrArg some (q_29 _ (Option.some.inj q_28).symm)
                      obtain rfl := Option.some.inj q_2i
                      exact ⟨(), (.c rfl (.c rfl (.c rfl (.c rfl (.c rfl (.c rfl (.c rfl (.c rfl (.c rfl .n))))))))), rfl, rfl⟩
                  ·
                    rintro ⟨⟩ _ ⟨hy, rfl⟩
                    replace hy := hy.symm
                    subst hy
                    apply go
                    obtain ⟨y_2j, q_2k, q_12⟩ := bind_some q_12
                    refine W.cut (γ := Bool) (fun g => [(0, v_1), (1, v_4), (5, (.pointer none)), (8, (.int .i64 x_v)), (13, (.int .i64 x_23)), (105, (.bool (g)))]) (fun g w' => y_2j = (g) ∧ w_1j = w') ?_ ?_
                    ·
                      apply go
                      refine sel_of (fun hc => ?_) (fun hc => ?_)
                      ·
                        have q_2k := cond_t q_2k hc
                        obtain rfl := Option.some.inj q_2k
                        exact ⟨true, (.c rfl (.c rfl (.c rfl (.c rfl (.c rfl (.c rfl .n)))))), rfl, rfl⟩
                      ·
                        have q_2k := cond_f q_2k hc
                        refine ev0 (rn_len rfl rfl Try.underlying39 r_1m) ?_
                        refine ev0 (rn_len rfl rfl Try.underlying22 r_2) ?_
                        refine sel_of (fun hc => ?_) (fun hc => ?_)
                        ·
                          have q_2k := cond_t q_2k hc
                          obtain rfl := Option.some.inj q_2k
                          exact ⟨true, (.c rfl (.c rfl (.c rfl (.c rfl (.c rfl (.c rfl .n)))))), rfl, rfl⟩
                        ·
                          have q_2k := cond_f q_2k hc
                          refine sel_of (fun hc => ?_) (fun hc => ?_)
                          ·
                            have q_2k := cond_t q_2k hc
                            refine ev0 (rn_len rfl rfl Try.underlying22 r_2) ?_
                            refine ev0 (rn_neB rfl rfl rfl Try.underlying4) ?_
                            refine sel_of (fun hc => ?_) (fun hc => ?_)
                            ·
                              have q_2k := cond_t q_2k hc
                              obtain rfl := Option.some.inj q_2k
                              exact ⟨true, (.c rfl (.c rfl (.c rfl (.c rfl (.c rfl (.c rfl .n)))))), rfl, rfl⟩
                            ·
                              have q_2k := cond_f q_2k hc
                              refine sel_of (fun hc => ?_) (fun hc => ?_)
                              ·
                                have q_2k := cond_t q_2k hc
                                obtain rfl := Option.some.inj q_2k
                                exact ⟨(x_23 != x_u), (.c rfl (.c rfl (.c rfl (.c rfl (.c rfl (.c rfl .n)))))), rfl, rfl⟩
                              ·
                                have q_2k := cond_f q_2k hc
                                obtain rfl := Option.some.inj q_2k
                                exact ⟨false, (.c rfl (.c rfl (.c rfl (.c rfl (.c rfl (.c rfl .n)))))), rfl, rfl⟩
                          ·
                            have q_2k := cond_f q_2k hc
                            refine sel_of (fun hc => ?_) (fun hc => ?_)
                            ·
                              have q_2k := cond_t q_2k hc
                              obtain rfl := Option.some.inj q_2k
                              exact ⟨(x_23 != x_u), (.c rfl (.c rfl (.c rfl (.c rfl (.c rfl (.c rfl .n)))))), rfl, rfl⟩
                            ·
                              have q_2k := cond_f q_2k hc
                              obtain rfl := Option.some.inj q_2k
                              exact ⟨false, (.c rfl (.c rfl (.c rfl (.c rfl (.c rfl (.c rfl .n)))))), rfl, rfl⟩
                    ·
                      rintro x_2l _ ⟨hy, rfl⟩
                      replace hy := hy.symm
                      subst hy
                      apply go
                      refine sel_of (fun hc => ?_) (fun hc => ?_)
                      ·
                        have q_12 := cond_t q_12 hc
                        apply go
                        apply go
                        apply go
                        obtain rfl := Option.some.inj q_12
                        have q_2m := congrArg some (q_10 _ (Option.some.inj q_z).symm)
                        obtain rfl := Option.some.inj q_2m
                        obtain rfl := Option.some.inj h
                        exact ⟨rfl, hp.ch⟩
                      ·
                        have q_12 := cond_f q_12 hc
                        apply go
                        apply go
                        obtain rfl := Option.some.inj q_12
                        exact ⟨(x_23, I_1k), (.c rfl (.c rfl (.c rfl (.c rfl (.c rfl .n))))), rfl, hp, r_2, r_5⟩
              ·
                rintro ⟨x_2n, I_2o⟩ w_2p ⟨hy, hp, r_2, r_5⟩
                replace hy := hy.symm
                subst hy
                apply go
                exact ⟨_, (Option.some.inj q_z).symm, I_2o, (.c rfl (.c rfl (.c rfl (.c rfl (.c rfl .n))))), ⟨hp, r_2, r_5⟩⟩
            ·
              have q_z := cond_f q_z hc
              apply go
              have q_2q := congrArg some (q_10 _ (Option.some.inj q_z).symm)
              obtain rfl := Option.some.inj q_2q
              exact ⟨I_w, .n, rfl, hp⟩
          ·
            rintro I_2r w_2s ⟨hy, hp⟩
            replace hy := hy.symm
            subst hy
            apply go
            apply go
            apply go
            obtain rfl := Option.some.inj h
            exact ⟨rfl, hp.ch⟩
      ·
        obtain ⟨g_2t, rfl, g_2u, E_2v, v_2w, e_2x, rfl, q_2y, o_2z⟩ := q_q
        obtain ⟨v_30, v_31, e_32, v_33, e_34, rfl, r_35, o_36, o_37⟩ := q_2y
        have hs := hq15485.st
        have hp := hp.join0 hq15485
        replace r_2 := r_2.step hs
        replace r_5 := r_5.step hs
        apply go
        apply go
        apply go
        apply go
        refine sel_of (fun hc => ?_) (fun hc => ?_)
        ·
          have h := cond_t h hc
          apply go
          apply go
          refine ev0 (rn_eqNilP rfl rfl rfl Try.underlying26 (b := false) rfl) ?_
          apply go
          obtain rfl := Option.some.inj h
          exact ⟨rfl, hp.ch⟩
        ·
          have h := cond_f h hc
          apply go
          apply go
          apply go
          obtain ⟨y_38, q_39, h⟩ := bind_some h
          refine W.cut (γ := (Nat → Prop)) (fun g => []) (fun g w' => y_38 = .go () ∧ Hp ⟨w0, I0, []⟩ (g) [] w') ?_ ?_
          ·
            apply go
            apply go
            apply go
            have hp := hp.perm [2, 3, 1, 4, 0] (by decide)
            refine W.loop q_39 (γ := (Nat × Value × Value × Ent × Value × Ent × Value × Ent × (Nat → Prop))) (fun s g => [(0, v_1), (1, v_4), (5, (.pointer (some ⟨g_2t, 0, none⟩))), (7, (.int .i64 (s.2.2.2.2.2.2.1))), (8, (.int .i64 (s.2.2.2.2.2.2.2)))]) (fun s g w' => Hp ⟨w0, I0, []⟩ (g.2.2.2.2.2.2.2.2) [(g.2.2.2.1), (g.2.2.2.2.2.1), some ((g.1), [(g.2.1), (g.2.2.1), (g.2.2.2.2.1)], 70), (g.2.2.2.2.2.2.2.1), some (g_2t, [(.pointer (some ⟨(g.1), 0, none⟩)), (g.2.2.2.2.2.2.1), (.int .i64 (s.2.2.2.2.1)), (.int .i64 (s.2.2.2.2.2.1))], 59)] w' ∧ RepS dTask w' (g.2.2.2.2.2.2.2.2) v_1 x_0 ∧ RepS (dSl (dI .i64)) w' (g.2.2.2.2.2.2.2.2) v_4 x_3 ∧ RepS dNode_2 w' (g.2.2.2.2.2.2.2.2) (g.2.1) (s.1) ∧ OwnS (dI .i64) 3 w' (g.2.2.2.2.2.2.2.2) (g.2.2.1) (g.2.2.2.1) (s.2.1) ∧ OwnS dB 4 w' (g.2.2.2.2.2.2.2.2) (g.2.2.2.2.1) (g.2.2.2.2.2.1) (s.2.2.1) ∧ OwnS dB 4 w' (g.2.2.2.2.2.2.2.2) (g.2.2.2.2.2.2.1) (g.2.2.2.2.2.2.2.1) (s.2.2.2.1)) (g_2u, v_30, v_31, e_32, v_33, e_34, v_2w, e_2x, I_n) (.c rfl (.c rfl (.c rfl (.c rfl (.c rfl .n))))) ⟨hp, r_2, r_5, r_35, o_36, o_37, o_2z⟩ ?_
            rintro ⟨x_3a, x_3b, x_3c, x_3d, x_3e, x_3f, x_3g, x_3h⟩ ⟨g_3i, v_3j, v_3k, e_3l, v_3m, e_3n, v_3o, e_3p, I_3q⟩ w_3r y_3s ⟨hp, r_2, r_5, r_3t, o_3u, o_3v, o_3w⟩ q_3x q_3y
            unfold law42_MissionOrder_L91 at q_3x
            apply go
            apply go
            apply go
            refine ev0 (rn_len rfl rfl Try.underlying23 r_5) ?_
            apply go
            refine sel_of (fun hc => ?_) (fun hc => ?_)
            ·
              have q_3x := cond_t q_3x hc
              apply go
              obtain ⟨y_3z, q_40, q_3x⟩ := bind_some q_3x
              refine W.cut (γ := ((List Node_2) × (List Int) × (List Bool) × (List Bool) × Int × Int × Int × Nat × Value × Value × Ent × Value × Ent × Value × Ent × (Nat → Prop))) (fun g => [(0, v_1), (1, v_4), (5, (.pointer (some ⟨g_2t, 0, none⟩))), (7, (.int .i64 (g.2.2.2.2.2.2.1))), (8, (.int .i64 x_3h))]) (fun g w' => y_3z = .go ((g.1), (g.2.1), (g.2.2.1), (g.2.2.2.1), (g.2.2.2.2.1), (g.2.2.2.2.2.1), (g.2.2.2.2.2.2.1)) ∧ Hp ⟨w0, I0, []⟩ (g.2.2.2.2.2.2.2.2.2.2.2.2.2.2.2) [(g.2.2.2.2.2.2.2.2.2.2.1), (g.2.2.2.2.2.2.2.2.2.2.2.2.1), some ((g.2.2.2.2.2.2.2.1), [(g.2.2.2.2.2.2.2.2.1), (g.2.2.2.2.2.2.2.2.2.1), (g.2.2.2.2.2.2.2.2.2.2.2.1)], 70), (g.2.2.2.2.2.2.2.2.2.2.2.2.2.2.1), some (g_2t, [(.pointer (some ⟨(g.2.2.2.2.2.2.2.1), 0, none⟩)), (g.2.2.2.2.2.2.2.2.2.2.2.2.2.1), (.int .i64 (g.2.2.2.2.1)), (.int .i64 (g.2.2.2.2.2.1))], 59)] w' ∧ RepS dTask w' (g.2.2.2.2.2.2.2.2.2.2.2.2.2.2.2) v_1 x_0 ∧ RepS (dSl (dI .i64)) w' (g.2.2.2.2.2.2.2.2.2.2.2.2.2.2.2) v_4 x_3 ∧ RepS dNode_2 w' (g.2.2.2.2.2.2.2.2.2.2.2.2.2.2.2) (g.2.2.2.2.2.2.2.2.1) (g.1) ∧ OwnS (dI .i64) 3 w' (g.2.2.2.2.2.2.2.2.2.2.2.2.2.2.2) (g.2.2.2.2.2.2.2.2.2.1) (g.2.2.2.2.2.2.2.2.2.2.1) (g.2.1) ∧ OwnS dB 4 w' (g.2.2.2.2.2.2.2.2.2.2.2.2.2.2.2) (g.2.2.2.2.2.2.2.2.2.2.2.1) (g.2.2.2.2.2.2.2.2.2.2.2.2.1) (g.2.2.1) ∧ OwnS dB 4 w' (g.2.2.2.2.2.2.2.2.2.2.2.2.2.2.2) (g.2.2.2.2.2.2.2.2.2.2.2.2.2.1) (g.2.2.2.2.2.2.2.2.2.2.2.2.2.2.1) (g.2.2.2.1)) ?_ ?_
              ·
                apply go
                apply go
                apply go
                obtain ⟨x_41, q_42, q_40⟩ := bind_some q_40
                refine ev_index rfl rfl rfl Try.underlying23 T31 r_5 q_42 ?_
                intro p_43 c_44 d_45 a_46
                obtain ⟨v_47, rfl, r_48⟩ := d_45
                refine ev (rn_load rfl rfl (run_loadVar1 T31 (a_46.2 0 _ rfl))) ?_
                obtain ⟨⟨x_49, x_4a, x_4b, x_4c⟩, q_4d, q_40⟩ := bind_some q_40
                refine ev_call rfl rfl C12 (((mission_Mission_Tick_ok n) _ _  (Mission.mk (Runner.mk x_3a x_3b x_3c) x_3d x_3e x_3f) g_2t [some (g_2t, [(.pointer (some ⟨g_3i, 0, none⟩)), v_3o, (.int .i64 x_3e), (.int .i64 x_3f)], 59), some (g_3i, [v_3j, v_3k, v_3m], 70), e_3l, e_3n, e_3p] ⟨g_3i, [some (g_3i, [v_3j, v_3k, v_3m], 70), e_3l, e_3n], v_3o, e_3p, rfl, ⟨v_3j, v_3k, e_3l, v_3m, e_3n, rfl, r_3t, o_3u, o_3v⟩, o_3w⟩ x_41 v_47 r_48 (hp.lendL [4, 2, 0, 1, 3] (by decide)) _ q_4d).mono ?_)
                rintro _ w_4e ⟨I_4f, F_4g, hv, hq20352, q_4h⟩
                replace hv := hv.symm
                subst hv
                obtain ⟨g_4i, E_4j, v_4k, e_4l, rfl, q_4m, o_4n⟩ := q_4h
                obtain ⟨v_4o, v_4p, e_4q, v_4r, e_4s, rfl, r_4t, o_4u, o_4v⟩ := q_4m
                have hs := hq20352.st
                have hp := hp.backL [4, 2, 0, 1, 3] [] (by decide) hq20352
                replace r_2 := r_2.step hs
                replace r_5 := r_5.step hs
                apply go
                apply go
                obtain ⟨⟨x_4w, x_4x⟩, q_4y, q_40⟩ := bind_some q_40
                refine ev_call rfl rfl C13 (((mission_Mission_Done_ok n) _ _  (Mission.mk (Runner.mk x_4c.run.nodes x_4c.run.counters x_4c.run.active) x_4c.done x_4c.status x_4c.ticks) g_2t [some (g_2t, [(.pointer (some ⟨g_4i, 0, none⟩)), v_4k, (.int .i64 x_4c.status), (.int .i64 x_4c.ticks)], 59), some (g_4i, [v_4o, v_4p, v_4r], 70), e_4q, e_4s, e_4l] ⟨g_4i, [some (g_4i, [v_4o, v_4p, v_4r], 70), e_4q, e_4s], v_4k, e_4l, rfl, ⟨v_4o, v_4p, e_4q, v_4r, e_4s, rfl, r_4t, o_4u, o_4v⟩, o_4n⟩ (hp.lendL [0, 1, 2, 3, 4] (by decide)) _ q_4y).mono ?_)
                rintro _ w_4z ⟨I_50, v_51, F_52, hv, hq20376, r_53, q_54⟩
                replace hv := hv.symm
                subst hv
                obtain ⟨g_55, E_56, v_57, e_58, rfl, q_59, o_5a⟩ := q_54
                obtain ⟨v_5b, v_5c, e_5d, v_5e, e_5f, rfl, r_5g, o_5h, o_5i⟩ := q_59
                have hs := hq20376.st
                have hp := hp.backL [0, 1, 2, 3, 4] [] (by decide) hq20376
                replace r_2 := r_2.step hs
                replace r_5 := r_5.step hs
                apply go
                apply go
                obtain ⟨y_5j, q_5k, q_40⟩ := bind_some q_40
                refine W.cut (γ := Int) (fun g => [(0, v_1), (1, v_4), (5, (.pointer (some ⟨g_2t, 0, none⟩))), (7, (.int .i64 x_3g)), (8, (.int .i64 x_3h)), (9, (.int .i64 x_49)), (11, (.int .i64 x_4b)), (12, v_51), (13, (.int .i64 (g)))]) (fun g w' => y_5j = (g) ∧ w_4z = w') ?_ ?_
                ·
                  apply go
                  refine W.loop q_5k (γ := Unit) (fun s _ => [(0, v_1), (1, v_4), (5, (.pointer (some ⟨g_2t, 0, none⟩))), (7, (.int .i64 x_3g)), (8, (.int .i64 x_3h)), (9, (.int .i64 x_49)), (11, (.int .i64 x_4b)), (12, v_51), (13, (.int .i64 (s)))]) (fun s _ w' => w_4z = w') () (.c rfl (.c rfl (.c rfl (.c rfl (.c rfl (.c rfl (.c rfl (.c rfl (.c rfl .n))))))))) rfl ?_
                  rintro x_5l ⟨⟩ _ y_5m rfl q_5n q_5o
                  unfold law42_MissionOrder_L97 at q_5n
                  apply go
                  obtain ⟨y_5p, q_5q, q_5n⟩ := bind_some q_5n
                  refine W.cut (γ := Bool) (fun g => [(0, v_1), (1, v_4), (5, (.pointer (some ⟨g_2t, 0, none⟩))), (7, (.int .i64 x_3g)), (8, (.int .i64 x_3h)), (9, (.int .i64 x_49)), (11, (.int .i64 x_4b)), (12, v_51), (13, (.int .i64 x_5l)), (60, (.bool (g)))]) (fun g w' => y_5p = (g) ∧ w_4z = w') ?_ ?_
                  ·
                    apply go
                    refine ev0 (rn_len rfl rfl Try.underlying39 r_53) ?_
                    refine sel_of (fun hc => ?_) (fun hc => ?_)
                    ·
                      have q_5q := cond_t q_5q hc
                      obtain ⟨x_5r, q_5s, q_5q⟩ := bind_some q_5q
                      refine ev_index rfl rfl rfl Try.underlying39 T4 r_53 q_5s ?_
                      intro p_5t c_5u d_5v a_5w
                      obtain rfl : c_5u = [(.bool x_5r)] := d_5v
                      refine ev (rn_load rfl rfl (run_loadVar1 T4 (a_5w.2 0 _ rfl))) ?_
                      obtain rfl := Option.some.inj q_5q
                      exact ⟨x_5r, (.c rfl (.c rfl (.c rfl (.c rfl (.c rfl (.c rfl (.c rfl (.c rfl (.c rfl (.c rfl .n)))))))))), rfl, rfl⟩
                    ·
                      have q_5q := cond_f q_5q hc
                      obtain rfl := Option.some.inj q_5q
                      exact ⟨false, (.c rfl (.c rfl (.c rfl (.c rfl (.c rfl (.c rfl (.c rfl (.c rfl (.c rfl (.c rfl .n)))))))))), rfl, rfl⟩
                  ·
                    rintro x_5x _ ⟨hy, rfl⟩
                    replace hy := hy.symm
                    subst hy
                    apply go
                    refine sel_of (fun hc => ?_) (fun hc => ?_)
                    ·
                      have q_5n := cond_t q_5n hc
                      apply go
                      apply go
                      apply go
                      exact ⟨_, (Option.some.inj q_5n).symm, (), (.c rfl (.c rfl (.c rfl (.c rfl (.c rfl (.c rfl (.c rfl (.c rfl (.c rfl .n))))))))), rfl⟩
                    ·
                      have q_5n := cond_f q_5n hc
                      apply go
                      have q_5y := congrArg some (q_5o _ (Option.some.inj q_5n).symm)
                      obtain rfl := Option.some.inj q_5y
                      exact ⟨x_5l, (.c rfl (.c rfl (.c rfl (.c rfl (.c rfl (.c rfl (.c rfl (.c rfl (.c rfl .n))))))))), rfl, rfl⟩
                ·
                  rintro x_5z _ ⟨hy, rfl⟩
                  replace hy := hy.symm
                  subst hy
                  obtain ⟨y_60, q_61, q_40⟩ := bind_some q_40
                  refine W.cut (γ := Unit) (fun _ => [(0, v_1), (1, v_4), (5, (.pointer (some ⟨g_2t, 0, none⟩))), (7, (.int .i64 x_3g)), (8, (.int .i64 x_3h)), (9, (.int .i64 x_49)), (11, (.int .i64 x_4b)), (12, v_51), (13, (.int .i64 x_5z))]) (fun _ w' => y_60 = .go () ∧ w_4z = w') ?_ ?_
                  ·
                    apply go
                    apply go
                    apply go
                    refine W.loop q_61 (γ := Unit) (fun s _ => [(0, v_1), (1, v_4), (5, (.pointer (some ⟨g_2t, 0, none⟩))), (7, (.int .i64 x_3g)), (8, (.int .i64 x_3h)), (9, (.int .i64 x_49)), (11, (.int .i64 x_4b)), (12, v_51), (13, (.int .i64 x_5z)), (14, (.int .i64 (s)))]) (fun s _ w' => w_4z = w') () (.c rfl (.c rfl (.c rfl (.c rfl (.c rfl (.c rfl (.c rfl (.c rfl (.c rfl (.c rfl .n)))))))))) rfl ?_
                    rintro x_62 ⟨⟩ _ y_63 rfl q_64 q_65
                    unfold law42_MissionOrder_L99 at q_64
                    apply go
                    apply go
                    apply go
                    refine ev0 (rn_len rfl rfl Try.underlying39 r_53) ?_
                    apply go
                    refine sel_of (fun hc => ?_) (fun hc => ?_)
                    ·
                      have q_64 := cond_t q_64 hc
                      apply go
                      apply go
                      apply go
                      apply go
                      apply go
                      obtain ⟨x_66, q_67, q_64⟩ := bind_some q_64
                      refine ev_index rfl rfl rfl Try.underlying39 T4 r_53 q_67 ?_
                      intro p_68 c_69 d_6a a_6b
                      obtain rfl : c_69 = [(.bool x_66)] := d_6a
                      refine ev (rn_load rfl rfl (run_loadVar1 T4 (a_6b.2 0 _ rfl))) ?_
                      apply go
                      refine sel_of (fun hc => ?_) (fun hc => ?_)
                      ·
                        have q_64 := cond_t q_64 hc
                        apply go
                        apply go
                        apply go
                        have q_6c := congrArg some (q_65 _ (Option.some.inj q_64).symm)
                        obtain rfl := Option.some.inj q_6c
                        obtain rfl := Option.some.inj q_40
                        have q_6d := congrArg some (q_3y _ (Option.some.inj q_3x).symm)
                        obtain rfl := Option.some.inj q_6d
                        obtain rfl := Option.some.inj h
                        exact ⟨rfl, hp.ch⟩
                      ·
                        have q_64 := cond_f q_64 hc
                        apply go
                        apply go
                        exact ⟨_, (Option.some.inj q_64).symm, (), (.c rfl (.c rfl (.c rfl (.c rfl (.c rfl (.c rfl (.c rfl (.c rfl (.c rfl (.c rfl .n)))))))))), rfl⟩
                    ·
                      have q_64 := cond_f q_64 hc
                      apply go
                      have q_6e := congrArg some (q_65 _ (Option.some.inj q_64).symm)
                      obtain rfl := Option.some.inj q_6e
                      exact ⟨(), (.c rfl (.c rfl (.c rfl (.c rfl (.c rfl (.c rfl (.c rfl (.c rfl (.c rfl .n))))))))), rfl, rfl⟩
                  ·
                    rintro ⟨⟩ _ ⟨hy, rfl⟩
                    replace hy := hy.symm
                    subst hy
                    apply go
                    obtain ⟨y_6f, q_6g, q_40⟩ := bind_some q_40
                    refine W.cut (γ := Bool) (fun g => [(0, v_1), (1, v_4), (5, (.pointer (some ⟨g_2t, 0, none⟩))), (8, (.int .i64 x_3h)), (13, (.int .i64 x_5z)), (105, (.bool (g)))]) (fun g w' => y_6f = (g) ∧ w_4z = w') ?_ ?_
                    ·
                      apply go
                      refine sel_of (fun hc => ?_) (fun hc => ?_)
                      ·
                        have q_6g := cond_t q_6g hc
                        obtain rfl := Option.some.inj q_6g
                        exact ⟨true, (.c rfl (.c rfl (.c rfl (.c rfl (.c rfl (.c rfl .n)))))), rfl, rfl⟩
                      ·
                        have q_6g := cond_f q_6g hc
                        refine ev0 (rn_len rfl rfl Try.underlying39 r_53) ?_
                        refine ev0 (rn_len rfl rfl Try.underlying22 r_2) ?_
                        refine sel_of (fun hc => ?_) (fun hc => ?_)
                        ·
                          have q_6g := cond_t q_6g hc
                          obtain rfl := Option.some.inj q_6g
                          exact ⟨true, (.c rfl (.c rfl (.c rfl (.c rfl (.c rfl (.c rfl .n)))))), rfl, rfl⟩
                        ·
                          have q_6g := cond_f q_6g hc
                          refine sel_of (fun hc => ?_) (fun hc => ?_)
                          ·
                            have q_6g := cond_t q_6g hc
                            refine ev0 (rn_len rfl rfl Try.underlying22 r_2) ?_
                            refine ev0 (rn_neB rfl rfl rfl Try.underlying4) ?_
                            refine sel_of (fun hc => ?_) (fun hc => ?_)
                            ·
                              have q_6g := cond_t q_6g hc
                              obtain rfl := Option.some.inj q_6g
                              exact ⟨true, (.c rfl (.c rfl (.c rfl (.c rfl (.c rfl (.c rfl .n)))))), rfl, rfl⟩
                            ·
                              have q_6g := cond_f q_6g hc
                              refine sel_of (fun hc => ?_) (fun hc => ?_)
                              ·
                                have q_6g := cond_t q_6g hc
                                obtain rfl := Option.some.inj q_6g
                                exact ⟨(x_5z != x_3g), (.c rfl (.c rfl (.c rfl (.c rfl (.c rfl (.c rfl .n)))))), rfl, rfl⟩
                              ·
                                have q_6g := cond_f q_6g hc
                                obtain rfl := Option.some.inj q_6g
                                exact ⟨false, (.c rfl (.c rfl (.c rfl (.c rfl (.c rfl (.c rfl .n)))))), rfl, rfl⟩
                          ·
                            have q_6g := cond_f q_6g hc
                            refine sel_of (fun hc => ?_) (fun hc => ?_)
                            ·
                              have q_6g := cond_t q_6g hc
                              obtain rfl := Option.some.inj q_6g
                              exact ⟨(x_5z != x_3g), (.c rfl (.c rfl (.c rfl (.c rfl (.c rfl (.c rfl .n)))))), rfl, rfl⟩
                            ·
                              have q_6g := cond_f q_6g hc
                              obtain rfl := Option.some.inj q_6g
                              exact ⟨false, (.c rfl (.c rfl (.c rfl (.c rfl (.c rfl (.c rfl .n)))))), rfl, rfl⟩
                    ·
                      rintro x_6h _ ⟨hy, rfl⟩
                      replace hy := hy.symm
                      subst hy
                      apply go
                      refine sel_of (fun hc => ?_) (fun hc => ?_)
                      ·
                        have q_40 := cond_t q_40 hc
                        apply go
                        apply go
                        apply go
                        obtain rfl := Option.some.inj q_40
                        have q_6i := congrArg some (q_3y _ (Option.some.inj q_3x).symm)
                        obtain rfl := Option.some.inj q_6i
                        obtain rfl := Option.some.inj h
                        exact ⟨rfl, hp.ch⟩
                      ·
                        have q_40 := cond_f q_40 hc
                        apply go
                        apply go
                        obtain rfl := Option.some.inj q_40
                        have hp := hp.perm [2, 3, 1, 4, 0] (by decide)
                        exact ⟨(x_4x.run.nodes, x_4x.run.counters, x_4x.run.active, x_4x.done, x_4x.status, x_4x.ticks, x_5z, g_55, v_5b, v_5c, e_5d, v_5e, e_5f, v_57, e_58, I_50), (.c rfl (.c rfl (.c rfl (.c rfl (.c rfl .n))))), rfl, hp, r_2, r_5, r_5g, o_5h, o_5i, o_5a⟩
              ·
                rintro ⟨x_6j, x_6k, x_6l, x_6m, x_6n, x_6o, x_6p, g_6q, v_6r, v_6s, e_6t, v_6u, e_6v, v_6w, e_6x, I_6y⟩ w_6z ⟨hy, hp, r_2, r_5, r_70, o_71, o_72, o_73⟩
                replace hy := hy.symm
                subst hy
                apply go
                exact ⟨_, (Option.some.inj q_3x).symm, (g_6q, v_6r, v_6s, e_6t, v_6u, e_6v, v_6w, e_6x, I_6y), (.c rfl (.c rfl (.c rfl (.c rfl (.c rfl .n))))), ⟨hp, r_2, r_5, r_70, o_71, o_72, o_73⟩⟩
            ·
              have q_3x := cond_f q_3x hc
              apply go
              have q_74 := congrArg some (q_3y _ (Option.some.inj q_3x).symm)
              obtain rfl := Option.some.inj q_74
              have hp := hp.sel [] (by decide)
              exact ⟨I_3q, .n, rfl, hp⟩
          ·
            rintro I_75 w_76 ⟨hy, hp⟩
            replace hy := hy.symm
            subst hy
            apply go
            apply go
            apply go
            obtain rfl := Option.some.inj h
            exact ⟨rfl, hp.ch⟩

end Go.Proofs.Ytkhmdpekfcahkaa
