/-
  Each function of the program computes the plain function of its name.
-/
import Derived.Test.YtkhmdpekfcahkaaFactsA
import Derived.Test.YtkhmdpekfcahkaaWalkA
namespace Go.Proofs.Ytkhmdpekfcahkaa
open Go Go.Proofs.Ytkhmdpekfcahkaa.Gw Go.RowKit
set_option linter.unusedVariables false
attribute [local irreducible] Ev EvQ EvS EvH
def law42_MissionTicks_S (f : (List Task) → (List (List Int)) → Int → Option Bool) : Prop := ∀ (w0 : World) (I0 : Nat → Prop) (x_0 : (List Task)) (v_1 : Value) (r_2 : RepS dTask w0 I0 v_1 x_0) (x_3 : (List (List Int))) (v_4 : Value) (r_5 : RepS (dSl (dI .i64)) w0 I0 v_4 x_3) (x_6 : Int) (hI : ∀ g, I0 g → g < w0.heap.size) (r : Bool), f x_0 x_3 x_6 = some r →
    Ret Try.prog 3 #[v_1, v_4, (.int .i64 x_6)] w0 fun v w1 => v = (.bool r) ∧ Ch [] w0 w1
set_option maxHeartbeats 6400000 in
theorem law42_MissionTicks_ok (n : Nat) : law42_MissionTicks_S (law42_MissionTicks n) := by
  intro w0 I0 x_0 v_1 r_2 x_3 v_4 r_5 x_6 hI r h
  unfold law42_MissionTicks at h
  refine enter Try.func3 rfl (Nat.le_of_ble_eq_true rfl) ?_
  have hp : Hp ⟨w0, I0, []⟩ I0 [] w0 := Hp.start hI
  apply go
  apply go
  apply go
  obtain ⟨y_7, q_8, h⟩ := bind_some h
  refine W.cut (γ := Bool) (fun g => [(0, v_1), (1, v_4), (2, (.int .i64 x_6)), (27, (.bool (g)))]) (fun g w' => y_7 = (g) ∧ Hp ⟨w0, I0, []⟩ I0 [] w' ∧ RepS dTask w' I0 v_1 x_0 ∧ RepS (dSl (dI .i64)) w' I0 v_4 x_3) ?_ ?_
  ·
    apply go
    obtain ⟨x_9, q_a, q_8⟩ := bind_some q_8
    refine ev_call rfl rfl C8 (((law42_awake_ok n) _ _   hp.imm _ q_a).mono ?_)
    rintro _ w_b ⟨rfl, hc⟩
    have hs := hp.stp hc
    replace hp := hp.ext hc
    replace r_2 := r_2.step hs
    replace r_5 := r_5.step hs
    refine sel_of (fun hc => ?_) (fun hc => ?_)
    ·
      have q_8 := cond_t q_8 hc
      obtain rfl := Option.some.inj q_8
      exact ⟨true, (.c rfl (.c rfl (.c rfl (.c rfl .n)))), rfl, hp, r_2, r_5⟩
    ·
      have q_8 := cond_f q_8 hc
      obtain ⟨x_c, q_d, q_8⟩ := bind_some q_8
      refine ev_call rfl rfl C9 (((law42_few_ok n) _ _  x_0 v_1 r_2 x_3 v_4 r_5 hp.imm _ q_d).mono ?_)
      rintro _ w_e ⟨rfl, hc⟩
      have hs := hp.stp hc
      replace hp := hp.ext hc
      replace r_2 := r_2.step hs
      replace r_5 := r_5.step hs
      obtain rfl := Option.some.inj q_8
      exact ⟨(!x_c), (.c rfl (.c rfl (.c rfl (.c rfl .n)))), rfl, hp, r_2, r_5⟩
  ·
    rintro x_f w_g ⟨hy, hp, r_2, r_5⟩
    replace hy := hy.symm
    subst hy
    apply go
    refine sel_of (fun hc => ?_) (fun hc => ?_)
    ·
      have h := cond_t h hc
      apply go
      apply go
      obtain ⟨x_h, q_i, h⟩ := bind_some h
      refine ev_call rfl rfl C8 (((law42_awake_ok n) _ _   hp.imm _ q_i).mono ?_)
      rintro _ w_j ⟨rfl, hc⟩
      have hs := hp.stp hc
      replace hp := hp.ext hc
      apply go
      obtain rfl := Option.some.inj h
      exact ⟨rfl, hp.ch⟩
    ·
      have h := cond_f h hc
      apply go
      apply go
      apply go
      obtain ⟨⟨x_k, x_l⟩, q_m, h⟩ := bind_some h
      refine ev_call rfl rfl C10 (((mission_New_ok n) _ _  x_0 v_1 r_2 hp.imm _ q_m).mono ?_)
      rintro _ w_n ⟨I_o, v_p, F_q, hv, hq5876, q_r⟩
      replace hv := hv.symm
      subst hv
      rcases x_k with _ | x_s
      ·
        obtain ⟨rfl, rfl⟩ := q_r
        have hs := hq5876.st
        have hp := hp.join0 hq5876
        replace r_2 := r_2.step hs
        replace r_5 := r_5.step hs
        apply go
        obtain ⟨y_t, q_u, h⟩ := bind_some h
        refine W.cut (γ := Bool) (fun g => [(0, v_1), (1, v_4), (2, (.int .i64 x_6)), (7, (.pointer none)), (8, (.int .i64 x_l)), (40, (.bool (g)))]) (fun g w' => y_t = (g) ∧ w_n = w') ?_ ?_
        ·
          apply go
          refine sel_of (fun hc => ?_) (fun hc => ?_)
          ·
            have q_u := cond_t q_u hc
            obtain rfl := Option.some.inj q_u
            exact ⟨true, (.c rfl (.c rfl (.c rfl (.c rfl (.c rfl (.c rfl .n)))))), rfl, rfl⟩
          ·
            have q_u := cond_f q_u hc
            refine ev0 (rn_len rfl rfl Try.underlying22 r_2) ?_
            obtain rfl := Option.some.inj q_u
            exact ⟨((x_0.length : Int) == 0), (.c rfl (.c rfl (.c rfl (.c rfl (.c rfl (.c rfl .n)))))), rfl, rfl⟩
        ·
          rintro x_v _ ⟨hy, rfl⟩
          replace hy := hy.symm
          subst hy
          apply go
          refine sel_of (fun hc => ?_) (fun hc => ?_)
          ·
            have h := cond_t h hc
            apply go
            apply go
            refine ev0 (rn_eqNilP rfl rfl rfl Try.underlying26 (b := true) rfl) ?_
            refine ev0 (rn_eqB rfl rfl rfl Try.underlying4) ?_
            apply go
            obtain rfl := Option.some.inj h
            exact ⟨rfl, hp.ch⟩
          ·
            have h := cond_f h hc
            apply go
            apply go
            apply go
            refine ev0 (rn_len rfl rfl Try.underlying22 r_2) ?_
            obtain ⟨x_w, q_x, h⟩ := bind_some h
            refine ev_call rfl rfl C11 (((base_Mod_ok n) _ _  x_6 (x_0.length : Int) hp.imm _ q_x).mono ?_)
            rintro _ w_y ⟨rfl, hc⟩
            have hs := hp.stp hc
            replace hp := hp.ext hc
            replace r_2 := r_2.step hs
            replace r_5 := r_5.step hs
            apply go
            apply go
            obtain ⟨x_z, q_10, h⟩ := bind_some h
            refine ev_make (d := (dI .i64)) (x0 := 0) hp rfl rfl rfl Try.underlying31 T3 (fun _ _ => rfl) (Nat.le_of_ble_eq_true rfl) q_10 ?_
            intro v_11 e_12 w_13 hp hs o_14
            replace r_2 := r_2.step hs
            replace r_5 := r_5.step hs
            obtain ⟨y_15, q_16, h⟩ := bind_some h
            refine W.cut (γ := ((List Int) × Ent)) (fun g => [(0, v_1), (1, v_4), (2, (.int .i64 x_w)), (7, (.pointer none)), (9, v_11)]) (fun g w' => y_15 = (g.1) ∧ Hp ⟨w0, I0, []⟩ I_o [(g.2)] w' ∧ RepS dTask w' I_o v_1 x_0 ∧ RepS (dSl (dI .i64)) w' I_o v_4 x_3 ∧ OwnS (dI .i64) 3 w' I_o v_11 (g.2) (g.1)) ?_ ?_
            ·
              apply go
              apply go
              apply go
              refine W.loop q_16 (γ := Ent) (fun s g => [(0, v_1), (1, v_4), (2, (.int .i64 x_w)), (7, (.pointer none)), (9, v_11), (10, (.int .i64 (s.2)))]) (fun s g w' => Hp ⟨w0, I0, []⟩ I_o [(g)] w' ∧ RepS dTask w' I_o v_1 x_0 ∧ RepS (dSl (dI .i64)) w' I_o v_4 x_3 ∧ OwnS (dI .i64) 3 w' I_o v_11 (g) (s.1)) e_12 (.c rfl (.c rfl (.c rfl (.c rfl (.c rfl (.c rfl .n)))))) ⟨hp, r_2, r_5, o_14⟩ ?_
              rintro ⟨x_17, x_18⟩ e_19 w_1a y_1b ⟨hp, r_2, r_5, o_1c⟩ q_1d q_1e
              unfold law42_MissionTicks_L1 at q_1d
              apply go
              apply go
              apply go
              apply go
              refine sel_of (fun hc => ?_) (fun hc => ?_)
              ·
                have q_1d := cond_t q_1d hc
                apply go
                apply go
                apply go
                apply go
                obtain ⟨x_1f, q_1g, q_1d⟩ := bind_some q_1d
                refine ev_indexO rfl rfl rfl Try.underlying31 T3 o_1c q_1g ?_
                intro g_1h c_1i h_1j d_1k l_1l
                refine ev_storeE hp (i := 0) rfl h_1j rfl rfl rfl T3 o_1c q_1g (x0 := 2) rfl ?_
                intro e_1m w_1n hp hs o_1o
                replace r_2 := r_2.step hs
                replace r_5 := r_5.step hs
                apply go
                exact ⟨_, (Option.some.inj q_1d).symm, e_1m, (.c rfl (.c rfl (.c rfl (.c rfl (.c rfl (.c rfl .n)))))), ⟨hp, r_2, r_5, o_1o⟩⟩
              ·
                have q_1d := cond_f q_1d hc
                apply go
                have q_1p := congrArg some (q_1e _ (Option.some.inj q_1d).symm)
                obtain rfl := Option.some.inj q_1p
                exact ⟨(x_17, e_19), (.c rfl (.c rfl (.c rfl (.c rfl (.c rfl .n))))), rfl, hp, r_2, r_5, o_1c⟩
            ·
              rintro ⟨x_1q, e_1r⟩ w_1s ⟨hy, hp, r_2, r_5, o_1t⟩
              replace hy := hy.symm
              subst hy
              apply go
              apply go
              obtain ⟨x_1u, q_1v, h⟩ := bind_some h
              refine ev_indexO rfl rfl rfl Try.underlying31 T3 o_1t q_1v ?_
              intro g_1w c_1x h_1y d_1z l_20
              refine ev_storeE hp (i := 0) rfl h_1y rfl rfl rfl T3 o_1t q_1v (x0 := 1) rfl ?_
              intro e_21 w_22 hp hs o_23
              replace r_2 := r_2.step hs
              replace r_5 := r_5.step hs
              apply go
              apply go
              have r_24 := o_23.frz hp (i := 0) rfl
              obtain ⟨hp, hs⟩ := freeze_hp hp (i := 0) rfl
              replace r_2 := r_2.step hs
              replace r_5 := r_5.step hs
              have hp := hp.sel [] (by decide)
              obtain ⟨⟨x_25, x_26, x_27⟩, q_28, h⟩ := bind_some h
              refine ev_call rfl rfl C12 (((mission_Mission_Ticknil_ok n) _ _  (upd x_1q x_w 1) v_11 r_24 hp.imm _ q_28).mono ?_)
              rintro _ w_29 ⟨I_2a, hv, hq⟩
              replace hv := hv.symm
              subst hv
              have hs := hq.st
              have hp := hp.join0 hq
              replace r_2 := r_2.step hs
              replace r_5 := r_5.step hs
              apply go
              obtain ⟨y_2b, q_2c, h⟩ := bind_some h
              refine W.cut (γ := Bool) (fun g => [(1, v_4), (2, (.int .i64 x_w)), (7, (.pointer none)), (90, (.bool (g)))]) (fun g w' => y_2b = (g) ∧ w_29 = w') ?_ ?_
              ·
                apply go
                refine sel_of (fun hc => ?_) (fun hc => ?_)
                ·
                  have q_2c := cond_t q_2c hc
                  obtain rfl := Option.some.inj q_2c
                  exact ⟨true, (.c rfl (.c rfl (.c rfl (.c rfl .n)))), rfl, rfl⟩
                ·
                  have q_2c := cond_f q_2c hc
                  refine sel_of (fun hc => ?_) (fun hc => ?_)
                  ·
                    have q_2c := cond_t q_2c hc
                    obtain rfl := Option.some.inj q_2c
                    exact ⟨true, (.c rfl (.c rfl (.c rfl (.c rfl .n)))), rfl, rfl⟩
                  ·
                    have q_2c := cond_f q_2c hc
                    obtain ⟨x_2d, q_2e, q_2c⟩ := bind_some q_2c
                    refine ev_index rfl rfl rfl Try.underlying22 T37 r_2 q_2e ?_
                    intro p_2f c_2g d_2h a_2i
                    obtain rfl := dTask_o d_2h
                    refine ev0 (rn_field rfl rfl FO37_2) ?_
                    refine ev (rn_load rfl rfl (run_loadVar1 T3 (a_2i.2 3 _ rfl))) ?_
                    refine ev0 (rn_neB rfl rfl rfl Try.underlying4) ?_
                    refine sel_of (fun hc => ?_) (fun hc => ?_)
                    ·
                      have q_2c := cond_t q_2c hc
                      obtain rfl := Option.some.inj q_2c
                      exact ⟨true, (.c rfl (.c rfl (.c rfl (.c rfl .n)))), rfl, rfl⟩
                    ·
                      have q_2c := cond_f q_2c hc
                      obtain rfl := Option.some.inj q_2c
                      exact ⟨(x_25 == 2), (.c rfl (.c rfl (.c rfl (.c rfl .n)))), rfl, rfl⟩
              ·
                rintro x_2j _ ⟨hy, rfl⟩
                replace hy := hy.symm
                subst hy
                apply go
                refine sel_of (fun hc => ?_) (fun hc => ?_)
                ·
                  have h := cond_t h hc
                  apply go
                  apply go
                  apply go
                  obtain rfl := Option.some.inj h
                  exact ⟨rfl, hp.ch⟩
                ·
                  have h := cond_f h hc
                  apply go
                  obtain ⟨y_2k, q_2l, h⟩ := bind_some h
                  refine W.cut (γ := (Nat → Prop)) (fun g => []) (fun g w' => y_2k = .go () ∧ Hp ⟨w0, I0, []⟩ (g) [] w') ?_ ?_
                  ·
                    apply go
                    apply go
                    apply go
                    refine W.loop q_2l (γ := (Nat → Prop)) (fun s g => [(1, v_4), (2, (.int .i64 x_w)), (7, (.pointer none)), (14, (.int .i64 (s)))]) (fun s g w' => Hp ⟨w0, I0, []⟩ (g) [] w' ∧ RepS (dSl (dI .i64)) w' (g) v_4 x_3) I_2a (.c rfl (.c rfl (.c rfl (.c rfl .n)))) ⟨hp, r_5⟩ ?_
                    rintro x_2m I_2n w_2o y_2p ⟨hp, r_5⟩ q_2q q_2r
                    unfold law42_MissionTicks_L23 at q_2q
                    apply go
                    apply go
                    apply go
                    refine ev0 (rn_len rfl rfl Try.underlying23 r_5) ?_
                    apply go
                    refine sel_of (fun hc => ?_) (fun hc => ?_)
                    ·
                      have q_2q := cond_t q_2q hc
                      apply go
                      obtain ⟨y_2s, q_2t, q_2q⟩ := bind_some q_2q
                      refine W.cut (γ := (Nat → Prop)) (fun g => [(1, v_4), (2, (.int .i64 x_w)), (7, (.pointer none)), (14, (.int .i64 x_2m))]) (fun g w' => y_2s = .go () ∧ Hp ⟨w0, I0, []⟩ (g) [] w' ∧ RepS (dSl (dI .i64)) w' (g) v_4 x_3) ?_ ?_
                      ·
                        apply go
                        apply go
                        apply go
                        refine ev_litON (d := (dI .i64)) (xs := ([] : List Int)) (cs := []) hp rfl rfl Try.underlying31 T3 (by decide) (by decide) rfl rfl (Elems.nil _ _ _ _) ?_
                        intro v_2u e_2v w_2w hp hs o_2x
                        replace r_5 := r_5.step hs
                        obtain ⟨x_2y, q_2z, q_2t⟩ := bind_some q_2t
                        refine ev_index rfl rfl rfl Try.underlying23 T31 r_5 q_2z ?_
                        intro p_30 c_31 d_32 a_33
                        obtain ⟨v_34, rfl, r_35⟩ := d_32
                        refine ev (rn_load rfl rfl (run_loadVar1 T31 (a_33.2 0 _ rfl))) ?_
                        obtain ⟨x_36, q_37, q_2t⟩ := bind_some q_2t
                        refine ev_append hp (i := 0) rfl rfl rfl rfl Try.underlying31 T3 rfl rfl o_2x r_35 q_37 ?_
                        rintro v_38 e_39 w_3a hp hs o_3b
                        replace r_5 := r_5.step hs
                        obtain ⟨y_3c, q_3d, q_2t⟩ := bind_some q_2t
                        refine W.cut (γ := ((List Int) × Ent)) (fun g => [(1, v_4), (2, (.int .i64 x_w)), (7, (.pointer none)), (14, (.int .i64 x_2m)), (15, v_38)]) (fun g w' => y_3c = (g.1) ∧ Hp ⟨w0, I0, []⟩ I_2n [(g.2)] w' ∧ RepS (dSl (dI .i64)) w' I_2n v_4 x_3 ∧ OwnS (dI .i64) 3 w' I_2n v_38 (g.2) (g.1)) ?_ ?_
                        ·
                          apply go
                          apply go
                          apply go
                          refine W.loop q_3d (γ := Ent) (fun s g => [(1, v_4), (2, (.int .i64 x_w)), (7, (.pointer none)), (14, (.int .i64 x_2m)), (15, v_38), (16, (.int .i64 (s.2)))]) (fun s g w' => Hp ⟨w0, I0, []⟩ I_2n [(g)] w' ∧ RepS (dSl (dI .i64)) w' I_2n v_4 x_3 ∧ OwnS (dI .i64) 3 w' I_2n v_38 (g) (s.1)) e_39 (.c rfl (.c rfl (.c rfl (.c rfl (.c rfl (.c rfl .n)))))) ⟨hp, r_5, o_3b⟩ ?_
                          rintro ⟨x_3e, x_3f⟩ e_3g w_3h y_3i ⟨hp, r_5, o_3j⟩ q_3k q_3l
                          unfold law42_MissionTicks_L27 at q_3k
                          apply go
                          apply go
                          apply go
                          refine ev0 (x_lenO rfl rfl Try.underlying31 o_3j) ?_
                          apply go
                          refine sel_of (fun hc => ?_) (fun hc => ?_)
                          ·
                            have q_3k := cond_t q_3k hc
                            apply go
                            obtain ⟨y_3m, q_3n, q_3k⟩ := bind_some q_3k
                            refine W.cut (γ := ((List Int) × Ent)) (fun g => [(1, v_4), (2, (.int .i64 x_w)), (7, (.pointer none)), (14, (.int .i64 x_2m)), (15, v_38), (16, (.int .i64 x_3f))]) (fun g w' => y_3m = (g.1) ∧ Hp ⟨w0, I0, []⟩ I_2n [(g.2)] w' ∧ RepS (dSl (dI .i64)) w' I_2n v_4 x_3 ∧ OwnS (dI .i64) 3 w' I_2n v_38 (g.2) (g.1)) ?_ ?_
                            ·
                              apply go
                              apply go
                              apply go
                              obtain ⟨x_3o, q_3p, q_3n⟩ := bind_some q_3n
                              refine ev_indexO rfl rfl rfl Try.underlying31 T3 o_3j q_3p ?_
                              intro g_3q c_3r h_3s d_3t l_3u
                              refine ev (rn_load rfl rfl (run_loadVar1 T3 (hp.cellE (i := 0) rfl h_3s d_3t (j := 0) rfl))) ?_
                              apply go
                              refine sel_of (fun hc => ?_) (fun hc => ?_)
                              ·
                                have q_3n := cond_t q_3n hc
                                apply go
                                obtain ⟨x_3v, q_3w, q_3n⟩ := bind_some q_3n
                                refine ev_indexO rfl rfl rfl Try.underlying31 T3 o_3j q_3w ?_
                                intro g_3x c_3y h_3z d_40 l_41
                                refine ev_storeE hp (i := 0) rfl h_3z rfl rfl rfl T3 o_3j q_3w (x0 := 3) rfl ?_
                                intro e_42 w_43 hp hs o_44
                                replace r_5 := r_5.step hs
                                obtain rfl := Option.some.inj q_3n
                                exact ⟨((upd x_3e x_3f 3), e_42), (.c rfl (.c rfl (.c rfl (.c rfl (.c rfl (.c rfl .n)))))), rfl, hp, r_5, o_44⟩
                              ·
                                have q_3n := cond_f q_3n hc
                                apply go
                                obtain rfl := Option.some.inj q_3n
                                exact ⟨(x_3e, e_3g), (.c rfl (.c rfl (.c rfl (.c rfl (.c rfl (.c rfl .n)))))), rfl, hp, r_5, o_3j⟩
                            ·
                              rintro ⟨x_45, e_46⟩ w_47 ⟨hy, hp, r_5, o_48⟩
                              replace hy := hy.symm
                              subst hy
                              apply go
                              exact ⟨_, (Option.some.inj q_3k).symm, e_46, (.c rfl (.c rfl (.c rfl (.c rfl (.c rfl (.c rfl .n)))))), ⟨hp, r_5, o_48⟩⟩
                          ·
                            have q_3k := cond_f q_3k hc
                            apply go
                            have q_49 := congrArg some (q_3l _ (Option.some.inj q_3k).symm)
                            obtain rfl := Option.some.inj q_49
                            exact ⟨(x_3e, e_3g), (.c rfl (.c rfl (.c rfl (.c rfl (.c rfl .n))))), rfl, hp, r_5, o_3j⟩
                        ·
                          rintro ⟨x_4a, e_4b⟩ w_4c ⟨hy, hp, r_5, o_4d⟩
                          replace hy := hy.symm
                          subst hy
                          apply go
                          apply go
                          have r_4e := o_4d.frz hp (i := 0) rfl
                          obtain ⟨hp, hs⟩ := freeze_hp hp (i := 0) rfl
                          replace r_5 := r_5.step hs
                          have hp := hp.sel [] (by decide)
                          obtain ⟨⟨x_4f, x_4g, x_4h⟩, q_4i, q_2t⟩ := bind_some q_2t
                          refine ev_call rfl rfl C12 (((mission_Mission_Ticknil_ok n) _ _  x_4a v_38 r_4e hp.imm _ q_4i).mono ?_)
                          rintro _ w_4j ⟨I_4k, hv, hq⟩
                          replace hv := hv.symm
                          subst hv
                          have hs := hq.st
                          have hp := hp.join0 hq
                          replace r_5 := r_5.step hs
                          apply go
                          apply go
                          apply go
                          apply go
                          refine sel_of (fun hc => ?_) (fun hc => ?_)
                          ·
                            have q_2t := cond_t q_2t hc
                            obtain ⟨y_4l, q_4m, q_2t⟩ := bind_some q_2t
                            refine W.cut (γ := Bool) (fun g => [(6, (.bool (g)))]) (fun g w' => y_4l = (g) ∧ w_4j = w') ?_ ?_
                            ·
                              apply go
                              refine sel_of (fun hc => ?_) (fun hc => ?_)
                              ·
                                have q_4m := cond_t q_4m hc
                                obtain rfl := Option.some.inj q_4m
                                exact ⟨(x_4g == 0), (.c rfl .n), rfl, rfl⟩
                              ·
                                have q_4m := cond_f q_4m hc
                                obtain rfl := Option.some.inj q_4m
                                exact ⟨false, (.c rfl .n), rfl, rfl⟩
                            ·
                              rintro x_4n _ ⟨hy, rfl⟩
                              replace hy := hy.symm
                              subst hy
                              apply go
                              obtain rfl := Option.some.inj q_2t
                              have q_4o := congrArg some (q_2r _ (Option.some.inj q_2q).symm)
                              obtain rfl := Option.some.inj q_4o
                              obtain rfl := Option.some.inj h
                              exact ⟨rfl, hp.ch⟩
                          ·
                            have q_2t := cond_f q_2t hc
                            apply go
                            obtain ⟨y_4p, q_4q, q_2t⟩ := bind_some q_2t
                            refine W.cut (γ := Bool) (fun g => [(1, v_4), (2, (.int .i64 x_w)), (7, (.pointer none)), (14, (.int .i64 x_2m)), (148, (.bool (g)))]) (fun g w' => y_4p = (g) ∧ w_4j = w') ?_ ?_
                            ·
                              apply go
                              refine sel_of (fun hc => ?_) (fun hc => ?_)
                              ·
                                have q_4q := cond_t q_4q hc
                                obtain rfl := Option.some.inj q_4q
                                exact ⟨true, (.c rfl (.c rfl (.c rfl (.c rfl (.c rfl .n))))), rfl, rfl⟩
                              ·
                                have q_4q := cond_f q_4q hc
                                refine sel_of (fun hc => ?_) (fun hc => ?_)
                                ·
                                  have q_4q := cond_t q_4q hc
                                  obtain rfl := Option.some.inj q_4q
                                  exact ⟨true, (.c rfl (.c rfl (.c rfl (.c rfl (.c rfl .n))))), rfl, rfl⟩
                                ·
                                  have q_4q := cond_f q_4q hc
                                  refine sel_of (fun hc => ?_) (fun hc => ?_)
                                  ·
                                    have q_4q := cond_t q_4q hc
                                    obtain rfl := Option.some.inj q_4q
                                    exact ⟨(x_4g != (IntKind.i64.wrap (32 + x_w))), (.c rfl (.c rfl (.c rfl (.c rfl (.c rfl .n))))), rfl, rfl⟩
                                  ·
                                    have q_4q := cond_f q_4q hc
                                    obtain rfl := Option.some.inj q_4q
                                    exact ⟨false, (.c rfl (.c rfl (.c rfl (.c rfl (.c rfl .n))))), rfl, rfl⟩
                            ·
                              rintro x_4r _ ⟨hy, rfl⟩
                              replace hy := hy.symm
                              subst hy
                              apply go
                              refine sel_of (fun hc => ?_) (fun hc => ?_)
                              ·
                                have q_2t := cond_t q_2t hc
                                apply go
                                apply go
                                apply go
                                obtain rfl := Option.some.inj q_2t
                                have q_4s := congrArg some (q_2r _ (Option.some.inj q_2q).symm)
                                obtain rfl := Option.some.inj q_4s
                                obtain rfl := Option.some.inj h
                                exact ⟨rfl, hp.ch⟩
                              ·
                                have q_2t := cond_f q_2t hc
                                apply go
                                obtain rfl := Option.some.inj q_2t
                                exact ⟨I_4k, (.c rfl (.c rfl (.c rfl (.c rfl .n)))), rfl, hp, r_5⟩
                      ·
                        rintro I_4t w_4u ⟨hy, hp, r_5⟩
                        replace hy := hy.symm
                        subst hy
                        apply go
                        exact ⟨_, (Option.some.inj q_2q).symm, I_4t, (.c rfl (.c rfl (.c rfl (.c rfl .n)))), ⟨hp, r_5⟩⟩
                    ·
                      have q_2q := cond_f q_2q hc
                      apply go
                      have q_4v := congrArg some (q_2r _ (Option.some.inj q_2q).symm)
                      obtain rfl := Option.some.inj q_4v
                      exact ⟨I_2n, .n, rfl, hp⟩
                  ·
                    rintro I_4w w_4x ⟨hy, hp⟩
                    replace hy := hy.symm
                    subst hy
                    apply go
                    apply go
                    apply go
                    obtain rfl := Option.some.inj h
                    exact ⟨rfl, hp.ch⟩
      ·
        obtain ⟨g_4y, rfl, g_4z, E_50, v_51, e_52, rfl, q_53, o_54⟩ := q_r
        obtain ⟨v_55, v_56, e_57, v_58, e_59, rfl, r_5a, o_5b, o_5c⟩ := q_53
        have hs := hq5876.st
        have hp := hp.join0 hq5876
        replace r_2 := r_2.step hs
        replace r_5 := r_5.step hs
        apply go
        obtain ⟨y_5d, q_5e, h⟩ := bind_some h
        refine W.cut (γ := Bool) (fun g => [(0, v_1), (1, v_4), (2, (.int .i64 x_6)), (7, (.pointer (some ⟨g_4y, 0, none⟩))), (8, (.int .i64 x_l)), (40, (.bool (g)))]) (fun g w' => y_5d = (g) ∧ w_n = w') ?_ ?_
        ·
          apply go
          refine sel_of (fun hc => ?_) (fun hc => ?_)
          ·
            have q_5e := cond_t q_5e hc
            obtain rfl := Option.some.inj q_5e
            exact ⟨true, (.c rfl (.c rfl (.c rfl (.c rfl (.c rfl (.c rfl .n)))))), rfl, rfl⟩
          ·
            have q_5e := cond_f q_5e hc
            refine ev0 (rn_len rfl rfl Try.underlying22 r_2) ?_
            obtain rfl := Option.some.inj q_5e
            exact ⟨((x_0.length : Int) == 0), (.c rfl (.c rfl (.c rfl (.c rfl (.c rfl (.c rfl .n)))))), rfl, rfl⟩
        ·
          rintro x_5f _ ⟨hy, rfl⟩
          replace hy := hy.symm
          subst hy
          apply go
          refine sel_of (fun hc => ?_) (fun hc => ?_)
          ·
            have h := cond_t h hc
            apply go
            apply go
            refine ev0 (rn_eqNilP rfl rfl rfl Try.underlying26 (b := false) rfl) ?_
            refine ev0 (rn_eqB rfl rfl rfl Try.underlying4) ?_
            apply go
            obtain rfl := Option.some.inj h
            exact ⟨rfl, hp.ch⟩
          ·
            have h := cond_f h hc
            apply go
            apply go
            apply go
            refine ev0 (rn_len rfl rfl Try.underlying22 r_2) ?_
            obtain ⟨x_5g, q_5h, h⟩ := bind_some h
            refine ev_call rfl rfl C11 (((base_Mod_ok n) _ _  x_6 (x_0.length : Int) hp.imm _ q_5h).mono ?_)
            rintro _ w_5i ⟨rfl, hc⟩
            have hs := hp.stp hc
            replace hp := hp.ext hc
            replace r_2 := r_2.step hs
            replace r_5 := r_5.step hs
            replace o_54 := o_54.step hs
            replace r_5a := r_5a.step hs
            replace o_5b := o_5b.step hs
            replace o_5c := o_5c.step hs
            apply go
            apply go
            obtain ⟨x_5j, q_5k, h⟩ := bind_some h
            refine ev_make (d := (dI .i64)) (x0 := 0) hp rfl rfl rfl Try.underlying31 T3 (fun _ _ => rfl) (Nat.le_of_ble_eq_true rfl) q_5k ?_
            intro v_5l e_5m w_5n hp hs o_5o
            replace r_2 := r_2.step hs
            replace r_5 := r_5.step hs
            replace o_54 := o_54.step hs
            replace r_5a := r_5a.step hs
            replace o_5b := o_5b.step hs
            replace o_5c := o_5c.step hs
            obtain ⟨y_5p, q_5q, h⟩ := bind_some h
            refine W.cut (γ := ((List Int) × Ent)) (fun g => [(0, v_1), (1, v_4), (2, (.int .i64 x_5g)), (7, (.pointer (some ⟨g_4y, 0, none⟩))), (9, v_5l)]) (fun g w' => y_5p = (g.1) ∧ Hp ⟨w0, I0, []⟩ I_o [e_57, e_59, some (g_4z, [v_55, v_56, v_58], 70), e_52, some (g_4y, [(.pointer (some ⟨g_4z, 0, none⟩)), v_51, (.int .i64 x_s.status), (.int .i64 x_s.ticks)], 59), (g.2)] w' ∧ RepS dTask w' I_o v_1 x_0 ∧ RepS (dSl (dI .i64)) w' I_o v_4 x_3 ∧ RepS dNode_2 w' I_o v_55 x_s.run.nodes ∧ OwnS (dI .i64) 3 w' I_o v_56 e_57 x_s.run.counters ∧ OwnS dB 4 w' I_o v_58 e_59 x_s.run.active ∧ OwnS dB 4 w' I_o v_51 e_52 x_s.done ∧ OwnS (dI .i64) 3 w' I_o v_5l (g.2) (g.1)) ?_ ?_
            ·
              apply go
              apply go
              apply go
              have hp := hp.perm [3, 4, 2, 5, 1, 0] (by decide)
              refine W.loop q_5q (γ := Ent) (fun s g => [(0, v_1), (1, v_4), (2, (.int .i64 x_5g)), (7, (.pointer (some ⟨g_4y, 0, none⟩))), (9, v_5l), (10, (.int .i64 (s.2)))]) (fun s g w' => Hp ⟨w0, I0, []⟩ I_o [e_57, e_59, some (g_4z, [v_55, v_56, v_58], 70), e_52, some (g_4y, [(.pointer (some ⟨g_4z, 0, none⟩)), v_51, (.int .i64 x_s.status), (.int .i64 x_s.ticks)], 59), (g)] w' ∧ RepS dTask w' I_o v_1 x_0 ∧ RepS (dSl (dI .i64)) w' I_o v_4 x_3 ∧ RepS dNode_2 w' I_o v_55 x_s.run.nodes ∧ OwnS (dI .i64) 3 w' I_o v_56 e_57 x_s.run.counters ∧ OwnS dB 4 w' I_o v_58 e_59 x_s.run.active ∧ OwnS dB 4 w' I_o v_51 e_52 x_s.done ∧ OwnS (dI .i64) 3 w' I_o v_5l (g) (s.1)) e_5m (.c rfl (.c rfl (.c rfl (.c rfl (.c rfl (.c rfl .n)))))) ⟨hp, r_2, r_5, r_5a, o_5b, o_5c, o_54, o_5o⟩ ?_
              rintro ⟨x_5r, x_5s⟩ e_5t w_5u y_5v ⟨hp, r_2, r_5, r_5a, o_5b, o_5c, o_54, o_5w⟩ q_5x q_5y
              unfold law42_MissionTicks_L29 at q_5x
              apply go
              apply go
              apply go
              apply go
              refine sel_of (fun hc => ?_) (fun hc => ?_)
              ·
                have q_5x := cond_t q_5x hc
                apply go
                apply go
                apply go
                apply go
                obtain ⟨x_5z, q_60, q_5x⟩ := bind_some q_5x
                refine ev_indexO rfl rfl rfl Try.underlying31 T3 o_5w q_60 ?_
                intro g_61 c_62 h_63 d_64 l_65
                refine ev_storeE hp (i := 5) rfl h_63 rfl rfl rfl T3 o_5w q_60 (x0 := 2) rfl ?_
                intro e_66 w_67 hp hs o_68
                replace r_2 := r_2.step hs
                replace r_5 := r_5.step hs
                replace r_5a := r_5a.step hs
                replace o_5b := o_5b.step hs
                replace o_5c := o_5c.step hs
                replace o_54 := o_54.step hs
                apply go
                exact ⟨_, (Option.some.inj q_5x).symm, e_66, (.c rfl (.c rfl (.c rfl (.c rfl (.c rfl (.c rfl .n)))))), ⟨hp, r_2, r_5, r_5a, o_5b, o_5c, o_54, o_68⟩⟩
              ·
                have q_5x := cond_f q_5x hc
                apply go
                have q_69 := congrArg some (q_5y _ (Option.some.inj q_5x).symm)
                obtain rfl := Option.some.inj q_69
                exact ⟨(x_5r, e_5t), (.c rfl (.c rfl (.c rfl (.c rfl (.c rfl .n))))), rfl, hp, r_2, r_5, r_5a, o_5b, o_5c, o_54, o_5w⟩
            ·
              rintro ⟨x_6a, e_6b⟩ w_6c ⟨hy, hp, r_2, r_5, r_5a, o_5b, o_5c, o_54, o_6d⟩
              replace hy := hy.symm
              subst hy
              apply go
              apply go
              obtain ⟨x_6e, q_6f, h⟩ := bind_some h
              refine ev_indexO rfl rfl rfl Try.underlying31 T3 o_6d q_6f ?_
              intro g_6g c_6h h_6i d_6j l_6k
              refine ev_storeE hp (i := 5) rfl h_6i rfl rfl rfl T3 o_6d q_6f (x0 := 1) rfl ?_
              intro e_6l w_6m hp hs o_6n
              replace r_2 := r_2.step hs
              replace r_5 := r_5.step hs
              replace r_5a := r_5a.step hs
              replace o_5b := o_5b.step hs
              replace o_5c := o_5c.step hs
              replace o_54 := o_54.step hs
              apply go
              apply go
              have r_6o := o_6n.frz hp (i := 5) rfl
              obtain ⟨hp, hs⟩ := freeze_hp hp (i := 5) rfl
              replace r_2 := r_2.step hs
              replace r_5 := r_5.step hs
              replace r_5a := r_5a.step hs
              replace o_5b := o_5b.step hs
              replace o_5c := o_5c.step hs
              replace o_54 := o_54.step hs
              have hp := hp.sel [0, 1, 2, 3, 4] (by decide)
              obtain ⟨⟨x_6p, x_6q, x_6r, x_6s⟩, q_6t, h⟩ := bind_some h
              refine ev_call rfl rfl C12 (((mission_Mission_Tick_ok n) _ _  (Mission.mk (Runner.mk x_s.run.nodes x_s.run.counters x_s.run.active) x_s.done x_s.status x_s.ticks) g_4y [some (g_4y, [(.pointer (some ⟨g_4z, 0, none⟩)), v_51, (.int .i64 x_s.status), (.int .i64 x_s.ticks)], 59), some (g_4z, [v_55, v_56, v_58], 70), e_57, e_59, e_52] ⟨g_4z, [some (g_4z, [v_55, v_56, v_58], 70), e_57, e_59], v_51, e_52, rfl, ⟨v_55, v_56, e_57, v_58, e_59, rfl, r_5a, o_5b, o_5c⟩, o_54⟩ (upd x_6a x_5g 1) v_5l r_6o (hp.lendL [4, 2, 0, 1, 3] (by decide)) _ q_6t).mono ?_)
              rintro _ w_6u ⟨I_6v, F_6w, hv, hq10599, q_6x⟩
              replace hv := hv.symm
              subst hv
              obtain ⟨g_6y, E_6z, v_70, e_71, rfl, q_72, o_73⟩ := q_6x
              obtain ⟨v_74, v_75, e_76, v_77, e_78, rfl, r_79, o_7a, o_7b⟩ := q_72
              have hs := hq10599.st
              have hp := hp.backL [4, 2, 0, 1, 3] [] (by decide) hq10599
              replace r_2 := r_2.step hs
              replace r_5 := r_5.step hs
              apply go
              obtain ⟨y_7c, q_7d, h⟩ := bind_some h
              refine W.cut (γ := Bool) (fun g => [(1, v_4), (2, (.int .i64 x_5g)), (7, (.pointer (some ⟨g_4y, 0, none⟩))), (90, (.bool (g)))]) (fun g w' => y_7c = (g) ∧ w_6u = w') ?_ ?_
              ·
                apply go
                refine sel_of (fun hc => ?_) (fun hc => ?_)
                ·
                  have q_7d := cond_t q_7d hc
                  obtain rfl := Option.some.inj q_7d
                  exact ⟨true, (.c rfl (.c rfl (.c rfl (.c rfl .n)))), rfl, rfl⟩
                ·
                  have q_7d := cond_f q_7d hc
                  refine sel_of (fun hc => ?_) (fun hc => ?_)
                  ·
                    have q_7d := cond_t q_7d hc
                    obtain rfl := Option.some.inj q_7d
                    exact ⟨true, (.c rfl (.c rfl (.c rfl (.c rfl .n)))), rfl, rfl⟩
                  ·
                    have q_7d := cond_f q_7d hc
                    obtain ⟨x_7e, q_7f, q_7d⟩ := bind_some q_7d
                    refine ev_index rfl rfl rfl Try.underlying22 T37 r_2 q_7f ?_
                    intro p_7g c_7h d_7i a_7j
                    obtain rfl := dTask_o d_7i
                    refine ev0 (rn_field rfl rfl FO37_2) ?_
                    refine ev (rn_load rfl rfl (run_loadVar1 T3 (a_7j.2 3 _ rfl))) ?_
                    refine ev0 (rn_neB rfl rfl rfl Try.underlying4) ?_
                    refine sel_of (fun hc => ?_) (fun hc => ?_)
                    ·
                      have q_7d := cond_t q_7d hc
                      obtain rfl := Option.some.inj q_7d
                      exact ⟨true, (.c rfl (.c rfl (.c rfl (.c rfl .n)))), rfl, rfl⟩
                    ·
                      have q_7d := cond_f q_7d hc
                      obtain rfl := Option.some.inj q_7d
                      exact ⟨(x_6p == 2), (.c rfl (.c rfl (.c rfl (.c rfl .n)))), rfl, rfl⟩
              ·
                rintro x_7k _ ⟨hy, rfl⟩
                replace hy := hy.symm
                subst hy
                apply go
                refine sel_of (fun hc => ?_) (fun hc => ?_)
                ·
                  have h := cond_t h hc
                  apply go
                  apply go
                  apply go
                  obtain rfl := Option.some.inj h
                  exact ⟨rfl, hp.ch⟩
                ·
                  have h := cond_f h hc
                  apply go
                  obtain ⟨y_7l, q_7m, h⟩ := bind_some h
                  refine W.cut (γ := (Nat → Prop)) (fun g => []) (fun g w' => y_7l = .go () ∧ Hp ⟨w0, I0, []⟩ (g) [] w') ?_ ?_
                  ·
                    apply go
                    apply go
                    apply go
                    have hp := hp.perm [2, 3, 1, 4, 0] (by decide)
                    refine W.loop q_7m (γ := (Nat × Value × Value × Ent × Value × Ent × Value × Ent × (Nat → Prop))) (fun s g => [(1, v_4), (2, (.int .i64 x_5g)), (7, (.pointer (some ⟨g_4y, 0, none⟩))), (14, (.int .i64 (s.2.2.2.2.2.2)))]) (fun s g w' => Hp ⟨w0, I0, []⟩ (g.2.2.2.2.2.2.2.2) [(g.2.2.2.1), (g.2.2.2.2.2.1), some ((g.1), [(g.2.1), (g.2.2.1), (g.2.2.2.2.1)], 70), (g.2.2.2.2.2.2.2.1), some (g_4y, [(.pointer (some ⟨(g.1), 0, none⟩)), (g.2.2.2.2.2.2.1), (.int .i64 (s.2.2.2.2.1)), (.int .i64 (s.2.2.2.2.2.1))], 59)] w' ∧ RepS (dSl (dI .i64)) w' (g.2.2.2.2.2.2.2.2) v_4 x_3 ∧ RepS dNode_2 w' (g.2.2.2.2.2.2.2.2) (g.2.1) (s.1) ∧ OwnS (dI .i64) 3 w' (g.2.2.2.2.2.2.2.2) (g.2.2.1) (g.2.2.2.1) (s.2.1) ∧ OwnS dB 4 w' (g.2.2.2.2.2.2.2.2) (g.2.2.2.2.1) (g.2.2.2.2.2.1) (s.2.2.1) ∧ OwnS dB 4 w' (g.2.2.2.2.2.2.2.2) (g.2.2.2.2.2.2.1) (g.2.2.2.2.2.2.2.1) (s.2.2.2.1)) (g_6y, v_74, v_75, e_76, v_77, e_78, v_70, e_71, I_6v) (.c rfl (.c rfl (.c rfl (.c rfl .n)))) ⟨hp, r_5, r_79, o_7a, o_7b, o_73⟩ ?_
                    rintro ⟨x_7n, x_7o, x_7p, x_7q, x_7r, x_7s, x_7t⟩ ⟨g_7u, v_7v, v_7w, e_7x, v_7y, e_7z, v_80, e_81, I_82⟩ w_83 y_84 ⟨hp, r_5, r_85, o_86, o_87, o_88⟩ q_89 q_8a
                    unfold law42_MissionTicks_L51 at q_89
                    apply go
                    apply go
                    apply go
                    refine ev0 (rn_len rfl rfl Try.underlying23 r_5) ?_
                    apply go
                    refine sel_of (fun hc => ?_) (fun hc => ?_)
                    ·
                      have q_89 := cond_t q_89 hc
                      apply go
                      obtain ⟨y_8b, q_8c, q_89⟩ := bind_some q_89
                      refine W.cut (γ := ((List Node_2) × (List Int) × (List Bool) × (List Bool) × Int × Int × Nat × Value × Value × Ent × Value × Ent × Value × Ent × (Nat → Prop))) (fun g => [(1, v_4), (2, (.int .i64 x_5g)), (7, (.pointer (some ⟨g_4y, 0, none⟩))), (14, (.int .i64 x_7t))]) (fun g w' => y_8b = .go ((g.1), (g.2.1), (g.2.2.1), (g.2.2.2.1), (g.2.2.2.2.1), (g.2.2.2.2.2.1)) ∧ Hp ⟨w0, I0, []⟩ (g.2.2.2.2.2.2.2.2.2.2.2.2.2.2) [(g.2.2.2.2.2.2.2.2.2.1), (g.2.2.2.2.2.2.2.2.2.2.2.1), some ((g.2.2.2.2.2.2.1), [(g.2.2.2.2.2.2.2.1), (g.2.2.2.2.2.2.2.2.1), (g.2.2.2.2.2.2.2.2.2.2.1)], 70), (g.2.2.2.2.2.2.2.2.2.2.2.2.2.1), some (g_4y, [(.pointer (some ⟨(g.2.2.2.2.2.2.1), 0, none⟩)), (g.2.2.2.2.2.2.2.2.2.2.2.2.1), (.int .i64 (g.2.2.2.2.1)), (.int .i64 (g.2.2.2.2.2.1))], 59)] w' ∧ RepS (dSl (dI .i64)) w' (g.2.2.2.2.2.2.2.2.2.2.2.2.2.2) v_4 x_3 ∧ RepS dNode_2 w' (g.2.2.2.2.2.2.2.2.2.2.2.2.2.2) (g.2.2.2.2.2.2.2.1) (g.1) ∧ OwnS (dI .i64) 3 w' (g.2.2.2.2.2.2.2.2.2.2.2.2.2.2) (g.2.2.2.2.2.2.2.2.1) (g.2.2.2.2.2.2.2.2.2.1) (g.2.1) ∧ OwnS dB 4 w' (g.2.2.2.2.2.2.2.2.2.2.2.2.2.2) (g.2.2.2.2.2.2.2.2.2.2.1) (g.2.2.2.2.2.2.2.2.2.2.2.1) (g.2.2.1) ∧ OwnS dB 4 w' (g.2.2.2.2.2.2.2.2.2.2.2.2.2.2) (g.2.2.2.2.2.2.2.2.2.2.2.2.1) (g.2.2.2.2.2.2.2.2.2.2.2.2.2.1) (g.2.2.2.1)) ?_ ?_
                      ·
                        apply go
                        apply go
                        apply go
                        refine ev_litON (d := (dI .i64)) (xs := ([] : List Int)) (cs := []) hp rfl rfl Try.underlying31 T3 (by decide) (by decide) rfl rfl (Elems.nil _ _ _ _) ?_
                        intro v_8d e_8e w_8f hp hs o_8g
                        replace r_5 := r_5.step hs
                        replace r_85 := r_85.step hs
                        replace o_86 := o_86.step hs
                        replace o_87 := o_87.step hs
                        replace o_88 := o_88.step hs
                        obtain ⟨x_8h, q_8i, q_8c⟩ := bind_some q_8c
                        refine ev_index rfl rfl rfl Try.underlying23 T31 r_5 q_8i ?_
                        intro p_8j c_8k d_8l a_8m
                        obtain ⟨v_8n, rfl, r_8o⟩ := d_8l
                        refine ev (rn_load rfl rfl (run_loadVar1 T31 (a_8m.2 0 _ rfl))) ?_
                        obtain ⟨x_8p, q_8q, q_8c⟩ := bind_some q_8c
                        refine ev_append hp (i := 0) rfl rfl rfl rfl Try.underlying31 T3 rfl rfl o_8g r_8o q_8q ?_
                        rintro v_8r e_8s w_8t hp hs o_8u
                        replace r_5 := r_5.step hs
                        replace r_85 := r_85.step hs
                        replace o_86 := o_86.step hs
                        replace o_87 := o_87.step hs
                        replace o_88 := o_88.step hs
                        obtain ⟨y_8v, q_8w, q_8c⟩ := bind_some q_8c
                        refine W.cut (γ := ((List Int) × Ent)) (fun g => [(1, v_4), (2, (.int .i64 x_5g)), (7, (.pointer (some ⟨g_4y, 0, none⟩))), (14, (.int .i64 x_7t)), (15, v_8r)]) (fun g w' => y_8v = (g.1) ∧ Hp ⟨w0, I0, []⟩ I_82 [e_7x, e_7z, some (g_7u, [v_7v, v_7w, v_7y], 70), e_81, some (g_4y, [(.pointer (some ⟨g_7u, 0, none⟩)), v_80, (.int .i64 x_7r), (.int .i64 x_7s)], 59), (g.2)] w' ∧ RepS (dSl (dI .i64)) w' I_82 v_4 x_3 ∧ RepS dNode_2 w' I_82 v_7v x_7n ∧ OwnS (dI .i64) 3 w' I_82 v_7w e_7x x_7o ∧ OwnS dB 4 w' I_82 v_7y e_7z x_7p ∧ OwnS dB 4 w' I_82 v_80 e_81 x_7q ∧ OwnS (dI .i64) 3 w' I_82 v_8r (g.2) (g.1)) ?_ ?_
                        ·
                          apply go
                          apply go
                          apply go
                          have hp := hp.perm [1, 2, 3, 4, 5, 0] (by decide)
                          refine W.loop q_8w (γ := Ent) (fun s g => [(1, v_4), (2, (.int .i64 x_5g)), (7, (.pointer (some ⟨g_4y, 0, none⟩))), (14, (.int .i64 x_7t)), (15, v_8r), (16, (.int .i64 (s.2)))]) (fun s g w' => Hp ⟨w0, I0, []⟩ I_82 [e_7x, e_7z, some (g_7u, [v_7v, v_7w, v_7y], 70), e_81, some (g_4y, [(.pointer (some ⟨g_7u, 0, none⟩)), v_80, (.int .i64 x_7r), (.int .i64 x_7s)], 59), (g)] w' ∧ RepS (dSl (dI .i64)) w' I_82 v_4 x_3 ∧ RepS dNode_2 w' I_82 v_7v x_7n ∧ OwnS (dI .i64) 3 w' I_82 v_7w e_7x x_7o ∧ OwnS dB 4 w' I_82 v_7y e_7z x_7p ∧ OwnS dB 4 w' I_82 v_80 e_81 x_7q ∧ OwnS (dI .i64) 3 w' I_82 v_8r (g) (s.1)) e_8s (.c rfl (.c rfl (.c rfl (.c rfl (.c rfl (.c rfl .n)))))) ⟨hp, r_5, r_85, o_86, o_87, o_88, o_8u⟩ ?_
                          rintro ⟨x_8x, x_8y⟩ e_8z w_90 y_91 ⟨hp, r_5, r_85, o_86, o_87, o_88, o_92⟩ q_93 q_94
                          unfold law42_MissionTicks_L55 at q_93
                          apply go
                          apply go
                          apply go
                          refine ev0 (x_lenO rfl rfl Try.underlying31 o_92) ?_
                          apply go
                          refine sel_of (fun hc => ?_) (fun hc => ?_)
                          ·
                            have q_93 := cond_t q_93 hc
                            apply go
                            obtain ⟨y_95, q_96, q_93⟩ := bind_some q_93
                            refine W.cut (γ := ((List Int) × Ent)) (fun g => [(1, v_4), (2, (.int .i64 x_5g)), (7, (.pointer (some ⟨g_4y, 0, none⟩))), (14, (.int .i64 x_7t)), (15, v_8r), (16, (.int .i64 x_8y))]) (fun g w' => y_95 = (g.1) ∧ Hp ⟨w0, I0, []⟩ I_82 [e_7x, e_7z, some (g_7u, [v_7v, v_7w, v_7y], 70), e_81, some (g_4y, [(.pointer (some ⟨g_7u, 0, none⟩)), v_80, (.int .i64 x_7r), (.int .i64 x_7s)], 59), (g.2)] w' ∧ RepS (dSl (dI .i64)) w' I_82 v_4 x_3 ∧ RepS dNode_2 w' I_82 v_7v x_7n ∧ OwnS (dI .i64) 3 w' I_82 v_7w e_7x x_7o ∧ OwnS dB 4 w' I_82 v_7y e_7z x_7p ∧ OwnS dB 4 w' I_82 v_80 e_81 x_7q ∧ OwnS (dI .i64) 3 w' I_82 v_8r (g.2) (g.1)) ?_ ?_
                            ·
                              apply go
                              apply go
                              apply go
                              obtain ⟨x_97, q_98, q_96⟩ := bind_some q_96
                              refine ev_indexO rfl rfl rfl Try.underlying31 T3 o_92 q_98 ?_
                              intro g_99 c_9a h_9b d_9c l_9d
                              refine ev (rn_load rfl rfl (run_loadVar1 T3 (hp.cellE (i := 5) rfl h_9b d_9c (j := 0) rfl))) ?_
                              apply go
                              refine sel_of (fun hc => ?_) (fun hc => ?_)
                              ·
                                have q_96 := cond_t q_96 hc
                                apply go
                                obtain ⟨x_9e, q_9f, q_96⟩ := bind_some q_96
                                refine ev_indexO rfl rfl rfl Try.underlying31 T3 o_92 q_9f ?_
                                intro g_9g c_9h h_9i d_9j l_9k
                                refine ev_storeE hp (i := 5) rfl h_9i rfl rfl rfl T3 o_92 q_9f (x0 := 3) rfl ?_
                                intro e_9l w_9m hp hs o_9n
                                replace r_5 := r_5.step hs
                                replace r_85 := r_85.step hs
                                replace o_86 := o_86.step hs
                                replace o_87 := o_87.step hs
                                replace o_88 := o_88.step hs
                                obtain rfl := Option.some.inj q_96
                                exact ⟨((upd x_8x x_8y 3), e_9l), (.c rfl (.c rfl (.c rfl (.c rfl (.c rfl (.c rfl .n)))))), rfl, hp, r_5, r_85, o_86, o_87, o_88, o_9n⟩
                              ·
                                have q_96 := cond_f q_96 hc
                                apply go
                                obtain rfl := Option.some.inj q_96
                                exact ⟨(x_8x, e_8z), (.c rfl (.c rfl (.c rfl (.c rfl (.c rfl (.c rfl .n)))))), rfl, hp, r_5, r_85, o_86, o_87, o_88, o_92⟩
                            ·
                              rintro ⟨x_9o, e_9p⟩ w_9q ⟨hy, hp, r_5, r_85, o_86, o_87, o_88, o_9r⟩
                              replace hy := hy.symm
                              subst hy
                              apply go
                              exact ⟨_, (Option.some.inj q_93).symm, e_9p, (.c rfl (.c rfl (.c rfl (.c rfl (.c rfl (.c rfl .n)))))), ⟨hp, r_5, r_85, o_86, o_87, o_88, o_9r⟩⟩
                          ·
                            have q_93 := cond_f q_93 hc
                            apply go
                            have q_9s := congrArg some (q_94 _ (Option.some.inj q_93).symm)
                            obtain rfl := Option.some.inj q_9s
                            exact ⟨(x_8x, e_8z), (.c rfl (.c rfl (.c rfl (.c rfl (.c rfl .n))))), rfl, hp, r_5, r_85, o_86, o_87, o_88, o_92⟩
                        ·
                          rintro ⟨x_9t, e_9u⟩ w_9v ⟨hy, hp, r_5, r_85, o_86, o_87, o_88, o_9w⟩
                          replace hy := hy.symm
                          subst hy
                          apply go
                          apply go
                          have r_9x := o_9w.frz hp (i := 5) rfl
                          obtain ⟨hp, hs⟩ := freeze_hp hp (i := 5) rfl
                          replace r_5 := r_5.step hs
                          replace r_85 := r_85.step hs
                          replace o_86 := o_86.step hs
                          replace o_87 := o_87.step hs
                          replace o_88 := o_88.step hs
                          have hp := hp.sel [0, 1, 2, 3, 4] (by decide)
                          obtain ⟨⟨x_9y, x_9z, x_a0, x_a1⟩, q_a2, q_8c⟩ := bind_some q_8c
                          refine ev_call rfl rfl C12 (((mission_Mission_Tick_ok n) _ _  (Mission.mk (Runner.mk x_7n x_7o x_7p) x_7q x_7r x_7s) g_4y [some (g_4y, [(.pointer (some ⟨g_7u, 0, none⟩)), v_80, (.int .i64 x_7r), (.int .i64 x_7s)], 59), some (g_7u, [v_7v, v_7w, v_7y], 70), e_7x, e_7z, e_81] ⟨g_7u, [some (g_7u, [v_7v, v_7w, v_7y], 70), e_7x, e_7z], v_80, e_81, rfl, ⟨v_7v, v_7w, e_7x, v_7y, e_7z, rfl, r_85, o_86, o_87⟩, o_88⟩ x_9t v_8r r_9x (hp.lendL [4, 2, 0, 1, 3] (by decide)) _ q_a2).mono ?_)
                          rintro _ w_a3 ⟨I_a4, F_a5, hv, hq15395, q_a6⟩
                          replace hv := hv.symm
                          subst hv
                          obtain ⟨g_a7, E_a8, v_a9, e_aa, rfl, q_ab, o_ac⟩ := q_a6
                          obtain ⟨v_ad, v_ae, e_af, v_ag, e_ah, rfl, r_ai, o_aj, o_ak⟩ := q_ab
                          have hs := hq15395.st
                          have hp := hp.backL [4, 2, 0, 1, 3] [] (by decide) hq15395
                          replace r_5 := r_5.step hs
                          apply go
                          apply go
                          apply go
                          apply go
                          refine sel_of (fun hc => ?_) (fun hc => ?_)
                          ·
                            have q_8c := cond_t q_8c hc
                            obtain ⟨y_al, q_am, q_8c⟩ := bind_some q_8c
                            refine W.cut (γ := Bool) (fun g => [(6, (.bool (g)))]) (fun g w' => y_al = (g) ∧ w_a3 = w') ?_ ?_
                            ·
                              apply go
                              refine sel_of (fun hc => ?_) (fun hc => ?_)
                              ·
                                have q_am := cond_t q_am hc
                                obtain rfl := Option.some.inj q_am
                                exact ⟨(x_9z == 0), (.c rfl .n), rfl, rfl⟩
                              ·
                                have q_am := cond_f q_am hc
                                obtain rfl := Option.some.inj q_am
                                exact ⟨false, (.c rfl .n), rfl, rfl⟩
                            ·
                              rintro x_an _ ⟨hy, rfl⟩
                              replace hy := hy.symm
                              subst hy
                              apply go
                              obtain rfl := Option.some.inj q_8c
                              have q_ao := congrArg some (q_8a _ (Option.some.inj q_89).symm)
                              obtain rfl := Option.some.inj q_ao
                              obtain rfl := Option.some.inj h
                              exact ⟨rfl, hp.ch⟩
                          ·
                            have q_8c := cond_f q_8c hc
                            apply go
                            obtain ⟨y_ap, q_aq, q_8c⟩ := bind_some q_8c
                            refine W.cut (γ := Bool) (fun g => [(1, v_4), (2, (.int .i64 x_5g)), (7, (.pointer (some ⟨g_4y, 0, none⟩))), (14, (.int .i64 x_7t)), (148, (.bool (g)))]) (fun g w' => y_ap = (g) ∧ w_a3 = w') ?_ ?_
                            ·
                              apply go
                              refine sel_of (fun hc => ?_) (fun hc => ?_)
                              ·
                                have q_aq := cond_t q_aq hc
                                obtain rfl := Option.some.inj q_aq
                                exact ⟨true, (.c rfl (.c rfl (.c rfl (.c rfl (.c rfl .n))))), rfl, rfl⟩
                              ·
                                have q_aq := cond_f q_aq hc
                                refine sel_of (fun hc => ?_) (fun hc => ?_)
                                ·
                                  have q_aq := cond_t q_aq hc
                                  obtain rfl := Option.some.inj q_aq
                                  exact ⟨true, (.c rfl (.c rfl (.c rfl (.c rfl (.c rfl .n))))), rfl, rfl⟩
                                ·
                                  have q_aq := cond_f q_aq hc
                                  refine sel_of (fun hc => ?_) (fun hc => ?_)
                                  ·
                                    have q_aq := cond_t q_aq hc
                                    obtain rfl := Option.some.inj q_aq
                                    exact ⟨(x_9z != (IntKind.i64.wrap (32 + x_5g))), (.c rfl (.c rfl (.c rfl (.c rfl (.c rfl .n))))), rfl, rfl⟩
                                  ·
                                    have q_aq := cond_f q_aq hc
                                    obtain rfl := Option.some.inj q_aq
                                    exact ⟨false, (.c rfl (.c rfl (.c rfl (.c rfl (.c rfl .n))))), rfl, rfl⟩
                            ·
                              rintro x_ar _ ⟨hy, rfl⟩
                              replace hy := hy.symm
                              subst hy
                              apply go
                              refine sel_of (fun hc => ?_) (fun hc => ?_)
                              ·
                                have q_8c := cond_t q_8c hc
                                apply go
                                apply go
                                apply go
                                obtain rfl := Option.some.inj q_8c
                                have q_as := congrArg some (q_8a _ (Option.some.inj q_89).symm)
                                obtain rfl := Option.some.inj q_as
                                obtain rfl := Option.some.inj h
                                exact ⟨rfl, hp.ch⟩
                              ·
                                have q_8c := cond_f q_8c hc
                                apply go
                                obtain rfl := Option.some.inj q_8c
                                have hp := hp.perm [2, 3, 1, 4, 0] (by decide)
                                exact ⟨(x_a1.run.nodes, x_a1.run.counters, x_a1.run.active, x_a1.done, x_a1.status, x_a1.ticks, g_a7, v_ad, v_ae, e_af, v_ag, e_ah, v_a9, e_aa, I_a4), (.c rfl (.c rfl (.c rfl (.c rfl .n)))), rfl, hp, r_5, r_ai, o_aj, o_ak, o_ac⟩
                      ·
                        rintro ⟨x_at, x_au, x_av, x_aw, x_ax, x_ay, g_az, v_b0, v_b1, e_b2, v_b3, e_b4, v_b5, e_b6, I_b7⟩ w_b8 ⟨hy, hp, r_5, r_b9, o_ba, o_bb, o_bc⟩
                        replace hy := hy.symm
                        subst hy
                        apply go
                        exact ⟨_, (Option.some.inj q_89).symm, (g_az, v_b0, v_b1, e_b2, v_b3, e_b4, v_b5, e_b6, I_b7), (.c rfl (.c rfl (.c rfl (.c rfl .n)))), ⟨hp, r_5, r_b9, o_ba, o_bb, o_bc⟩⟩
                    ·
                      have q_89 := cond_f q_89 hc
                      apply go
                      have q_bd := congrArg some (q_8a _ (Option.some.inj q_89).symm)
                      obtain rfl := Option.some.inj q_bd
                      have hp := hp.sel [] (by decide)
                      exact ⟨I_82, .n, rfl, hp⟩
                  ·
                    rintro I_be w_bf ⟨hy, hp⟩
                    replace hy := hy.symm
                    subst hy
                    apply go
                    apply go
                    apply go
                    obtain rfl := Option.some.inj h
                    exact ⟨rfl, hp.ch⟩

end Go.Proofs.Ytkhmdpekfcahkaa
