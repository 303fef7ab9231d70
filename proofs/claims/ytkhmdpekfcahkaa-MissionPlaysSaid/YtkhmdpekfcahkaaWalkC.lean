/-
  Each function of the program computes the plain function of its name.
-/
import Derived.Test.YtkhmdpekfcahkaaFactsA
import Derived.Test.YtkhmdpekfcahkaaWalkA
import Derived.Test.YtkhmdpekfcahkaaWalkB
namespace Go.Proofs.Ytkhmdpekfcahkaa
open Go Go.Proofs.Ytkhmdpekfcahkaa.Gw Go.RowKit
set_option linter.unusedVariables false
attribute [local irreducible] Ev EvQ EvS EvH
def law42_MissionPlays_S (f : (List Task) → (List (List Int)) → Option Bool) : Prop := ∀ (w0 : World) (I0 : Nat → Prop) (x_0 : (List Task)) (v_1 : Value) (r_2 : RepS dTask w0 I0 v_1 x_0) (x_3 : (List (List Int))) (v_4 : Value) (r_5 : RepS (dSl (dI .i64)) w0 I0 v_4 x_3) (hI : ∀ g, I0 g → g < w0.heap.size) (r : Bool), f x_0 x_3 = some r →
    Ret Try.prog 7 #[v_1, v_4] w0 fun v w1 => v = (.bool r) ∧ Ch [] w0 w1
set_option maxHeartbeats 6400000 in
theorem law42_MissionPlays_ok (n : Nat) : law42_MissionPlays_S (law42_MissionPlays n) := by
  intro w0 I0 x_0 v_1 r_2 x_3 v_4 r_5 hI r h
  unfold law42_MissionPlays at h
  refine enter Try.func7 rfl (Nat.le_of_ble_eq_true rfl) ?_
  have hp : Hp ⟨w0, I0, []⟩ I0 [] w0 := Hp.start hI
  apply go
  apply go
  apply go
  obtain ⟨y_6, q_7, h⟩ := bind_some h
  refine W.cut (γ := Bool) (fun g => [(0, v_1), (1, v_4), (30, (.bool (g)))]) (fun g w' => y_6 = (g) ∧ Hp ⟨w0, I0, []⟩ I0 [] w' ∧ RepS dTask w' I0 v_1 x_0 ∧ RepS (dSl (dI .i64)) w' I0 v_4 x_3) ?_ ?_
  ·
    apply go
    obtain ⟨x_8, q_9, q_7⟩ := bind_some q_7
    refine ev_call rfl rfl C8 (((law42_awake_ok n) _ _   hp.imm _ q_9).mono ?_)
    rintro _ w_a ⟨rfl, hc⟩
    have hs := hp.stp hc
    replace hp := hp.ext hc
    replace r_2 := r_2.step hs
    replace r_5 := r_5.step hs
    refine sel_of (fun hc => ?_) (fun hc => ?_)
    ·
      have q_7 := cond_t q_7 hc
      obtain rfl := Option.some.inj q_7
      exact ⟨true, (.c rfl (.c rfl (.c rfl .n))), rfl, hp, r_2, r_5⟩
    ·
      have q_7 := cond_f q_7 hc
      obtain ⟨x_b, q_c, q_7⟩ := bind_some q_7
      refine ev_call rfl rfl C9 (((law42_few_ok n) _ _  x_0 v_1 r_2 x_3 v_4 r_5 hp.imm _ q_c).mono ?_)
      rintro _ w_d ⟨rfl, hc⟩
      have hs := hp.stp hc
      replace hp := hp.ext hc
      replace r_2 := r_2.step hs
      replace r_5 := r_5.step hs
      obtain rfl := Option.some.inj q_7
      exact ⟨(!x_b), (.c rfl (.c rfl (.c rfl .n))), rfl, hp, r_2, r_5⟩
  ·
    rintro x_e w_f ⟨hy, hp, r_2, r_5⟩
    replace hy := hy.symm
    subst hy
    apply go
    refine sel_of (fun hc => ?_) (fun hc => ?_)
    ·
      have h := cond_t h hc
      apply go
      apply go
      obtain ⟨x_g, q_h, h⟩ := bind_some h
      refine ev_call rfl rfl C8 (((law42_awake_ok n) _ _   hp.imm _ q_h).mono ?_)
      rintro _ w_i ⟨rfl, hc⟩
      have hs := hp.stp hc
      replace hp := hp.ext hc
      apply go
      obtain rfl := Option.some.inj h
      exact ⟨rfl, hp.ch⟩
    ·
      have h := cond_f h hc
      apply go
      apply go
      apply go
      obtain ⟨⟨x_j, x_k⟩, q_l, h⟩ := bind_some h
      refine ev_call rfl rfl C10 (((mission_New_ok n) _ _  x_0 v_1 r_2 hp.imm _ q_l).mono ?_)
      rintro _ w_m ⟨I_n, v_o, F_p, hv, hq25418, q_q⟩
      replace hv := hv.symm
      subst hv
      rcases x_j with _ | x_r
      ·
        obtain ⟨rfl, rfl⟩ := q_q
        have hs := hq25418.st
        have hp := hp.join0 hq25418
        replace r_2 := r_2.step hs
        replace r_5 := r_5.step hs
        apply go
        apply go
        obtain ⟨⟨x_s, x_t⟩, q_u, h⟩ := bind_some h
        refine ev_call rfl rfl C16 (((ref42_New_ok n) _ _  x_0 v_1 r_2 hp.imm _ q_u).mono ?_)
        rintro _ w_v ⟨I_w, v_x, hv, hq, r_y⟩
        replace hv := hv.symm
        subst hv
        have hs := hq.st
        have hp := hp.join0 hq
        replace r_2 := r_2.step hs
        replace r_5 := r_5.step hs
        refine ev_alloc hp rfl T44 ?_
        intro g_z w_10 hp hs
        replace r_2 := r_2.step hs
        replace r_5 := r_5.step hs
        replace r_y := r_y.step hs
        refine ev_storeA hp (i := 0) (off := 0) (vs := [v_x, (.int .i64 x_s.Done), (.int .i64 x_s.Ran), (.int .i64 x_s.Failed), (.int .i64 x_s.Status), (.int .i64 x_s.Ticks)]) rfl rfl rfl rfl T44 rfl (Nat.le_of_ble_eq_true rfl) (ones_cons r_y.one (ones_cons rfl (ones_cons rfl (ones_cons rfl (ones_cons rfl (ones_cons rfl ones_nil)))))) ?_
        intro w_11 hp hs
        replace r_2 := r_2.step hs
        replace r_5 := r_5.step hs
        replace r_y := r_y.step hs
        apply go
        obtain ⟨y_12, q_13, h⟩ := bind_some h
        refine W.cut (γ := Bool) (fun g => [(0, v_1), (1, v_4), (5, (.pointer none)), (7, (.pointer (some ⟨g_z, 0, none⟩))), (8, (.int .i64 x_t)), (51, (.bool (g)))]) (fun g w' => y_12 = (g) ∧ w_11 = w') ?_ ?_
        ·
          apply go
          refine sel_of (fun hc => ?_) (fun hc => ?_)
          ·
            have q_13 := cond_t q_13 hc
            obtain rfl := Option.some.inj q_13
            exact ⟨true, (.c rfl (.c rfl (.c rfl (.c rfl (.c rfl (.c rfl .n)))))), rfl, rfl⟩
          ·
            have q_13 := cond_f q_13 hc
            refine ev0 (rn_eqNilP rfl rfl rfl Try.underlying26 (b := true) rfl) ?_
            refine ev0 (rn_neB rfl rfl rfl Try.underlying4) ?_
            obtain rfl := Option.some.inj q_13
            exact ⟨(!(true == (x_t != 0))), (.c rfl (.c rfl (.c rfl (.c rfl (.c rfl (.c rfl .n)))))), rfl, rfl⟩
        ·
          rintro x_14 _ ⟨hy, rfl⟩
          replace hy := hy.symm
          subst hy
          apply go
          refine sel_of (fun hc => ?_) (fun hc => ?_)
          ·
            have h := cond_t h hc
            apply go
            apply go
            apply go
            obtain rfl := Option.some.inj h
            exact ⟨rfl, hp.ch⟩
          ·
            have h := cond_f h hc
            apply go
            apply go
            apply go
            apply go
            apply go
            refine sel_of (fun hc => ?_) (fun hc => ?_)
            ·
              have h := cond_t h hc
              apply go
              apply go
              obtain ⟨⟨x_15, x_16, x_17⟩, q_18, h⟩ := bind_some h
              refine ev_call rfl rfl C12 (((mission_Mission_Ticknil_ok n) _ _  [] (.slice none 0 0) (RepS.nil _ _ _) hp.imm _ q_18).mono ?_)
              rintro _ w_19 ⟨I_1a, hv, hq⟩
              replace hv := hv.symm
              subst hv
              have hs := hq.st
              have hp := hp.join0 hq
              replace r_y := r_y.step hs
              obtain ⟨y_1b, q_1c, h⟩ := bind_some h
              refine W.cut (γ := (Bool × (Nat → Prop))) (fun g => [(4, (.bool (g.1)))]) (fun g w' => y_1b = (g.1) ∧ Hp ⟨w0, I0, []⟩ (g.2) [] w') ?_ ?_
              ·
                apply go
                refine sel_of (fun hc => ?_) (fun hc => ?_)
                ·
                  have q_1c := cond_t q_1c hc
                  refine sel_of (fun hc => ?_) (fun hc => ?_)
                  ·
                    have q_1c := cond_t q_1c hc
                    refine sel_of (fun hc => ?_) (fun hc => ?_)
                    ·
                      have q_1c := cond_t q_1c hc
                      obtain ⟨x_1d, q_1e, q_1c⟩ := bind_some q_1c
                      refine ev_call rfl rfl C13 (((mission_Mission_Donenil_ok n) _ _   hp.imm _ q_1e).mono ?_)
                      rintro _ w_1f ⟨I_1g, v_1h, hv, hq, r_1i⟩
                      replace hv := hv.symm
                      subst hv
                      have hs := hq.st
                      have hp := hp.join0 hq
                      replace r_y := r_y.step hs
                      refine ev0 (rn_len rfl rfl Try.underlying39 r_1i) ?_
                      refine sel_of (fun hc => ?_) (fun hc => ?_)
                      ·
                        have q_1c := cond_t q_1c hc
                        obtain ⟨x_1j, q_1k, q_1c⟩ := bind_some q_1c
                        refine ev_call rfl rfl C15 (((mission_Mission_Statusnil_ok n) _ _   hp.imm _ q_1k).mono ?_)
                        rintro _ w_1l ⟨I_1m, hv, hq⟩
                        replace hv := hv.symm
                        subst hv
                        have hs := hq.st
                        have hp := hp.join0 hq
                        replace r_y := r_y.step hs
                        refine sel_of (fun hc => ?_) (fun hc => ?_)
                        ·
                          have q_1c := cond_t q_1c hc
                          obtain ⟨x_1n, q_1o, q_1c⟩ := bind_some q_1c
                          refine ev_call rfl rfl C14 (((mission_Mission_Ticksnil_ok n) _ _   hp.imm _ q_1o).mono ?_)
                          rintro _ w_1p ⟨I_1q, hv, hq⟩
                          replace hv := hv.symm
                          subst hv
                          have hs := hq.st
                          have hp := hp.join0 hq
                          replace r_y := r_y.step hs
                          refine sel_of (fun hc => ?_) (fun hc => ?_)
                          ·
                            have q_1c := cond_t q_1c hc
                            obtain ⟨x_1r, q_1s, q_1c⟩ := bind_some q_1c
                            refine ev_call rfl rfl C17 (((mission_Mission_Clonenil_ok n) _ _   hp.imm _ q_1s).mono ?_)
                            rintro _ w_1t ⟨I_1u, v_1v, F_1w, hv, hq25503, q_1x⟩
                            replace hv := hv.symm
                            subst hv
                            rcases x_1r with _ | x_1y
                            ·
                              obtain ⟨rfl, rfl⟩ := q_1x
                              have hs := hq25503.st
                              have hp := hp.join0 hq25503
                              replace r_y := r_y.step hs
                              refine ev0 (rn_eqNilP rfl rfl rfl Try.underlying26 (b := true) rfl) ?_
                              obtain rfl := Option.some.inj q_1c
                              have hp := hp.sel [] (by decide)
                              exact ⟨(true, I_1u), (.c rfl .n), rfl, hp⟩
                            ·
                              obtain ⟨g_1z, rfl, g_20, E_21, v_22, e_23, rfl, q_24, o_25⟩ := q_1x
                              obtain ⟨v_26, v_27, e_28, v_29, e_2a, rfl, r_2b, o_2c, o_2d⟩ := q_24
                              have hs := hq25503.st
                              have hp := hp.join0 hq25503
                              replace r_y := r_y.step hs
                              refine ev0 (rn_eqNilP rfl rfl rfl Try.underlying26 (b := false) rfl) ?_
                              obtain rfl := Option.some.inj q_1c
                              have hp := hp.sel [] (by decide)
                              exact ⟨(false, I_1u), (.c rfl .n), rfl, hp⟩
                          ·
                            have q_1c := cond_f q_1c hc
                            obtain rfl := Option.some.inj q_1c
                            have hp := hp.sel [] (by decide)
                            exact ⟨(false, I_1q), (.c rfl .n), rfl, hp⟩
                        ·
                          have q_1c := cond_f q_1c hc
                          obtain rfl := Option.some.inj q_1c
                          have hp := hp.sel [] (by decide)
                          exact ⟨(false, I_1m), (.c rfl .n), rfl, hp⟩
                      ·
                        have q_1c := cond_f q_1c hc
                        obtain rfl := Option.some.inj q_1c
                        have hp := hp.sel [] (by decide)
                        exact ⟨(false, I_1g), (.c rfl .n), rfl, hp⟩
                    ·
                      have q_1c := cond_f q_1c hc
                      obtain rfl := Option.some.inj q_1c
                      have hp := hp.sel [] (by decide)
                      exact ⟨(false, I_1a), (.c rfl .n), rfl, hp⟩
                  ·
                    have q_1c := cond_f q_1c hc
                    obtain rfl := Option.some.inj q_1c
                    have hp := hp.sel [] (by decide)
                    exact ⟨(false, I_1a), (.c rfl .n), rfl, hp⟩
                ·
                  have q_1c := cond_f q_1c hc
                  obtain rfl := Option.some.inj q_1c
                  have hp := hp.sel [] (by decide)
                  exact ⟨(false, I_1a), (.c rfl .n), rfl, hp⟩
              ·
                rintro ⟨x_2e, I_2f⟩ w_2g ⟨hy, hp⟩
                replace hy := hy.symm
                subst hy
                apply go
                obtain rfl := Option.some.inj h
                exact ⟨rfl, hp.ch⟩
            ·
              have h := cond_f h hc
              apply go
              apply go
              apply go
              obtain ⟨x_2h, q_2i, h⟩ := bind_some h
              refine ev_call rfl rfl C17 (((mission_Mission_Clonenil_ok n) _ _   hp.imm _ q_2i).mono ?_)
              rintro _ w_2j ⟨I_2k, v_2l, F_2m, hv, hq25527, q_2n⟩
              replace hv := hv.symm
              subst hv
              rcases x_2h with _ | x_2o
              ·
                obtain ⟨rfl, rfl⟩ := q_2n
                have hs := hq25527.st
                have hp := hp.join0 hq25527
                replace r_2 := r_2.step hs
                replace r_5 := r_5.step hs
                replace r_y := r_y.step hs
                obtain ⟨y_2p, q_2q, h⟩ := bind_some h
                refine W.cut (γ := (Nat → Prop)) (fun g => [(0, v_1), (12, (.pointer none))]) (fun g w' => y_2p = .go () ∧ Hp ⟨w0, I0, []⟩ (g) [] w' ∧ RepS dTask w' (g) v_1 x_0) ?_ ?_
                ·
                  apply go
                  apply go
                  apply go
                  refine W.loop q_2q (γ := (Value × (Nat → Prop))) (fun s g => [(0, v_1), (1, v_4), (5, (.pointer none)), (7, (.pointer (some ⟨g_z, 0, none⟩))), (12, (.pointer none)), (13, (.int .i64 (s.2.2.2.2.2.2)))]) (fun s g w' => Hp ⟨w0, I0, []⟩ (g.2) [some (g_z, [(g.1), (.int .i64 (s.2.1)), (.int .i64 (s.2.2.1)), (.int .i64 (s.2.2.2.1)), (.int .i64 (s.2.2.2.2.1)), (.int .i64 (s.2.2.2.2.2.1))], 44)] w' ∧ RepS dTask w' (g.2) v_1 x_0 ∧ RepS (dSl (dI .i64)) w' (g.2) v_4 x_3 ∧ RepS dTask w' (g.2) (g.1) (s.1)) (v_x, I_2k) (.c rfl (.c rfl (.c rfl (.c rfl (.c rfl (.c rfl .n)))))) ⟨hp, r_2, r_5, r_y⟩ ?_
                  rintro ⟨x_2r, x_2s, x_2t, x_2u, x_2v, x_2w, x_2x⟩ ⟨v_2y, I_2z⟩ w_30 y_31 ⟨hp, r_2, r_5, r_32⟩ q_33 q_34
                  unfold law42_MissionPlays_L11 at q_33
                  apply go
                  apply go
                  apply go
                  refine ev0 (rn_len rfl rfl Try.underlying23 r_5) ?_
                  apply go
                  refine sel_of (fun hc => ?_) (fun hc => ?_)
                  ·
                    have q_33 := cond_t q_33 hc
                    apply go
                    obtain ⟨y_35, q_36, q_33⟩ := bind_some q_33
                    refine W.cut (γ := ((List Task) × Int × Int × Int × Int × Int × Value × (Nat → Prop))) (fun g => [(0, v_1), (1, v_4), (5, (.pointer none)), (7, (.pointer (some ⟨g_z, 0, none⟩))), (12, (.pointer none)), (13, (.int .i64 x_2x))]) (fun g w' => y_35 = .go ((g.1), (g.2.1), (g.2.2.1), (g.2.2.2.1), (g.2.2.2.2.1), (g.2.2.2.2.2.1)) ∧ Hp ⟨w0, I0, []⟩ (g.2.2.2.2.2.2.2) [some (g_z, [(g.2.2.2.2.2.2.1), (.int .i64 (g.2.1)), (.int .i64 (g.2.2.1)), (.int .i64 (g.2.2.2.1)), (.int .i64 (g.2.2.2.2.1)), (.int .i64 (g.2.2.2.2.2.1))], 44)] w' ∧ RepS dTask w' (g.2.2.2.2.2.2.2) v_1 x_0 ∧ RepS (dSl (dI .i64)) w' (g.2.2.2.2.2.2.2) v_4 x_3 ∧ RepS dTask w' (g.2.2.2.2.2.2.2) (g.2.2.2.2.2.2.1) (g.1)) ?_ ?_
                    ·
                      apply go
                      apply go
                      apply go
                      obtain ⟨x_37, q_38, q_36⟩ := bind_some q_36
                      refine ev_index rfl rfl rfl Try.underlying23 T31 r_5 q_38 ?_
                      intro p_39 c_3a d_3b a_3c
                      obtain ⟨v_3d, rfl, r_3e⟩ := d_3b
                      refine ev (rn_load rfl rfl (run_loadVar1 T31 (a_3c.2 0 _ rfl))) ?_
                      obtain ⟨⟨x_3f, x_3g, x_3h⟩, q_3i, q_36⟩ := bind_some q_36
                      refine ev_call rfl rfl C12 (((mission_Mission_Ticknil_ok n) _ _  x_37 v_3d r_3e hp.imm _ q_3i).mono ?_)
                      rintro _ w_3j ⟨I_3k, hv, hq⟩
                      replace hv := hv.symm
                      subst hv
                      have hs := hq.st
                      have hp := hp.join0 hq
                      replace r_2 := r_2.step hs
                      replace r_5 := r_5.step hs
                      replace r_32 := r_32.step hs
                      obtain ⟨y_3l, q_3m, q_36⟩ := bind_some q_36
                      refine W.cut (γ := ((List Task) × Int × Int × Int × Int × Int × Int × Int × Int × Nat × Value × (Nat → Prop))) (fun g => [(0, v_1), (1, v_4), (5, (.pointer none)), (7, (.pointer (some ⟨g_z, 0, none⟩))), (12, (.pointer none)), (13, (.int .i64 x_2x)), (14, (.int .i64 x_3f)), (15, (.int .i64 x_3g)), (16, (.int .i64 x_3h)), (17, (.pointer (some ⟨(g.2.2.2.2.2.2.2.2.2.1), 0, none⟩))), (18, (.int .i64 (g.2.2.2.2.2.2.1))), (19, (.int .i64 (g.2.2.2.2.2.2.2.1))), (20, (.int .i64 (g.2.2.2.2.2.2.2.2.1)))]) (fun g w' => y_3l = ((g.1), (g.2.1), (g.2.2.1), (g.2.2.2.1), (g.2.2.2.2.1), (g.2.2.2.2.2.1), (g.2.2.2.2.2.2.1), (g.2.2.2.2.2.2.2.1), (g.2.2.2.2.2.2.2.2.1)) ∧ Hp ⟨w0, I0, []⟩ (g.2.2.2.2.2.2.2.2.2.2.2) [some (g_z, [v_2y, (.int .i64 x_2s), (.int .i64 x_2t), (.int .i64 x_2u), (.int .i64 x_2v), (.int .i64 x_2w)], 44), some ((g.2.2.2.2.2.2.2.2.2.1), [(g.2.2.2.2.2.2.2.2.2.2.1), (.int .i64 (g.2.1)), (.int .i64 (g.2.2.1)), (.int .i64 (g.2.2.2.1)), (.int .i64 (g.2.2.2.2.1)), (.int .i64 (g.2.2.2.2.2.1))], 44)] w' ∧ RepS dTask w' (g.2.2.2.2.2.2.2.2.2.2.2) v_1 x_0 ∧ RepS (dSl (dI .i64)) w' (g.2.2.2.2.2.2.2.2.2.2.2) v_4 x_3 ∧ RepS dTask w' (g.2.2.2.2.2.2.2.2.2.2.2) v_2y x_2r ∧ RepS dTask w' (g.2.2.2.2.2.2.2.2.2.2.2) (g.2.2.2.2.2.2.2.2.2.2.1) (g.1)) ?_ ?_
                      ·
                        have hs := hp.stp (Ch.drew [] w_3j)
                        have hp := hp.drew
                        replace r_2 := r_2.step hs
                        replace r_5 := r_5.step hs
                        replace r_32 := r_32.step hs
                        refine W.heldG (.q 0 (.q 1 (.q 2 (.q 3 (.q 4 (.l 5 (.q 6 (.q 7 (.q 8 (.q 9 (.q 10 (.l 11 (.l 12 (.q 13 (.q 14 (.q 15 .done))) .no) .no)))))) (.l 11 (.l 5 (.q 6 (.q 7 (.q 8 (.q 9 (.q 10 (.l 12 (.q 13 (.q 14 (.q 15 .done))) .no)))))) .no) .no))))))) (SK (Stp I_3k w_3j.drew I_3k) [(g_z, [v_2y, (.int .i64 x_2s), (.int .i64 x_2t), (.int .i64 x_2u), (.int .i64 x_2v), (.int .i64 x_2w)], 44)] [[]]) MX (by kernel_rfl) ⟨Stp.refl _ _, (kp_cons (fun _ => (hp.own 0 _ _ _ rfl).1) kp_nil)⟩ ?_
                        have hz := Stp.refl I_3k w_3j.drew
                        refine ⟨SK.same (by kernel_rfl), ?_⟩
                        refine evh (fun w' hw => rn_load rfl rfl (run_loadVarA T44 rfl ((S0.keep (p := 0) hw rfl rfl (by kernel_rfl)).at_ (i := 0) rfl))) ?_
                        refine ⟨SK.same (by kernel_rfl), ?_⟩
                        refine ⟨SK.same (by kernel_rfl), ?_⟩
                        refine ⟨SK.same (by kernel_rfl), ?_⟩
                        obtain ⟨x_3n, q_3o, q_3m⟩ := bind_some q_3m
                        refine evh_index rfl rfl rfl Try.underlying23 T31 r_5 q_3o ?_
                        intro p_3p c_3q d_3r a_3s
                        obtain ⟨v_3t, rfl, r_3u⟩ := d_3r
                        refine ⟨SK.same (by kernel_rfl), ?_⟩
                        refine evh (fun w' hw => rn_load rfl rfl (run_loadVar1 T31 ((a_3s.step (S0.si hw)).2 0 _ rfl))) ?_
                        refine ⟨?_, ?_⟩
                        ·
                          obtain ⟨⟨x_3v, x_3w, x_3x, x_3y⟩, q_3z, q_3m⟩ := bind_some q_3m
                          refine ev_call rfl rfl C18 (((ref42_Mission_Tick_ok n) _ _  (Mission_2.mk x_2r x_2s x_2t x_2u x_2v x_2w) v_2y r_32 x_3n v_3t r_3u hp.imm _ q_3z).mono ?_)
                          rintro _ w_40 ⟨I_41, v_42, hv, hq, r_43⟩
                          replace hv := hv.symm
                          subst hv
                          have hs := hq.st
                          have hp := hp.join0 hq
                          replace hz := hz.trans hs
                          replace r_2 := r_2.step hs
                          replace r_5 := r_5.step hs
                          replace r_32 := r_32.step hs
                          refine ⟨SK (Stp I_41 w_40 I_41) [(g_z, [v_2y, (.int .i64 x_2s), (.int .i64 x_2t), (.int .i64 x_2u), (.int .i64 x_2v), (.int .i64 x_2w)], 44)] [[]], ⟨Stp.refl _ _, (kp_cons (fun _ => (hp.own 0 _ _ _ rfl).1) kp_nil)⟩, fun L x h => ⟨hz.held h.1, h.2⟩, ?_⟩
                          have hz := Stp.refl I_41 w_40
                          refine ⟨SK.same (by kernel_rfl), ?_⟩
                          refine ⟨SK.same (by kernel_rfl), ?_⟩
                          refine ⟨SK.same (by kernel_rfl), ?_⟩
                          refine ⟨SK.same (by kernel_rfl), ?_⟩
                          refine ⟨SK.same (by kernel_rfl), ?_⟩
                          refine ⟨?_, trivial⟩
                          refine ev_alloc hp rfl T44 ?_
                          intro g_44 w_45 hp hs
                          replace hz := hz.trans hs
                          replace r_2 := r_2.step hs
                          replace r_5 := r_5.step hs
                          replace r_43 := r_43.step hs
                          replace r_32 := r_32.step hs
                          refine ⟨SK (Stp I_41 w_45 I_41) [(g_z, [v_2y, (.int .i64 x_2s), (.int .i64 x_2t), (.int .i64 x_2u), (.int .i64 x_2v), (.int .i64 x_2w)], 44)] [[]], ⟨Stp.refl _ _, (kp_cons (fun _ => (hp.own 1 _ _ _ rfl).1) kp_nil)⟩, fun L x h => ⟨hz.held h.1, h.2⟩, ?_⟩
                          have hz := Stp.refl I_41 w_45
                          refine ⟨?_, trivial⟩
                          refine ev_storeA hp (i := 0) (off := 0) (vs := [v_42, (.int .i64 x_3v.Done), (.int .i64 x_3v.Ran), (.int .i64 x_3v.Failed), (.int .i64 x_3v.Status), (.int .i64 x_3v.Ticks)]) rfl rfl rfl rfl T44 rfl (Nat.le_of_ble_eq_true rfl) (ones_cons r_43.one (ones_cons rfl (ones_cons rfl (ones_cons rfl (ones_cons rfl (ones_cons rfl ones_nil)))))) ?_
                          intro w_46 hp hs
                          replace hz := hz.trans hs
                          replace r_2 := r_2.step hs
                          replace r_5 := r_5.step hs
                          replace r_43 := r_43.step hs
                          replace r_32 := r_32.step hs
                          refine ⟨SK (Stp I_41 w_46 I_41) [(g_z, [v_2y, (.int .i64 x_2s), (.int .i64 x_2t), (.int .i64 x_2u), (.int .i64 x_2v), (.int .i64 x_2w)], 44)] [[]], ⟨Stp.refl _ _, (kp_cons (fun _ => (hp.own 1 _ _ _ rfl).1) kp_nil)⟩, fun L x h => ⟨hz.held h.1, h.2⟩, ?_⟩
                          have hz := Stp.refl I_41 w_46
                          refine ⟨SK.same (by kernel_rfl), ?_⟩
                          refine ⟨SK.same (by kernel_rfl), ?_⟩
                          refine ⟨SK.same (by kernel_rfl), ?_⟩
                          obtain rfl := Option.some.inj q_3m
                          have hp := hp.perm [1, 0] (by decide)
                          exact ⟨(x_3v.Tasks, x_3v.Done, x_3v.Ran, x_3v.Failed, x_3v.Status, x_3v.Ticks, x_3w, x_3x, x_3y, g_44, v_42, I_41), (.c rfl (.c rfl (.c rfl (.c rfl (.c rfl (.c rfl (.c rfl (.c rfl (.c rfl (.c rfl (.c rfl (.c rfl (.c rfl .n))))))))))))), rfl, hp, r_2, r_5, r_32, r_43⟩
                        refine ⟨?_, trivial⟩
                        refine ev_alloc hp rfl T44 ?_
                        intro g_47 w_48 hp hs
                        replace hz := hz.trans hs
                        replace r_2 := r_2.step hs
                        replace r_5 := r_5.step hs
                        replace r_32 := r_32.step hs
                        replace r_3u := r_3u.step hs
                        refine ⟨SK (Stp I_3k w_48 I_3k) [(g_z, [v_2y, (.int .i64 x_2s), (.int .i64 x_2t), (.int .i64 x_2u), (.int .i64 x_2v), (.int .i64 x_2w)], 44)] [[]], ⟨Stp.refl _ _, (kp_cons (fun _ => (hp.own 1 _ _ _ rfl).1) kp_nil)⟩, fun L x h => ⟨hz.held h.1, h.2⟩, ?_⟩
                        have hz := Stp.refl I_3k w_48
                        refine ⟨?_, trivial⟩
                        obtain ⟨⟨x_49, x_4a, x_4b, x_4c⟩, q_4d, q_3m⟩ := bind_some q_3m
                        refine ev_call rfl rfl C18 (((ref42_Mission_Tick_ok n) _ _  (Mission_2.mk x_2r x_2s x_2t x_2u x_2v x_2w) v_2y r_32 x_3n v_3t r_3u hp.imm _ q_4d).mono ?_)
                        rintro _ w_4e ⟨I_4f, v_4g, hv, hq, r_4h⟩
                        replace hv := hv.symm
                        subst hv
                        have hs := hq.st
                        have hp := hp.join0 hq
                        replace hz := hz.trans hs
                        replace r_2 := r_2.step hs
                        replace r_5 := r_5.step hs
                        replace r_32 := r_32.step hs
                        refine ⟨SK (Stp I_4f w_4e I_4f) [(g_z, [v_2y, (.int .i64 x_2s), (.int .i64 x_2t), (.int .i64 x_2u), (.int .i64 x_2v), (.int .i64 x_2w)], 44)] [[]], ⟨Stp.refl _ _, (kp_cons (fun _ => (hp.own 1 _ _ _ rfl).1) kp_nil)⟩, fun L x h => ⟨hz.held h.1, h.2⟩, ?_⟩
                        have hz := Stp.refl I_4f w_4e
                        refine ⟨SK.same (by kernel_rfl), ?_⟩
                        refine ⟨SK.same (by kernel_rfl), ?_⟩
                        refine ⟨SK.same (by kernel_rfl), ?_⟩
                        refine ⟨SK.same (by kernel_rfl), ?_⟩
                        refine ⟨SK.same (by kernel_rfl), ?_⟩
                        refine ⟨?_, trivial⟩
                        refine ev_storeA hp (i := 0) (off := 0) (vs := [v_4g, (.int .i64 x_49.Done), (.int .i64 x_49.Ran), (.int .i64 x_49.Failed), (.int .i64 x_49.Status), (.int .i64 x_49.Ticks)]) rfl rfl rfl rfl T44 rfl (Nat.le_of_ble_eq_true rfl) (ones_cons r_4h.one (ones_cons rfl (ones_cons rfl (ones_cons rfl (ones_cons rfl (ones_cons rfl ones_nil)))))) ?_
                        intro w_4i hp hs
                        replace hz := hz.trans hs
                        replace r_2 := r_2.step hs
                        replace r_5 := r_5.step hs
                        replace r_4h := r_4h.step hs
                        replace r_32 := r_32.step hs
                        refine ⟨SK (Stp I_4f w_4i I_4f) [(g_z, [v_2y, (.int .i64 x_2s), (.int .i64 x_2t), (.int .i64 x_2u), (.int .i64 x_2v), (.int .i64 x_2w)], 44)] [[]], ⟨Stp.refl _ _, (kp_cons (fun _ => (hp.own 1 _ _ _ rfl).1) kp_nil)⟩, fun L x h => ⟨hz.held h.1, h.2⟩, ?_⟩
                        have hz := Stp.refl I_4f w_4i
                        refine ⟨SK.same (by kernel_rfl), ?_⟩
                        refine ⟨SK.same (by kernel_rfl), ?_⟩
                        refine ⟨SK.same (by kernel_rfl), ?_⟩
                        obtain rfl := Option.some.inj q_3m
                        have hp := hp.perm [1, 0] (by decide)
                        exact ⟨(x_49.Tasks, x_49.Done, x_49.Ran, x_49.Failed, x_49.Status, x_49.Ticks, x_4a, x_4b, x_4c, g_47, v_4g, I_4f), (.c rfl (.c rfl (.c rfl (.c rfl (.c rfl (.c rfl (.c rfl (.c rfl (.c rfl (.c rfl (.c rfl (.c rfl (.c rfl .n))))))))))))), rfl, hp, r_2, r_5, r_32, r_4h⟩
                      ·
                        rintro ⟨x_4j, x_4k, x_4l, x_4m, x_4n, x_4o, x_4p, x_4q, x_4r, g_4s, v_4t, I_4u⟩ w_4v ⟨hy, hp, r_2, r_5, r_32, r_4w⟩
                        replace hy := hy.symm
                        subst hy
                        apply go
                        apply go
                        refine ev (rn_load rfl rfl (run_loadVarA T44 rfl (hp.at_ (i := 1) rfl))) ?_
                        refine ev_storeA hp (i := 0) (off := 0) (vs := [v_4t, (.int .i64 x_4k), (.int .i64 x_4l), (.int .i64 x_4m), (.int .i64 x_4n), (.int .i64 x_4o)]) rfl rfl rfl rfl T44 rfl (Nat.le_of_ble_eq_true rfl) (ones_cons r_4w.one (ones_cons rfl (ones_cons rfl (ones_cons rfl (ones_cons rfl (ones_cons rfl ones_nil)))))) ?_
                        intro w_4x hp hs
                        replace r_2 := r_2.step hs
                        replace r_5 := r_5.step hs
                        replace r_4w := r_4w.step hs
                        apply go
                        obtain ⟨y_4y, q_4z, q_36⟩ := bind_some q_36
                        refine W.cut (γ := (Bool × (Nat → Prop))) (fun g => [(0, v_1), (1, v_4), (5, (.pointer none)), (7, (.pointer (some ⟨g_z, 0, none⟩))), (12, (.pointer none)), (13, (.int .i64 x_2x)), (147, (.bool (g.1)))]) (fun g w' => y_4y = (g.1) ∧ Hp ⟨w0, I0, []⟩ (g.2) [some (g_z, [v_4t, (.int .i64 x_4k), (.int .i64 x_4l), (.int .i64 x_4m), (.int .i64 x_4n), (.int .i64 x_4o)], 44)] w' ∧ RepS dTask w' (g.2) v_1 x_0 ∧ RepS (dSl (dI .i64)) w' (g.2) v_4 x_3 ∧ RepS dTask w' (g.2) v_4t x_4j) ?_ ?_
                        ·
                          have hs := hp.stp (Ch.drew [] w_4x)
                          have hp := hp.drew
                          replace r_2 := r_2.step hs
                          replace r_5 := r_5.step hs
                          replace r_4w := r_4w.step hs
                          refine W.held [(0, true), (1, true), (2, true), (3, true), (4, true), (5, true), (6, true), (7, true), (8, true), (9, true), (10, true), (11, true), (12, true), (13, true), (14, true), (16, true), (17, true), (15, false), (18, true), (19, true), (20, true), (21, true), (23, true), (24, true), (22, false), (25, true), (26, true)] (fun x => Stp I_4u w_4x.drew I_4u x ∧ OwnK [(g_z, [v_4t, (.int .i64 x_4k), (.int .i64 x_4l), (.int .i64 x_4m), (.int .i64 x_4n), (.int .i64 x_4o)], 44)] x) MX (by kernel_rfl) ⟨Stp.refl _ _, (OwnK.cons (hp.own 0 _ _ _ rfl).1 OwnK.nil)⟩ ?_
                          have hz := Stp.refl I_4u w_4x.drew
                          refine sel_of (fun hc => ?_) (fun hc => ?_)
                          ·
                            have q_4z := cond_t q_4z hc
                            refine ⟨fun x => Stp I_4u w_4x.drew I_4u x ∧ OwnK [(g_z, [v_4t, (.int .i64 x_4k), (.int .i64 x_4l), (.int .i64 x_4m), (.int .i64 x_4n), (.int .i64 x_4o)], 44)] x, ⟨Stp.refl _ _, (OwnK.cons (hp.own 0 _ _ _ rfl).1 OwnK.nil)⟩, fun x hx => ⟨hz.held hx.1, hx.2⟩, ?_⟩
                            have hz := Stp.refl I_4u w_4x.drew
                            refine ⟨fun x => Stp I_4u w_4x.drew I_4u x ∧ OwnK [(g_z, [v_4t, (.int .i64 x_4k), (.int .i64 x_4l), (.int .i64 x_4m), (.int .i64 x_4n), (.int .i64 x_4o)], 44)] x, ⟨Stp.refl _ _, (OwnK.cons (hp.own 0 _ _ _ rfl).1 OwnK.nil)⟩, fun x hx => ⟨hz.held hx.1, hx.2⟩, ?_⟩
                            have hz := Stp.refl I_4u w_4x.drew
                            obtain rfl := Option.some.inj q_4z
                            have hp := hp.sel [0] (by decide)
                            exact ⟨(true, I_4u), (.c rfl (.c rfl (.c rfl (.c rfl (.c rfl (.c rfl (.c rfl .n))))))), rfl, hp, r_2, r_5, r_4w⟩
                          ·
                            have q_4z := cond_f q_4z hc
                            refine sel_of (fun hc => ?_) (fun hc => ?_)
                            ·
                              have q_4z := cond_t q_4z hc
                              refine ⟨fun x => Stp I_4u w_4x.drew I_4u x ∧ OwnK [(g_z, [v_4t, (.int .i64 x_4k), (.int .i64 x_4l), (.int .i64 x_4m), (.int .i64 x_4n), (.int .i64 x_4o)], 44)] x, ⟨Stp.refl _ _, (OwnK.cons (hp.own 0 _ _ _ rfl).1 OwnK.nil)⟩, fun x hx => ⟨hz.held hx.1, hx.2⟩, ?_⟩
                              have hz := Stp.refl I_4u w_4x.drew
                              refine ⟨fun x => Stp I_4u w_4x.drew I_4u x ∧ OwnK [(g_z, [v_4t, (.int .i64 x_4k), (.int .i64 x_4l), (.int .i64 x_4m), (.int .i64 x_4n), (.int .i64 x_4o)], 44)] x, ⟨Stp.refl _ _, (OwnK.cons (hp.own 0 _ _ _ rfl).1 OwnK.nil)⟩, fun x hx => ⟨hz.held hx.1, hx.2⟩, ?_⟩
                              have hz := Stp.refl I_4u w_4x.drew
                              obtain rfl := Option.some.inj q_4z
                              have hp := hp.sel [0] (by decide)
                              exact ⟨(true, I_4u), (.c rfl (.c rfl (.c rfl (.c rfl (.c rfl (.c rfl (.c rfl .n))))))), rfl, hp, r_2, r_5, r_4w⟩
                            ·
                              have q_4z := cond_f q_4z hc
                              refine sel_of (fun hc => ?_) (fun hc => ?_)
                              ·
                                have q_4z := cond_t q_4z hc
                                refine ⟨fun x => Stp I_4u w_4x.drew I_4u x ∧ OwnK [(g_z, [v_4t, (.int .i64 x_4k), (.int .i64 x_4l), (.int .i64 x_4m), (.int .i64 x_4n), (.int .i64 x_4o)], 44)] x, ⟨Stp.refl _ _, (OwnK.cons (hp.own 0 _ _ _ rfl).1 OwnK.nil)⟩, fun x hx => ⟨hz.held hx.1, hx.2⟩, ?_⟩
                                have hz := Stp.refl I_4u w_4x.drew
                                refine ⟨fun x => Stp I_4u w_4x.drew I_4u x ∧ OwnK [(g_z, [v_4t, (.int .i64 x_4k), (.int .i64 x_4l), (.int .i64 x_4m), (.int .i64 x_4n), (.int .i64 x_4o)], 44)] x, ⟨Stp.refl _ _, (OwnK.cons (hp.own 0 _ _ _ rfl).1 OwnK.nil)⟩, fun x hx => ⟨hz.held hx.1, hx.2⟩, ?_⟩
                                have hz := Stp.refl I_4u w_4x.drew
                                obtain rfl := Option.some.inj q_4z
                                have hp := hp.sel [0] (by decide)
                                exact ⟨(true, I_4u), (.c rfl (.c rfl (.c rfl (.c rfl (.c rfl (.c rfl (.c rfl .n))))))), rfl, hp, r_2, r_5, r_4w⟩
                              ·
                                have q_4z := cond_f q_4z hc
                                refine evh0 (rn_field rfl rfl FO44_4) ?_
                                refine evh (fun w' hw => rn_load rfl rfl (run_loadVar1 T3 (hw.2.cell (i := 0) (off := 4) rfl rfl))) ?_
                                obtain ⟨x_50, q_51, q_4z⟩ := bind_some q_4z
                                refine ev_call rfl rfl C15 (((mission_Mission_Statusnil_ok n) _ _   hp.imm _ q_51).mono ?_)
                                rintro _ w_52 ⟨I_53, hv, hq⟩
                                replace hv := hv.symm
                                subst hv
                                have hs := hq.st
                                have hp := hp.join0 hq
                                replace hz := hz.trans hs
                                replace r_2 := r_2.step hs
                                replace r_5 := r_5.step hs
                                replace r_4w := r_4w.step hs
                                refine ⟨fun x => Stp I_53 w_52 I_53 x ∧ OwnK [(g_z, [v_4t, (.int .i64 x_4k), (.int .i64 x_4l), (.int .i64 x_4m), (.int .i64 x_4n), (.int .i64 x_4o)], 44)] x, ⟨Stp.refl _ _, (OwnK.cons (hp.own 0 _ _ _ rfl).1 OwnK.nil)⟩, fun x hx => ⟨hz.held hx.1, hx.2⟩, ?_⟩
                                have hz := Stp.refl I_53 w_52
                                refine sel_of (fun hc => ?_) (fun hc => ?_)
                                ·
                                  have q_4z := cond_t q_4z hc
                                  refine ⟨fun x => Stp I_53 w_52 I_53 x ∧ OwnK [(g_z, [v_4t, (.int .i64 x_4k), (.int .i64 x_4l), (.int .i64 x_4m), (.int .i64 x_4n), (.int .i64 x_4o)], 44)] x, ⟨Stp.refl _ _, (OwnK.cons (hp.own 0 _ _ _ rfl).1 OwnK.nil)⟩, fun x hx => ⟨hz.held hx.1, hx.2⟩, ?_⟩
                                  have hz := Stp.refl I_53 w_52
                                  obtain rfl := Option.some.inj q_4z
                                  have hp := hp.sel [0] (by decide)
                                  exact ⟨(true, I_53), (.c rfl (.c rfl (.c rfl (.c rfl (.c rfl (.c rfl (.c rfl .n))))))), rfl, hp, r_2, r_5, r_4w⟩
                                ·
                                  have q_4z := cond_f q_4z hc
                                  refine evh0 (rn_field rfl rfl FO44_5) ?_
                                  refine evh (fun w' hw => rn_load rfl rfl (run_loadVar1 T3 (hw.2.cell (i := 0) (off := 5) rfl rfl))) ?_
                                  obtain ⟨x_54, q_55, q_4z⟩ := bind_some q_4z
                                  refine ev_call rfl rfl C14 (((mission_Mission_Ticksnil_ok n) _ _   hp.imm _ q_55).mono ?_)
                                  rintro _ w_56 ⟨I_57, hv, hq⟩
                                  replace hv := hv.symm
                                  subst hv
                                  have hs := hq.st
                                  have hp := hp.join0 hq
                                  replace hz := hz.trans hs
                                  replace r_2 := r_2.step hs
                                  replace r_5 := r_5.step hs
                                  replace r_4w := r_4w.step hs
                                  refine ⟨fun x => Stp I_57 w_56 I_57 x ∧ OwnK [(g_z, [v_4t, (.int .i64 x_4k), (.int .i64 x_4l), (.int .i64 x_4m), (.int .i64 x_4n), (.int .i64 x_4o)], 44)] x, ⟨Stp.refl _ _, (OwnK.cons (hp.own 0 _ _ _ rfl).1 OwnK.nil)⟩, fun x hx => ⟨hz.held hx.1, hx.2⟩, ?_⟩
                                  have hz := Stp.refl I_57 w_56
                                  obtain rfl := Option.some.inj q_4z
                                  have hp := hp.sel [0] (by decide)
                                  exact ⟨((x_54 != x_4o), I_57), (.c rfl (.c rfl (.c rfl (.c rfl (.c rfl (.c rfl (.c rfl .n))))))), rfl, hp, r_2, r_5, r_4w⟩
                        ·
                          rintro ⟨x_58, I_59⟩ w_5a ⟨hy, hp, r_2, r_5, r_4w⟩
                          replace hy := hy.symm
                          subst hy
                          apply go
                          refine sel_of (fun hc => ?_) (fun hc => ?_)
                          ·
                            have q_36 := cond_t q_36 hc
                            apply go
                            apply go
                            apply go
                            obtain rfl := Option.some.inj q_36
                            have q_5b := congrArg some (q_34 _ (Option.some.inj q_33).symm)
                            obtain rfl := Option.some.inj q_5b
                            obtain rfl := Option.some.inj h
                            exact ⟨rfl, hp.ch⟩
                          ·
                            have q_36 := cond_f q_36 hc
                            apply go
                            apply go
                            apply go
                            obtain ⟨x_5c, q_5d, q_36⟩ := bind_some q_36
                            refine ev_call rfl rfl C13 (((mission_Mission_Donenil_ok n) _ _   hp.imm _ q_5d).mono ?_)
                            rintro _ w_5e ⟨I_5f, v_5g, hv, hq, r_5h⟩
                            replace hv := hv.symm
                            subst hv
                            have hs := hq.st
                            have hp := hp.join0 hq
                            replace r_2 := r_2.step hs
                            replace r_5 := r_5.step hs
                            replace r_4w := r_4w.step hs
                            apply go
                            apply go
                            apply go
                            refine ev0 (rn_len rfl rfl Try.underlying39 r_5h) ?_
                            refine ev0 (rn_len rfl rfl Try.underlying22 r_2) ?_
                            apply go
                            refine sel_of (fun hc => ?_) (fun hc => ?_)
                            ·
                              have q_36 := cond_t q_36 hc
                              apply go
                              apply go
                              apply go
                              obtain rfl := Option.some.inj q_36
                              have q_5i := congrArg some (q_34 _ (Option.some.inj q_33).symm)
                              obtain rfl := Option.some.inj q_5i
                              obtain rfl := Option.some.inj h
                              exact ⟨rfl, hp.ch⟩
                            ·
                              have q_36 := cond_f q_36 hc
                              apply go
                              apply go
                              apply go
                              apply go
                              refine W.loop q_36 (γ := Unit) (fun s _ => [(0, v_1), (1, v_4), (5, (.pointer none)), (7, (.pointer (some ⟨g_z, 0, none⟩))), (12, (.pointer none)), (13, (.int .i64 x_2x)), (21, v_5g), (22, (.int .i64 (s)))]) (fun s _ w' => Hp ⟨w0, I0, []⟩ I_5f [some (g_z, [v_4t, (.int .i64 x_4k), (.int .i64 x_4l), (.int .i64 x_4m), (.int .i64 x_4n), (.int .i64 x_4o)], 44)] w' ∧ RepS dTask w' I_5f v_1 x_0 ∧ RepS (dSl (dI .i64)) w' I_5f v_4 x_3 ∧ RepS dTask w' I_5f v_4t x_4j ∧ RepS dB w' I_5f v_5g x_5c) () (.c rfl (.c rfl (.c rfl (.c rfl (.c rfl (.c rfl (.c rfl (.c rfl .n)))))))) ⟨hp, r_2, r_5, r_4w, r_5h⟩ ?_
                              rintro x_5j ⟨⟩ w_5k y_5l ⟨hp, r_2, r_5, r_4w, r_5h⟩ q_5m q_5n
                              unfold law42_MissionPlays_L13 at q_5m
                              apply go
                              apply go
                              apply go
                              refine ev0 (rn_len rfl rfl Try.underlying39 r_5h) ?_
                              apply go
                              refine sel_of (fun hc => ?_) (fun hc => ?_)
                              ·
                                have q_5m := cond_t q_5m hc
                                apply go
                                apply go
                                apply go
                                apply go
                                refine W.quiet (fun w' => Ch [] w_5k w') MX (by kernel_rfl) (Ch.drew [] w_5k) ?_
                                obtain ⟨x_5o, q_5p, q_5m⟩ := bind_some q_5m
                                refine evq_index rfl rfl rfl Try.underlying39 T4 r_5h q_5p ?_
                                intro p_5q c_5r d_5s a_5t
                                obtain rfl : c_5r = [(.bool x_5o)] := d_5s
                                refine evq (fun w' hw => rn_load rfl rfl (run_loadVar1 T4 ((a_5t.step (hp.stp hw)).2 0 _ rfl))) ?_
                                refine evq0 (rn_field rfl rfl FO44_1) ?_
                                refine evq (fun w' hw => rn_load rfl rfl (run_loadVar1 T3 ((hp.ext hw).cell (i := 0) (off := 1) rfl rfl))) ?_
                                refine evq0 (rn_neB rfl rfl rfl Try.underlying4) ?_
                                intro w_5u hc
                                have hs := hp.stp hc
                                replace hp := hp.ext hc
                                replace r_2 := r_2.step hs
                                replace r_5 := r_5.step hs
                                replace r_5h := r_5h.step hs
                                replace r_4w := r_4w.step hs
                                apply go
                                refine sel_of (fun hc => ?_) (fun hc => ?_)
                                ·
                                  have q_5m := cond_t q_5m hc
                                  apply go
                                  apply go
                                  apply go
                                  have q_5v := congrArg some (q_5n _ (Option.some.inj q_5m).symm)
                                  obtain rfl := Option.some.inj q_5v
                                  have q_5w := congrArg some (q_34 _ (Option.some.inj q_33).symm)
                                  obtain rfl := Option.some.inj q_5w
                                  obtain rfl := Option.some.inj h
                                  exact ⟨rfl, hp.ch⟩
                                ·
                                  have q_5m := cond_f q_5m hc
                                  apply go
                                  apply go
                                  exact ⟨_, (Option.some.inj q_5m).symm, (), (.c rfl (.c rfl (.c rfl (.c rfl (.c rfl (.c rfl (.c rfl (.c rfl .n)))))))), ⟨hp, r_2, r_5, r_4w, r_5h⟩⟩
                              ·
                                have q_5m := cond_f q_5m hc
                                apply go
                                have q_5x := congrArg some (q_5n _ (Option.some.inj q_5m).symm)
                                obtain rfl := Option.some.inj q_5x
                                exact ⟨(x_4j, x_4k, x_4l, x_4m, x_4n, x_4o, v_4t, I_5f), (.c rfl (.c rfl (.c rfl (.c rfl (.c rfl (.c rfl .n)))))), rfl, hp, r_2, r_5, r_4w⟩
                    ·
                      rintro ⟨x_5y, x_5z, x_60, x_61, x_62, x_63, v_64, I_65⟩ w_66 ⟨hy, hp, r_2, r_5, r_67⟩
                      replace hy := hy.symm
                      subst hy
                      apply go
                      exact ⟨_, (Option.some.inj q_33).symm, (v_64, I_65), (.c rfl (.c rfl (.c rfl (.c rfl (.c rfl (.c rfl .n)))))), ⟨hp, r_2, r_5, r_67⟩⟩
                  ·
                    have q_33 := cond_f q_33 hc
                    apply go
                    have q_68 := congrArg some (q_34 _ (Option.some.inj q_33).symm)
                    obtain rfl := Option.some.inj q_68
                    have hp := hp.sel [] (by decide)
                    exact ⟨I_2z, (.c rfl (.c rfl .n)), rfl, hp, r_2⟩
                ·
                  rintro I_69 w_6a ⟨hy, hp, r_2⟩
                  replace hy := hy.symm
                  subst hy
                  obtain ⟨y_6b, q_6c, h⟩ := bind_some h
                  refine W.cut (γ := (Bool × (Nat → Prop))) (fun g => [(4, (.bool (g.1)))]) (fun g w' => y_6b = (g.1) ∧ Hp ⟨w0, I0, []⟩ (g.2) [] w') ?_ ?_
                  ·
                    apply go
                    obtain ⟨x_6d, q_6e, q_6c⟩ := bind_some q_6c
                    refine ev_call rfl rfl C14 (((mission_Mission_Ticksnil_ok n) _ _   hp.imm _ q_6e).mono ?_)
                    rintro _ w_6f ⟨I_6g, hv, hq⟩
                    replace hv := hv.symm
                    subst hv
                    have hs := hq.st
                    have hp := hp.join0 hq
                    replace r_2 := r_2.step hs
                    refine sel_of (fun hc => ?_) (fun hc => ?_)
                    ·
                      have q_6c := cond_t q_6c hc
                      obtain ⟨x_6h, q_6i, q_6c⟩ := bind_some q_6c
                      refine ev_call rfl rfl C15 (((mission_Mission_Statusnil_ok n) _ _   hp.imm _ q_6i).mono ?_)
                      rintro _ w_6j ⟨I_6k, hv, hq⟩
                      replace hv := hv.symm
                      subst hv
                      have hs := hq.st
                      have hp := hp.join0 hq
                      replace r_2 := r_2.step hs
                      refine sel_of (fun hc => ?_) (fun hc => ?_)
                      ·
                        have q_6c := cond_t q_6c hc
                        obtain ⟨x_6l, q_6m, q_6c⟩ := bind_some q_6c
                        refine ev_call rfl rfl C13 (((mission_Mission_Donenil_ok n) _ _   hp.imm _ q_6m).mono ?_)
                        rintro _ w_6n ⟨I_6o, v_6p, hv, hq, r_6q⟩
                        replace hv := hv.symm
                        subst hv
                        have hs := hq.st
                        have hp := hp.join0 hq
                        replace r_2 := r_2.step hs
                        refine ev0 (rn_len rfl rfl Try.underlying39 r_6q) ?_
                        refine ev0 (rn_len rfl rfl Try.underlying22 r_2) ?_
                        obtain rfl := Option.some.inj q_6c
                        exact ⟨(((x_6l.length : Int) == (x_0.length : Int)), I_6o), (.c rfl .n), rfl, hp⟩
                      ·
                        have q_6c := cond_f q_6c hc
                        obtain rfl := Option.some.inj q_6c
                        exact ⟨(false, I_6k), (.c rfl .n), rfl, hp⟩
                    ·
                      have q_6c := cond_f q_6c hc
                      obtain rfl := Option.some.inj q_6c
                      exact ⟨(false, I_6g), (.c rfl .n), rfl, hp⟩
                  ·
                    rintro ⟨x_6r, I_6s⟩ w_6t ⟨hy, hp⟩
                    replace hy := hy.symm
                    subst hy
                    apply go
                    obtain rfl := Option.some.inj h
                    exact ⟨rfl, hp.ch⟩
              ·
                obtain ⟨g_6u, rfl, g_6v, E_6w, v_6x, e_6y, rfl, q_6z, o_70⟩ := q_2n
                obtain ⟨v_71, v_72, e_73, v_74, e_75, rfl, r_76, o_77, o_78⟩ := q_6z
                have hs := hq25527.st
                have hp := hp.join0 hq25527
                replace r_2 := r_2.step hs
                replace r_5 := r_5.step hs
                replace r_y := r_y.step hs
                obtain ⟨y_79, q_7a, h⟩ := bind_some h
                refine W.cut (γ := (Nat → Prop)) (fun g => [(0, v_1), (12, (.pointer (some ⟨g_6u, 0, none⟩)))]) (fun g w' => y_79 = .go () ∧ Hp ⟨w0, I0, []⟩ (g) [e_73, e_75, some (g_6v, [v_71, v_72, v_74], 70), e_6y, some (g_6u, [(.pointer (some ⟨g_6v, 0, none⟩)), v_6x, (.int .i64 x_2o.status), (.int .i64 x_2o.ticks)], 59)] w' ∧ RepS dTask w' (g) v_1 x_0 ∧ RepS dNode_2 w' (g) v_71 x_2o.run.nodes ∧ OwnS (dI .i64) 3 w' (g) v_72 e_73 x_2o.run.counters ∧ OwnS dB 4 w' (g) v_74 e_75 x_2o.run.active ∧ OwnS dB 4 w' (g) v_6x e_6y x_2o.done) ?_ ?_
                ·
                  apply go
                  apply go
                  apply go
                  have hp := hp.perm [5, 2, 3, 1, 4, 0] (by decide)
                  refine W.loop q_7a (γ := (Value × (Nat → Prop))) (fun s g => [(0, v_1), (1, v_4), (5, (.pointer none)), (7, (.pointer (some ⟨g_z, 0, none⟩))), (12, (.pointer (some ⟨g_6u, 0, none⟩))), (13, (.int .i64 (s.2.2.2.2.2.2)))]) (fun s g w' => Hp ⟨w0, I0, []⟩ (g.2) [some (g_z, [(g.1), (.int .i64 (s.2.1)), (.int .i64 (s.2.2.1)), (.int .i64 (s.2.2.2.1)), (.int .i64 (s.2.2.2.2.1)), (.int .i64 (s.2.2.2.2.2.1))], 44), e_73, e_75, some (g_6v, [v_71, v_72, v_74], 70), e_6y, some (g_6u, [(.pointer (some ⟨g_6v, 0, none⟩)), v_6x, (.int .i64 x_2o.status), (.int .i64 x_2o.ticks)], 59)] w' ∧ RepS dTask w' (g.2) v_1 x_0 ∧ RepS (dSl (dI .i64)) w' (g.2) v_4 x_3 ∧ RepS dTask w' (g.2) (g.1) (s.1) ∧ RepS dNode_2 w' (g.2) v_71 x_2o.run.nodes ∧ OwnS (dI .i64) 3 w' (g.2) v_72 e_73 x_2o.run.counters ∧ OwnS dB 4 w' (g.2) v_74 e_75 x_2o.run.active ∧ OwnS dB 4 w' (g.2) v_6x e_6y x_2o.done) (v_x, I_2k) (.c rfl (.c rfl (.c rfl (.c rfl (.c rfl (.c rfl .n)))))) ⟨hp, r_2, r_5, r_y, r_76, o_77, o_78, o_70⟩ ?_
                  rintro ⟨x_7b, x_7c, x_7d, x_7e, x_7f, x_7g, x_7h⟩ ⟨v_7i, I_7j⟩ w_7k y_7l ⟨hp, r_2, r_5, r_7m, r_76, o_77, o_78, o_70⟩ q_7n q_7o
                  unfold law42_MissionPlays_L25 at q_7n
                  apply go
                  apply go
                  apply go
                  refine ev0 (rn_len rfl rfl Try.underlying23 r_5) ?_
                  apply go
                  refine sel_of (fun hc => ?_) (fun hc => ?_)
                  ·
                    have q_7n := cond_t q_7n hc
                    apply go
                    obtain ⟨y_7p, q_7q, q_7n⟩ := bind_some q_7n
                    refine W.cut (γ := ((List Task) × Int × Int × Int × Int × Int × Value × (Nat → Prop))) (fun g => [(0, v_1), (1, v_4), (5, (.pointer none)), (7, (.pointer (some ⟨g_z, 0, none⟩))), (12, (.pointer (some ⟨g_6u, 0, none⟩))), (13, (.int .i64 x_7h))]) (fun g w' => y_7p = .go ((g.1), (g.2.1), (g.2.2.1), (g.2.2.2.1), (g.2.2.2.2.1), (g.2.2.2.2.2.1)) ∧ Hp ⟨w0, I0, []⟩ (g.2.2.2.2.2.2.2) [some (g_z, [(g.2.2.2.2.2.2.1), (.int .i64 (g.2.1)), (.int .i64 (g.2.2.1)), (.int .i64 (g.2.2.2.1)), (.int .i64 (g.2.2.2.2.1)), (.int .i64 (g.2.2.2.2.2.1))], 44), e_73, e_75, some (g_6v, [v_71, v_72, v_74], 70), e_6y, some (g_6u, [(.pointer (some ⟨g_6v, 0, none⟩)), v_6x, (.int .i64 x_2o.status), (.int .i64 x_2o.ticks)], 59)] w' ∧ RepS dTask w' (g.2.2.2.2.2.2.2) v_1 x_0 ∧ RepS (dSl (dI .i64)) w' (g.2.2.2.2.2.2.2) v_4 x_3 ∧ RepS dTask w' (g.2.2.2.2.2.2.2) (g.2.2.2.2.2.2.1) (g.1) ∧ RepS dNode_2 w' (g.2.2.2.2.2.2.2) v_71 x_2o.run.nodes ∧ OwnS (dI .i64) 3 w' (g.2.2.2.2.2.2.2) v_72 e_73 x_2o.run.counters ∧ OwnS dB 4 w' (g.2.2.2.2.2.2.2) v_74 e_75 x_2o.run.active ∧ OwnS dB 4 w' (g.2.2.2.2.2.2.2) v_6x e_6y x_2o.done) ?_ ?_
                    ·
                      apply go
                      apply go
                      apply go
                      obtain ⟨x_7r, q_7s, q_7q⟩ := bind_some q_7q
                      refine ev_index rfl rfl rfl Try.underlying23 T31 r_5 q_7s ?_
                      intro p_7t c_7u d_7v a_7w
                      obtain ⟨v_7x, rfl, r_7y⟩ := d_7v
                      refine ev (rn_load rfl rfl (run_loadVar1 T31 (a_7w.2 0 _ rfl))) ?_
                      obtain ⟨⟨x_7z, x_80, x_81⟩, q_82, q_7q⟩ := bind_some q_7q
                      refine ev_call rfl rfl C12 (((mission_Mission_Ticknil_ok n) _ _  x_7r v_7x r_7y hp.imm _ q_82).mono ?_)
                      rintro _ w_83 ⟨I_84, hv, hq⟩
                      replace hv := hv.symm
                      subst hv
                      have hs := hq.st
                      have hp := hp.join0 hq
                      replace r_2 := r_2.step hs
                      replace r_5 := r_5.step hs
                      replace r_7m := r_7m.step hs
                      replace r_76 := r_76.step hs
                      replace o_77 := o_77.step hs
                      replace o_78 := o_78.step hs
                      replace o_70 := o_70.step hs
                      obtain ⟨y_85, q_86, q_7q⟩ := bind_some q_7q
                      refine W.cut (γ := ((List Task) × Int × Int × Int × Int × Int × Int × Int × Int × Nat × Value × (Nat → Prop))) (fun g => [(0, v_1), (1, v_4), (5, (.pointer none)), (7, (.pointer (some ⟨g_z, 0, none⟩))), (12, (.pointer (some ⟨g_6u, 0, none⟩))), (13, (.int .i64 x_7h)), (14, (.int .i64 x_7z)), (15, (.int .i64 x_80)), (16, (.int .i64 x_81)), (17, (.pointer (some ⟨(g.2.2.2.2.2.2.2.2.2.1), 0, none⟩))), (18, (.int .i64 (g.2.2.2.2.2.2.1))), (19, (.int .i64 (g.2.2.2.2.2.2.2.1))), (20, (.int .i64 (g.2.2.2.2.2.2.2.2.1)))]) (fun g w' => y_85 = ((g.1), (g.2.1), (g.2.2.1), (g.2.2.2.1), (g.2.2.2.2.1), (g.2.2.2.2.2.1), (g.2.2.2.2.2.2.1), (g.2.2.2.2.2.2.2.1), (g.2.2.2.2.2.2.2.2.1)) ∧ Hp ⟨w0, I0, []⟩ (g.2.2.2.2.2.2.2.2.2.2.2) [some (g_z, [v_7i, (.int .i64 x_7c), (.int .i64 x_7d), (.int .i64 x_7e), (.int .i64 x_7f), (.int .i64 x_7g)], 44), e_73, e_75, some (g_6v, [v_71, v_72, v_74], 70), e_6y, some (g_6u, [(.pointer (some ⟨g_6v, 0, none⟩)), v_6x, (.int .i64 x_2o.status), (.int .i64 x_2o.ticks)], 59), some ((g.2.2.2.2.2.2.2.2.2.1), [(g.2.2.2.2.2.2.2.2.2.2.1), (.int .i64 (g.2.1)), (.int .i64 (g.2.2.1)), (.int .i64 (g.2.2.2.1)), (.int .i64 (g.2.2.2.2.1)), (.int .i64 (g.2.2.2.2.2.1))], 44)] w' ∧ RepS dTask w' (g.2.2.2.2.2.2.2.2.2.2.2) v_1 x_0 ∧ RepS (dSl (dI .i64)) w' (g.2.2.2.2.2.2.2.2.2.2.2) v_4 x_3 ∧ RepS dTask w' (g.2.2.2.2.2.2.2.2.2.2.2) v_7i x_7b ∧ RepS dNode_2 w' (g.2.2.2.2.2.2.2.2.2.2.2) v_71 x_2o.run.nodes ∧ OwnS (dI .i64) 3 w' (g.2.2.2.2.2.2.2.2.2.2.2) v_72 e_73 x_2o.run.counters ∧ OwnS dB 4 w' (g.2.2.2.2.2.2.2.2.2.2.2) v_74 e_75 x_2o.run.active ∧ OwnS dB 4 w' (g.2.2.2.2.2.2.2.2.2.2.2) v_6x e_6y x_2o.done ∧ RepS dTask w' (g.2.2.2.2.2.2.2.2.2.2.2) (g.2.2.2.2.2.2.2.2.2.2.1) (g.1)) ?_ ?_
                      ·
                        have hs := hp.stp (Ch.drew [] w_83)
                        have hp := hp.drew
                        replace r_2 := r_2.step hs
                        replace r_5 := r_5.step hs
                        replace r_7m := r_7m.step hs
                        replace r_76 := r_76.step hs
                        replace o_77 := o_77.step hs
                        replace o_78 := o_78.step hs
                        replace o_70 := o_70.step hs
                        refine W.heldG (.q 0 (.q 1 (.q 2 (.q 3 (.q 4 (.l 5 (.q 6 (.q 7 (.q 8 (.q 9 (.q 10 (.l 11 (.l 12 (.q 13 (.q 14 (.q 15 .done))) .no) .no)))))) (.l 11 (.l 5 (.q 6 (.q 7 (.q 8 (.q 9 (.q 10 (.l 12 (.q 13 (.q 14 (.q 15 .done))) .no)))))) .no) .no))))))) (SK (Stp I_84 w_83.drew I_84) [(g_z, [v_7i, (.int .i64 x_7c), (.int .i64 x_7d), (.int .i64 x_7e), (.int .i64 x_7f), (.int .i64 x_7g)], 44)] [[]]) MX (by kernel_rfl) ⟨Stp.refl _ _, (kp_cons (fun _ => (hp.own 0 _ _ _ rfl).1) kp_nil)⟩ ?_
                        have hz := Stp.refl I_84 w_83.drew
                        refine ⟨SK.same (by kernel_rfl), ?_⟩
                        refine evh (fun w' hw => rn_load rfl rfl (run_loadVarA T44 rfl ((S0.keep (p := 0) hw rfl rfl (by kernel_rfl)).at_ (i := 0) rfl))) ?_
                        refine ⟨SK.same (by kernel_rfl), ?_⟩
                        refine ⟨SK.same (by kernel_rfl), ?_⟩
                        refine ⟨SK.same (by kernel_rfl), ?_⟩
                        obtain ⟨x_87, q_88, q_86⟩ := bind_some q_86
                        refine evh_index rfl rfl rfl Try.underlying23 T31 r_5 q_88 ?_
                        intro p_89 c_8a d_8b a_8c
                        obtain ⟨v_8d, rfl, r_8e⟩ := d_8b
                        refine ⟨SK.same (by kernel_rfl), ?_⟩
                        refine evh (fun w' hw => rn_load rfl rfl (run_loadVar1 T31 ((a_8c.step (S0.si hw)).2 0 _ rfl))) ?_
                        refine ⟨?_, ?_⟩
                        ·
                          obtain ⟨⟨x_8f, x_8g, x_8h, x_8i⟩, q_8j, q_86⟩ := bind_some q_86
                          refine ev_call rfl rfl C18 (((ref42_Mission_Tick_ok n) _ _  (Mission_2.mk x_7b x_7c x_7d x_7e x_7f x_7g) v_7i r_7m x_87 v_8d r_8e hp.imm _ q_8j).mono ?_)
                          rintro _ w_8k ⟨I_8l, v_8m, hv, hq, r_8n⟩
                          replace hv := hv.symm
                          subst hv
                          have hs := hq.st
                          have hp := hp.join0 hq
                          replace hz := hz.trans hs
                          replace r_2 := r_2.step hs
                          replace r_5 := r_5.step hs
                          replace r_7m := r_7m.step hs
                          replace r_76 := r_76.step hs
                          replace o_77 := o_77.step hs
                          replace o_78 := o_78.step hs
                          replace o_70 := o_70.step hs
                          refine ⟨SK (Stp I_8l w_8k I_8l) [(g_z, [v_7i, (.int .i64 x_7c), (.int .i64 x_7d), (.int .i64 x_7e), (.int .i64 x_7f), (.int .i64 x_7g)], 44)] [[]], ⟨Stp.refl _ _, (kp_cons (fun _ => (hp.own 0 _ _ _ rfl).1) kp_nil)⟩, fun L x h => ⟨hz.held h.1, h.2⟩, ?_⟩
                          have hz := Stp.refl I_8l w_8k
                          refine ⟨SK.same (by kernel_rfl), ?_⟩
                          refine ⟨SK.same (by kernel_rfl), ?_⟩
                          refine ⟨SK.same (by kernel_rfl), ?_⟩
                          refine ⟨SK.same (by kernel_rfl), ?_⟩
                          refine ⟨SK.same (by kernel_rfl), ?_⟩
                          refine ⟨?_, trivial⟩
                          refine ev_alloc hp rfl T44 ?_
                          intro g_8o w_8p hp hs
                          replace hz := hz.trans hs
                          replace r_2 := r_2.step hs
                          replace r_5 := r_5.step hs
                          replace r_8n := r_8n.step hs
                          replace r_7m := r_7m.step hs
                          replace r_76 := r_76.step hs
                          replace o_77 := o_77.step hs
                          replace o_78 := o_78.step hs
                          replace o_70 := o_70.step hs
                          refine ⟨SK (Stp I_8l w_8p I_8l) [(g_z, [v_7i, (.int .i64 x_7c), (.int .i64 x_7d), (.int .i64 x_7e), (.int .i64 x_7f), (.int .i64 x_7g)], 44)] [[]], ⟨Stp.refl _ _, (kp_cons (fun _ => (hp.own 1 _ _ _ rfl).1) kp_nil)⟩, fun L x h => ⟨hz.held h.1, h.2⟩, ?_⟩
                          have hz := Stp.refl I_8l w_8p
                          refine ⟨?_, trivial⟩
                          refine ev_storeA hp (i := 0) (off := 0) (vs := [v_8m, (.int .i64 x_8f.Done), (.int .i64 x_8f.Ran), (.int .i64 x_8f.Failed), (.int .i64 x_8f.Status), (.int .i64 x_8f.Ticks)]) rfl rfl rfl rfl T44 rfl (Nat.le_of_ble_eq_true rfl) (ones_cons r_8n.one (ones_cons rfl (ones_cons rfl (ones_cons rfl (ones_cons rfl (ones_cons rfl ones_nil)))))) ?_
                          intro w_8q hp hs
                          replace hz := hz.trans hs
                          replace r_2 := r_2.step hs
                          replace r_5 := r_5.step hs
                          replace r_8n := r_8n.step hs
                          replace r_7m := r_7m.step hs
                          replace r_76 := r_76.step hs
                          replace o_77 := o_77.step hs
                          replace o_78 := o_78.step hs
                          replace o_70 := o_70.step hs
                          refine ⟨SK (Stp I_8l w_8q I_8l) [(g_z, [v_7i, (.int .i64 x_7c), (.int .i64 x_7d), (.int .i64 x_7e), (.int .i64 x_7f), (.int .i64 x_7g)], 44)] [[]], ⟨Stp.refl _ _, (kp_cons (fun _ => (hp.own 1 _ _ _ rfl).1) kp_nil)⟩, fun L x h => ⟨hz.held h.1, h.2⟩, ?_⟩
                          have hz := Stp.refl I_8l w_8q
                          refine ⟨SK.same (by kernel_rfl), ?_⟩
                          refine ⟨SK.same (by kernel_rfl), ?_⟩
                          refine ⟨SK.same (by kernel_rfl), ?_⟩
                          obtain rfl := Option.some.inj q_86
                          have hp := hp.perm [1, 2, 3, 4, 5, 6, 0] (by decide)
                          exact ⟨(x_8f.Tasks, x_8f.Done, x_8f.Ran, x_8f.Failed, x_8f.Status, x_8f.Ticks, x_8g, x_8h, x_8i, g_8o, v_8m, I_8l), (.c rfl (.c rfl (.c rfl (.c rfl (.c rfl (.c rfl (.c rfl (.c rfl (.c rfl (.c rfl (.c rfl (.c rfl (.c rfl .n))))))))))))), rfl, hp, r_2, r_5, r_7m, r_76, o_77, o_78, o_70, r_8n⟩
                        refine ⟨?_, trivial⟩
                        refine ev_alloc hp rfl T44 ?_
                        intro g_8r w_8s hp hs
                        replace hz := hz.trans hs
                        replace r_2 := r_2.step hs
                        replace r_5 := r_5.step hs
                        replace r_7m := r_7m.step hs
                        replace r_8e := r_8e.step hs
                        replace r_76 := r_76.step hs
                        replace o_77 := o_77.step hs
                        replace o_78 := o_78.step hs
                        replace o_70 := o_70.step hs
                        refine ⟨SK (Stp I_84 w_8s I_84) [(g_z, [v_7i, (.int .i64 x_7c), (.int .i64 x_7d), (.int .i64 x_7e), (.int .i64 x_7f), (.int .i64 x_7g)], 44)] [[]], ⟨Stp.refl _ _, (kp_cons (fun _ => (hp.own 1 _ _ _ rfl).1) kp_nil)⟩, fun L x h => ⟨hz.held h.1, h.2⟩, ?_⟩
                        have hz := Stp.refl I_84 w_8s
                        refine ⟨?_, trivial⟩
                        obtain ⟨⟨x_8t, x_8u, x_8v, x_8w⟩, q_8x, q_86⟩ := bind_some q_86
                        refine ev_call rfl rfl C18 (((ref42_Mission_Tick_ok n) _ _  (Mission_2.mk x_7b x_7c x_7d x_7e x_7f x_7g) v_7i r_7m x_87 v_8d r_8e hp.imm _ q_8x).mono ?_)
                        rintro _ w_8y ⟨I_8z, v_90, hv, hq, r_91⟩
                        replace hv := hv.symm
                        subst hv
                        have hs := hq.st
                        have hp := hp.join0 hq
                        replace hz := hz.trans hs
                        replace r_2 := r_2.step hs
                        replace r_5 := r_5.step hs
                        replace r_7m := r_7m.step hs
                        replace r_76 := r_76.step hs
                        replace o_77 := o_77.step hs
                        replace o_78 := o_78.step hs
                        replace o_70 := o_70.step hs
                        refine ⟨SK (Stp I_8z w_8y I_8z) [(g_z, [v_7i, (.int .i64 x_7c), (.int .i64 x_7d), (.int .i64 x_7e), (.int .i64 x_7f), (.int .i64 x_7g)], 44)] [[]], ⟨Stp.refl _ _, (kp_cons (fun _ => (hp.own 1 _ _ _ rfl).1) kp_nil)⟩, fun L x h => ⟨hz.held h.1, h.2⟩, ?_⟩
                        have hz := Stp.refl I_8z w_8y
                        refine ⟨SK.same (by kernel_rfl), ?_⟩
                        refine ⟨SK.same (by kernel_rfl), ?_⟩
                        refine ⟨SK.same (by kernel_rfl), ?_⟩
                        refine ⟨SK.same (by kernel_rfl), ?_⟩
                        refine ⟨SK.same (by kernel_rfl), ?_⟩
                        refine ⟨?_, trivial⟩
                        refine ev_storeA hp (i := 0) (off := 0) (vs := [v_90, (.int .i64 x_8t.Done), (.int .i64 x_8t.Ran), (.int .i64 x_8t.Failed), (.int .i64 x_8t.Status), (.int .i64 x_8t.Ticks)]) rfl rfl rfl rfl T44 rfl (Nat.le_of_ble_eq_true rfl) (ones_cons r_91.one (ones_cons rfl (ones_cons rfl (ones_cons rfl (ones_cons rfl (ones_cons rfl ones_nil)))))) ?_
                        intro w_92 hp hs
                        replace hz := hz.trans hs
                        replace r_2 := r_2.step hs
                        replace r_5 := r_5.step hs
                        replace r_91 := r_91.step hs
                        replace r_7m := r_7m.step hs
                        replace r_76 := r_76.step hs
                        replace o_77 := o_77.step hs
                        replace o_78 := o_78.step hs
                        replace o_70 := o_70.step hs
                        refine ⟨SK (Stp I_8z w_92 I_8z) [(g_z, [v_7i, (.int .i64 x_7c), (.int .i64 x_7d), (.int .i64 x_7e), (.int .i64 x_7f), (.int .i64 x_7g)], 44)] [[]], ⟨Stp.refl _ _, (kp_cons (fun _ => (hp.own 1 _ _ _ rfl).1) kp_nil)⟩, fun L x h => ⟨hz.held h.1, h.2⟩, ?_⟩
                        have hz := Stp.refl I_8z w_92
                        refine ⟨SK.same (by kernel_rfl), ?_⟩
                        refine ⟨SK.same (by kernel_rfl), ?_⟩
                        refine ⟨SK.same (by kernel_rfl), ?_⟩
                        obtain rfl := Option.some.inj q_86
                        have hp := hp.perm [1, 2, 3, 4, 5, 6, 0] (by decide)
                        exact ⟨(x_8t.Tasks, x_8t.Done, x_8t.Ran, x_8t.Failed, x_8t.Status, x_8t.Ticks, x_8u, x_8v, x_8w, g_8r, v_90, I_8z), (.c rfl (.c rfl (.c rfl (.c rfl (.c rfl (.c rfl (.c rfl (.c rfl (.c rfl (.c rfl (.c rfl (.c rfl (.c rfl .n))))))))))))), rfl, hp, r_2, r_5, r_7m, r_76, o_77, o_78, o_70, r_91⟩
                      ·
                        rintro ⟨x_93, x_94, x_95, x_96, x_97, x_98, x_99, x_9a, x_9b, g_9c, v_9d, I_9e⟩ w_9f ⟨hy, hp, r_2, r_5, r_7m, r_76, o_77, o_78, o_70, r_9g⟩
                        replace hy := hy.symm
                        subst hy
                        apply go
                        apply go
                        refine ev (rn_load rfl rfl (run_loadVarA T44 rfl (hp.at_ (i := 6) rfl))) ?_
                        refine ev_storeA hp (i := 0) (off := 0) (vs := [v_9d, (.int .i64 x_94), (.int .i64 x_95), (.int .i64 x_96), (.int .i64 x_97), (.int .i64 x_98)]) rfl rfl rfl rfl T44 rfl (Nat.le_of_ble_eq_true rfl) (ones_cons r_9g.one (ones_cons rfl (ones_cons rfl (ones_cons rfl (ones_cons rfl (ones_cons rfl ones_nil)))))) ?_
                        intro w_9h hp hs
                        replace r_2 := r_2.step hs
                        replace r_5 := r_5.step hs
                        replace r_9g := r_9g.step hs
                        replace r_76 := r_76.step hs
                        replace o_77 := o_77.step hs
                        replace o_78 := o_78.step hs
                        replace o_70 := o_70.step hs
                        apply go
                        obtain ⟨y_9i, q_9j, q_7q⟩ := bind_some q_7q
                        refine W.cut (γ := (Bool × (Nat → Prop))) (fun g => [(0, v_1), (1, v_4), (5, (.pointer none)), (7, (.pointer (some ⟨g_z, 0, none⟩))), (12, (.pointer (some ⟨g_6u, 0, none⟩))), (13, (.int .i64 x_7h)), (147, (.bool (g.1)))]) (fun g w' => y_9i = (g.1) ∧ Hp ⟨w0, I0, []⟩ (g.2) [some (g_z, [v_9d, (.int .i64 x_94), (.int .i64 x_95), (.int .i64 x_96), (.int .i64 x_97), (.int .i64 x_98)], 44), e_73, e_75, some (g_6v, [v_71, v_72, v_74], 70), e_6y, some (g_6u, [(.pointer (some ⟨g_6v, 0, none⟩)), v_6x, (.int .i64 x_2o.status), (.int .i64 x_2o.ticks)], 59)] w' ∧ RepS dTask w' (g.2) v_1 x_0 ∧ RepS (dSl (dI .i64)) w' (g.2) v_4 x_3 ∧ RepS dTask w' (g.2) v_9d x_93 ∧ RepS dNode_2 w' (g.2) v_71 x_2o.run.nodes ∧ OwnS (dI .i64) 3 w' (g.2) v_72 e_73 x_2o.run.counters ∧ OwnS dB 4 w' (g.2) v_74 e_75 x_2o.run.active ∧ OwnS dB 4 w' (g.2) v_6x e_6y x_2o.done) ?_ ?_
                        ·
                          have hs := hp.stp (Ch.drew [] w_9h)
                          have hp := hp.drew
                          replace r_2 := r_2.step hs
                          replace r_5 := r_5.step hs
                          replace r_9g := r_9g.step hs
                          replace r_76 := r_76.step hs
                          replace o_77 := o_77.step hs
                          replace o_78 := o_78.step hs
                          replace o_70 := o_70.step hs
                          refine W.held [(0, true), (1, true), (2, true), (3, true), (4, true), (5, true), (6, true), (7, true), (8, true), (9, true), (10, true), (11, true), (12, true), (13, true), (14, true), (16, true), (17, true), (15, false), (18, true), (19, true), (20, true), (21, true), (23, true), (24, true), (22, false), (25, true), (26, true)] (fun x => Stp I_9e w_9h.drew I_9e x ∧ OwnK [(g_z, [v_9d, (.int .i64 x_94), (.int .i64 x_95), (.int .i64 x_96), (.int .i64 x_97), (.int .i64 x_98)], 44)] x) MX (by kernel_rfl) ⟨Stp.refl _ _, (OwnK.cons (hp.own 0 _ _ _ rfl).1 OwnK.nil)⟩ ?_
                          have hz := Stp.refl I_9e w_9h.drew
                          refine sel_of (fun hc => ?_) (fun hc => ?_)
                          ·
                            have q_9j := cond_t q_9j hc
                            refine ⟨fun x => Stp I_9e w_9h.drew I_9e x ∧ OwnK [(g_z, [v_9d, (.int .i64 x_94), (.int .i64 x_95), (.int .i64 x_96), (.int .i64 x_97), (.int .i64 x_98)], 44)] x, ⟨Stp.refl _ _, (OwnK.cons (hp.own 0 _ _ _ rfl).1 OwnK.nil)⟩, fun x hx => ⟨hz.held hx.1, hx.2⟩, ?_⟩
                            have hz := Stp.refl I_9e w_9h.drew
                            refine ⟨fun x => Stp I_9e w_9h.drew I_9e x ∧ OwnK [(g_z, [v_9d, (.int .i64 x_94), (.int .i64 x_95), (.int .i64 x_96), (.int .i64 x_97), (.int .i64 x_98)], 44)] x, ⟨Stp.refl _ _, (OwnK.cons (hp.own 0 _ _ _ rfl).1 OwnK.nil)⟩, fun x hx => ⟨hz.held hx.1, hx.2⟩, ?_⟩
                            have hz := Stp.refl I_9e w_9h.drew
                            obtain rfl := Option.some.inj q_9j
                            have hp := hp.sel [0, 1, 2, 3, 4, 5] (by decide)
                            exact ⟨(true, I_9e), (.c rfl (.c rfl (.c rfl (.c rfl (.c rfl (.c rfl (.c rfl .n))))))), rfl, hp, r_2, r_5, r_9g, r_76, o_77, o_78, o_70⟩
                          ·
                            have q_9j := cond_f q_9j hc
                            refine sel_of (fun hc => ?_) (fun hc => ?_)
                            ·
                              have q_9j := cond_t q_9j hc
                              refine ⟨fun x => Stp I_9e w_9h.drew I_9e x ∧ OwnK [(g_z, [v_9d, (.int .i64 x_94), (.int .i64 x_95), (.int .i64 x_96), (.int .i64 x_97), (.int .i64 x_98)], 44)] x, ⟨Stp.refl _ _, (OwnK.cons (hp.own 0 _ _ _ rfl).1 OwnK.nil)⟩, fun x hx => ⟨hz.held hx.1, hx.2⟩, ?_⟩
                              have hz := Stp.refl I_9e w_9h.drew
                              refine ⟨fun x => Stp I_9e w_9h.drew I_9e x ∧ OwnK [(g_z, [v_9d, (.int .i64 x_94), (.int .i64 x_95), (.int .i64 x_96), (.int .i64 x_97), (.int .i64 x_98)], 44)] x, ⟨Stp.refl _ _, (OwnK.cons (hp.own 0 _ _ _ rfl).1 OwnK.nil)⟩, fun x hx => ⟨hz.held hx.1, hx.2⟩, ?_⟩
                              have hz := Stp.refl I_9e w_9h.drew
                              obtain rfl := Option.some.inj q_9j
                              have hp := hp.sel [0, 1, 2, 3, 4, 5] (by decide)
                              exact ⟨(true, I_9e), (.c rfl (.c rfl (.c rfl (.c rfl (.c rfl (.c rfl (.c rfl .n))))))), rfl, hp, r_2, r_5, r_9g, r_76, o_77, o_78, o_70⟩
                            ·
                              have q_9j := cond_f q_9j hc
                              refine sel_of (fun hc => ?_) (fun hc => ?_)
                              ·
                                have q_9j := cond_t q_9j hc
                                refine ⟨fun x => Stp I_9e w_9h.drew I_9e x ∧ OwnK [(g_z, [v_9d, (.int .i64 x_94), (.int .i64 x_95), (.int .i64 x_96), (.int .i64 x_97), (.int .i64 x_98)], 44)] x, ⟨Stp.refl _ _, (OwnK.cons (hp.own 0 _ _ _ rfl).1 OwnK.nil)⟩, fun x hx => ⟨hz.held hx.1, hx.2⟩, ?_⟩
                                have hz := Stp.refl I_9e w_9h.drew
                                refine ⟨fun x => Stp I_9e w_9h.drew I_9e x ∧ OwnK [(g_z, [v_9d, (.int .i64 x_94), (.int .i64 x_95), (.int .i64 x_96), (.int .i64 x_97), (.int .i64 x_98)], 44)] x, ⟨Stp.refl _ _, (OwnK.cons (hp.own 0 _ _ _ rfl).1 OwnK.nil)⟩, fun x hx => ⟨hz.held hx.1, hx.2⟩, ?_⟩
                                have hz := Stp.refl I_9e w_9h.drew
                                obtain rfl := Option.some.inj q_9j
                                have hp := hp.sel [0, 1, 2, 3, 4, 5] (by decide)
                                exact ⟨(true, I_9e), (.c rfl (.c rfl (.c rfl (.c rfl (.c rfl (.c rfl (.c rfl .n))))))), rfl, hp, r_2, r_5, r_9g, r_76, o_77, o_78, o_70⟩
                              ·
                                have q_9j := cond_f q_9j hc
                                refine evh0 (rn_field rfl rfl FO44_4) ?_
                                refine evh (fun w' hw => rn_load rfl rfl (run_loadVar1 T3 (hw.2.cell (i := 0) (off := 4) rfl rfl))) ?_
                                obtain ⟨x_9k, q_9l, q_9j⟩ := bind_some q_9j
                                refine ev_call rfl rfl C15 (((mission_Mission_Statusnil_ok n) _ _   hp.imm _ q_9l).mono ?_)
                                rintro _ w_9m ⟨I_9n, hv, hq⟩
                                replace hv := hv.symm
                                subst hv
                                have hs := hq.st
                                have hp := hp.join0 hq
                                replace hz := hz.trans hs
                                replace r_2 := r_2.step hs
                                replace r_5 := r_5.step hs
                                replace r_9g := r_9g.step hs
                                replace r_76 := r_76.step hs
                                replace o_77 := o_77.step hs
                                replace o_78 := o_78.step hs
                                replace o_70 := o_70.step hs
                                refine ⟨fun x => Stp I_9n w_9m I_9n x ∧ OwnK [(g_z, [v_9d, (.int .i64 x_94), (.int .i64 x_95), (.int .i64 x_96), (.int .i64 x_97), (.int .i64 x_98)], 44)] x, ⟨Stp.refl _ _, (OwnK.cons (hp.own 0 _ _ _ rfl).1 OwnK.nil)⟩, fun x hx => ⟨hz.held hx.1, hx.2⟩, ?_⟩
                                have hz := Stp.refl I_9n w_9m
                                refine sel_of (fun hc => ?_) (fun hc => ?_)
                                ·
                                  have q_9j := cond_t q_9j hc
                                  refine ⟨fun x => Stp I_9n w_9m I_9n x ∧ OwnK [(g_z, [v_9d, (.int .i64 x_94), (.int .i64 x_95), (.int .i64 x_96), (.int .i64 x_97), (.int .i64 x_98)], 44)] x, ⟨Stp.refl _ _, (OwnK.cons (hp.own 0 _ _ _ rfl).1 OwnK.nil)⟩, fun x hx => ⟨hz.held hx.1, hx.2⟩, ?_⟩
                                  have hz := Stp.refl I_9n w_9m
                                  obtain rfl := Option.some.inj q_9j
                                  have hp := hp.sel [0, 1, 2, 3, 4, 5] (by decide)
                                  exact ⟨(true, I_9n), (.c rfl (.c rfl (.c rfl (.c rfl (.c rfl (.c rfl (.c rfl .n))))))), rfl, hp, r_2, r_5, r_9g, r_76, o_77, o_78, o_70⟩
                                ·
                                  have q_9j := cond_f q_9j hc
                                  refine evh0 (rn_field rfl rfl FO44_5) ?_
                                  refine evh (fun w' hw => rn_load rfl rfl (run_loadVar1 T3 (hw.2.cell (i := 0) (off := 5) rfl rfl))) ?_
                                  obtain ⟨x_9o, q_9p, q_9j⟩ := bind_some q_9j
                                  refine ev_call rfl rfl C14 (((mission_Mission_Ticksnil_ok n) _ _   hp.imm _ q_9p).mono ?_)
                                  rintro _ w_9q ⟨I_9r, hv, hq⟩
                                  replace hv := hv.symm
                                  subst hv
                                  have hs := hq.st
                                  have hp := hp.join0 hq
                                  replace hz := hz.trans hs
                                  replace r_2 := r_2.step hs
                                  replace r_5 := r_5.step hs
                                  replace r_9g := r_9g.step hs
                                  replace r_76 := r_76.step hs
                                  replace o_77 := o_77.step hs
                                  replace o_78 := o_78.step hs
                                  replace o_70 := o_70.step hs
                                  refine ⟨fun x => Stp I_9r w_9q I_9r x ∧ OwnK [(g_z, [v_9d, (.int .i64 x_94), (.int .i64 x_95), (.int .i64 x_96), (.int .i64 x_97), (.int .i64 x_98)], 44)] x, ⟨Stp.refl _ _, (OwnK.cons (hp.own 0 _ _ _ rfl).1 OwnK.nil)⟩, fun x hx => ⟨hz.held hx.1, hx.2⟩, ?_⟩
                                  have hz := Stp.refl I_9r w_9q
                                  obtain rfl := Option.some.inj q_9j
                                  have hp := hp.sel [0, 1, 2, 3, 4, 5] (by decide)
                                  exact ⟨((x_9o != x_98), I_9r), (.c rfl (.c rfl (.c rfl (.c rfl (.c rfl (.c rfl (.c rfl .n))))))), rfl, hp, r_2, r_5, r_9g, r_76, o_77, o_78, o_70⟩
                        ·
                          rintro ⟨x_9s, I_9t⟩ w_9u ⟨hy, hp, r_2, r_5, r_9g, r_76, o_77, o_78, o_70⟩
                          replace hy := hy.symm
                          subst hy
                          apply go
                          refine sel_of (fun hc => ?_) (fun hc => ?_)
                          ·
                            have q_7q := cond_t q_7q hc
                            apply go
                            apply go
                            apply go
                            obtain rfl := Option.some.inj q_7q
                            have q_9v := congrArg some (q_7o _ (Option.some.inj q_7n).symm)
                            obtain rfl := Option.some.inj q_9v
                            obtain rfl := Option.some.inj h
                            exact ⟨rfl, hp.ch⟩
                          ·
                            have q_7q := cond_f q_7q hc
                            apply go
                            apply go
                            apply go
                            obtain ⟨x_9w, q_9x, q_7q⟩ := bind_some q_7q
                            refine ev_call rfl rfl C13 (((mission_Mission_Donenil_ok n) _ _   hp.imm _ q_9x).mono ?_)
                            rintro _ w_9y ⟨I_9z, v_a0, hv, hq, r_a1⟩
                            replace hv := hv.symm
                            subst hv
                            have hs := hq.st
                            have hp := hp.join0 hq
                            replace r_2 := r_2.step hs
                            replace r_5 := r_5.step hs
                            replace r_9g := r_9g.step hs
                            replace r_76 := r_76.step hs
                            replace o_77 := o_77.step hs
                            replace o_78 := o_78.step hs
                            replace o_70 := o_70.step hs
                            apply go
                            apply go
                            apply go
                            refine ev0 (rn_len rfl rfl Try.underlying39 r_a1) ?_
                            refine ev0 (rn_len rfl rfl Try.underlying22 r_2) ?_
                            apply go
                            refine sel_of (fun hc => ?_) (fun hc => ?_)
                            ·
                              have q_7q := cond_t q_7q hc
                              apply go
                              apply go
                              apply go
                              obtain rfl := Option.some.inj q_7q
                              have q_a2 := congrArg some (q_7o _ (Option.some.inj q_7n).symm)
                              obtain rfl := Option.some.inj q_a2
                              obtain rfl := Option.some.inj h
                              exact ⟨rfl, hp.ch⟩
                            ·
                              have q_7q := cond_f q_7q hc
                              apply go
                              apply go
                              apply go
                              apply go
                              refine W.loop q_7q (γ := Unit) (fun s _ => [(0, v_1), (1, v_4), (5, (.pointer none)), (7, (.pointer (some ⟨g_z, 0, none⟩))), (12, (.pointer (some ⟨g_6u, 0, none⟩))), (13, (.int .i64 x_7h)), (21, v_a0), (22, (.int .i64 (s)))]) (fun s _ w' => Hp ⟨w0, I0, []⟩ I_9z [some (g_z, [v_9d, (.int .i64 x_94), (.int .i64 x_95), (.int .i64 x_96), (.int .i64 x_97), (.int .i64 x_98)], 44), e_73, e_75, some (g_6v, [v_71, v_72, v_74], 70), e_6y, some (g_6u, [(.pointer (some ⟨g_6v, 0, none⟩)), v_6x, (.int .i64 x_2o.status), (.int .i64 x_2o.ticks)], 59)] w' ∧ RepS dTask w' I_9z v_1 x_0 ∧ RepS (dSl (dI .i64)) w' I_9z v_4 x_3 ∧ RepS dTask w' I_9z v_9d x_93 ∧ RepS dNode_2 w' I_9z v_71 x_2o.run.nodes ∧ OwnS (dI .i64) 3 w' I_9z v_72 e_73 x_2o.run.counters ∧ OwnS dB 4 w' I_9z v_74 e_75 x_2o.run.active ∧ OwnS dB 4 w' I_9z v_6x e_6y x_2o.done ∧ RepS dB w' I_9z v_a0 x_9w) () (.c rfl (.c rfl (.c rfl (.c rfl (.c rfl (.c rfl (.c rfl (.c rfl .n)))))))) ⟨hp, r_2, r_5, r_9g, r_76, o_77, o_78, o_70, r_a1⟩ ?_
                              rintro x_a3 ⟨⟩ w_a4 y_a5 ⟨hp, r_2, r_5, r_9g, r_76, o_77, o_78, o_70, r_a1⟩ q_a6 q_a7
                              unfold law42_MissionPlays_L27 at q_a6
                              apply go
                              apply go
                              apply go
                              refine ev0 (rn_len rfl rfl Try.underlying39 r_a1) ?_
                              apply go
                              refine sel_of (fun hc => ?_) (fun hc => ?_)
                              ·
                                have q_a6 := cond_t q_a6 hc
                                apply go
                                apply go
                                apply go
                                apply go
                                refine W.quiet (fun w' => Ch [] w_a4 w') MX (by kernel_rfl) (Ch.drew [] w_a4) ?_
                                obtain ⟨x_a8, q_a9, q_a6⟩ := bind_some q_a6
                                refine evq_index rfl rfl rfl Try.underlying39 T4 r_a1 q_a9 ?_
                                intro p_aa c_ab d_ac a_ad
                                obtain rfl : c_ab = [(.bool x_a8)] := d_ac
                                refine evq (fun w' hw => rn_load rfl rfl (run_loadVar1 T4 ((a_ad.step (hp.stp hw)).2 0 _ rfl))) ?_
                                refine evq0 (rn_field rfl rfl FO44_1) ?_
                                refine evq (fun w' hw => rn_load rfl rfl (run_loadVar1 T3 ((hp.ext hw).cell (i := 0) (off := 1) rfl rfl))) ?_
                                refine evq0 (rn_neB rfl rfl rfl Try.underlying4) ?_
                                intro w_ae hc
                                have hs := hp.stp hc
                                replace hp := hp.ext hc
                                replace r_2 := r_2.step hs
                                replace r_5 := r_5.step hs
                                replace r_a1 := r_a1.step hs
                                replace r_9g := r_9g.step hs
                                replace r_76 := r_76.step hs
                                replace o_77 := o_77.step hs
                                replace o_78 := o_78.step hs
                                replace o_70 := o_70.step hs
                                apply go
                                refine sel_of (fun hc => ?_) (fun hc => ?_)
                                ·
                                  have q_a6 := cond_t q_a6 hc
                                  apply go
                                  apply go
                                  apply go
                                  have q_af := congrArg some (q_a7 _ (Option.some.inj q_a6).symm)
                                  obtain rfl := Option.some.inj q_af
                                  have q_ag := congrArg some (q_7o _ (Option.some.inj q_7n).symm)
                                  obtain rfl := Option.some.inj q_ag
                                  obtain rfl := Option.some.inj h
                                  exact ⟨rfl, hp.ch⟩
                                ·
                                  have q_a6 := cond_f q_a6 hc
                                  apply go
                                  apply go
                                  exact ⟨_, (Option.some.inj q_a6).symm, (), (.c rfl (.c rfl (.c rfl (.c rfl (.c rfl (.c rfl (.c rfl (.c rfl .n)))))))), ⟨hp, r_2, r_5, r_9g, r_76, o_77, o_78, o_70, r_a1⟩⟩
                              ·
                                have q_a6 := cond_f q_a6 hc
                                apply go
                                have q_ah := congrArg some (q_a7 _ (Option.some.inj q_a6).symm)
                                obtain rfl := Option.some.inj q_ah
                                exact ⟨(x_93, x_94, x_95, x_96, x_97, x_98, v_9d, I_9z), (.c rfl (.c rfl (.c rfl (.c rfl (.c rfl (.c rfl .n)))))), rfl, hp, r_2, r_5, r_9g, r_76, o_77, o_78, o_70⟩
                    ·
                      rintro ⟨x_ai, x_aj, x_ak, x_al, x_am, x_an, v_ao, I_ap⟩ w_aq ⟨hy, hp, r_2, r_5, r_ar, r_76, o_77, o_78, o_70⟩
                      replace hy := hy.symm
                      subst hy
                      apply go
                      exact ⟨_, (Option.some.inj q_7n).symm, (v_ao, I_ap), (.c rfl (.c rfl (.c rfl (.c rfl (.c rfl (.c rfl .n)))))), ⟨hp, r_2, r_5, r_ar, r_76, o_77, o_78, o_70⟩⟩
                  ·
                    have q_7n := cond_f q_7n hc
                    apply go
                    have q_as := congrArg some (q_7o _ (Option.some.inj q_7n).symm)
                    obtain rfl := Option.some.inj q_as
                    have hp := hp.sel [1, 2, 3, 4, 5] (by decide)
                    exact ⟨I_7j, (.c rfl (.c rfl .n)), rfl, hp, r_2, r_76, o_77, o_78, o_70⟩
                ·
                  rintro I_at w_au ⟨hy, hp, r_2, r_76, o_77, o_78, o_70⟩
                  replace hy := hy.symm
                  subst hy
                  obtain ⟨y_av, q_aw, h⟩ := bind_some h
                  refine W.cut (γ := (Bool × (Nat → Prop))) (fun g => [(4, (.bool (g.1)))]) (fun g w' => y_av = (g.1) ∧ Hp ⟨w0, I0, []⟩ (g.2) [] w') ?_ ?_
                  ·
                    apply go
                    obtain ⟨⟨x_ax, x_ay⟩, q_az, q_aw⟩ := bind_some q_aw
                    refine ev_call rfl rfl C14 (((mission_Mission_Ticks_ok n) _ _  (Mission.mk (Runner.mk x_2o.run.nodes x_2o.run.counters x_2o.run.active) x_2o.done x_2o.status x_2o.ticks) g_6u [some (g_6u, [(.pointer (some ⟨g_6v, 0, none⟩)), v_6x, (.int .i64 x_2o.status), (.int .i64 x_2o.ticks)], 59), some (g_6v, [v_71, v_72, v_74], 70), e_73, e_75, e_6y] ⟨g_6v, [some (g_6v, [v_71, v_72, v_74], 70), e_73, e_75], v_6x, e_6y, rfl, ⟨v_71, v_72, e_73, v_74, e_75, rfl, r_76, o_77, o_78⟩, o_70⟩ (hp.lendL [4, 2, 0, 1, 3] (by decide)) _ q_az).mono ?_)
                    rintro _ w_b0 ⟨I_b1, F_b2, hv, hq31849, q_b3⟩
                    replace hv := hv.symm
                    subst hv
                    obtain ⟨g_b4, E_b5, v_b6, e_b7, rfl, q_b8, o_b9⟩ := q_b3
                    obtain ⟨v_ba, v_bb, e_bc, v_bd, e_be, rfl, r_bf, o_bg, o_bh⟩ := q_b8
                    have hs := hq31849.st
                    have hp := hp.backL [4, 2, 0, 1, 3] [] (by decide) hq31849
                    replace r_2 := r_2.step hs
                    refine sel_of (fun hc => ?_) (fun hc => ?_)
                    ·
                      have q_aw := cond_t q_aw hc
                      obtain ⟨⟨x_bi, x_bj⟩, q_bk, q_aw⟩ := bind_some q_aw
                      refine ev_call rfl rfl C15 (((mission_Mission_Status_ok n) _ _  (Mission.mk (Runner.mk x_ay.run.nodes x_ay.run.counters x_ay.run.active) x_ay.done x_ay.status x_ay.ticks) g_6u [some (g_6u, [(.pointer (some ⟨g_b4, 0, none⟩)), v_b6, (.int .i64 x_ay.status), (.int .i64 x_ay.ticks)], 59), some (g_b4, [v_ba, v_bb, v_bd], 70), e_bc, e_be, e_b7] ⟨g_b4, [some (g_b4, [v_ba, v_bb, v_bd], 70), e_bc, e_be], v_b6, e_b7, rfl, ⟨v_ba, v_bb, e_bc, v_bd, e_be, rfl, r_bf, o_bg, o_bh⟩, o_b9⟩ (hp.lendL [0, 1, 2, 3, 4] (by decide)) _ q_bk).mono ?_)
                      rintro _ w_bl ⟨I_bm, F_bn, hv, hq31871, q_bo⟩
                      replace hv := hv.symm
                      subst hv
                      obtain ⟨g_bp, E_bq, v_br, e_bs, rfl, q_bt, o_bu⟩ := q_bo
                      obtain ⟨v_bv, v_bw, e_bx, v_by, e_bz, rfl, r_c0, o_c1, o_c2⟩ := q_bt
                      have hs := hq31871.st
                      have hp := hp.backL [0, 1, 2, 3, 4] [] (by decide) hq31871
                      replace r_2 := r_2.step hs
                      refine sel_of (fun hc => ?_) (fun hc => ?_)
                      ·
                        have q_aw := cond_t q_aw hc
                        obtain ⟨⟨x_c3, x_c4⟩, q_c5, q_aw⟩ := bind_some q_aw
                        refine ev_call rfl rfl C13 (((mission_Mission_Done_ok n) _ _  (Mission.mk (Runner.mk x_bj.run.nodes x_bj.run.counters x_bj.run.active) x_bj.done x_bj.status x_bj.ticks) g_6u [some (g_6u, [(.pointer (some ⟨g_bp, 0, none⟩)), v_br, (.int .i64 x_bj.status), (.int .i64 x_bj.ticks)], 59), some (g_bp, [v_bv, v_bw, v_by], 70), e_bx, e_bz, e_bs] ⟨g_bp, [some (g_bp, [v_bv, v_bw, v_by], 70), e_bx, e_bz], v_br, e_bs, rfl, ⟨v_bv, v_bw, e_bx, v_by, e_bz, rfl, r_c0, o_c1, o_c2⟩, o_bu⟩ (hp.lendL [0, 1, 2, 3, 4] (by decide)) _ q_c5).mono ?_)
                        rintro _ w_c6 ⟨I_c7, v_c8, F_c9, hv, hq31895, r_ca, q_cb⟩
                        replace hv := hv.symm
                        subst hv
                        obtain ⟨g_cc, E_cd, v_ce, e_cf, rfl, q_cg, o_ch⟩ := q_cb
                        obtain ⟨v_ci, v_cj, e_ck, v_cl, e_cm, rfl, r_cn, o_co, o_cp⟩ := q_cg
                        have hs := hq31895.st
                        have hp := hp.backL [0, 1, 2, 3, 4] [] (by decide) hq31895
                        replace r_2 := r_2.step hs
                        refine ev0 (rn_len rfl rfl Try.underlying39 r_ca) ?_
                        refine ev0 (rn_len rfl rfl Try.underlying22 r_2) ?_
                        obtain rfl := Option.some.inj q_aw
                        have hp := hp.sel [] (by decide)
                        exact ⟨(((x_c3.length : Int) == (x_0.length : Int)), I_c7), (.c rfl .n), rfl, hp⟩
                      ·
                        have q_aw := cond_f q_aw hc
                        obtain rfl := Option.some.inj q_aw
                        have hp := hp.sel [] (by decide)
                        exact ⟨(false, I_bm), (.c rfl .n), rfl, hp⟩
                    ·
                      have q_aw := cond_f q_aw hc
                      obtain rfl := Option.some.inj q_aw
                      have hp := hp.sel [] (by decide)
                      exact ⟨(false, I_b1), (.c rfl .n), rfl, hp⟩
                  ·
                    rintro ⟨x_cq, I_cr⟩ w_cs ⟨hy, hp⟩
                    replace hy := hy.symm
                    subst hy
                    apply go
                    obtain rfl := Option.some.inj h
                    exact ⟨rfl, hp.ch⟩
      ·
        obtain ⟨g_ct, rfl, g_cu, E_cv, v_cw, e_cx, rfl, q_cy, o_cz⟩ := q_q
        obtain ⟨v_d0, v_d1, e_d2, v_d3, e_d4, rfl, r_d5, o_d6, o_d7⟩ := q_cy
        have hs := hq25418.st
        have hp := hp.join0 hq25418
        replace r_2 := r_2.step hs
        replace r_5 := r_5.step hs
        apply go
        apply go
        obtain ⟨⟨x_d8, x_d9⟩, q_da, h⟩ := bind_some h
        refine ev_call rfl rfl C16 (((ref42_New_ok n) _ _  x_0 v_1 r_2 hp.imm _ q_da).mono ?_)
        rintro _ w_db ⟨I_dc, v_dd, hv, hq, r_de⟩
        replace hv := hv.symm
        subst hv
        have hs := hq.st
        have hp := hp.join0 hq
        replace r_2 := r_2.step hs
        replace r_5 := r_5.step hs
        replace o_cz := o_cz.step hs
        replace r_d5 := r_d5.step hs
        replace o_d6 := o_d6.step hs
        replace o_d7 := o_d7.step hs
        refine ev_alloc hp rfl T44 ?_
        intro g_df w_dg hp hs
        replace r_2 := r_2.step hs
        replace r_5 := r_5.step hs
        replace r_de := r_de.step hs
        replace o_cz := o_cz.step hs
        replace r_d5 := r_d5.step hs
        replace o_d6 := o_d6.step hs
        replace o_d7 := o_d7.step hs
        refine ev_storeA hp (i := 0) (off := 0) (vs := [v_dd, (.int .i64 x_d8.Done), (.int .i64 x_d8.Ran), (.int .i64 x_d8.Failed), (.int .i64 x_d8.Status), (.int .i64 x_d8.Ticks)]) rfl rfl rfl rfl T44 rfl (Nat.le_of_ble_eq_true rfl) (ones_cons r_de.one (ones_cons rfl (ones_cons rfl (ones_cons rfl (ones_cons rfl (ones_cons rfl ones_nil)))))) ?_
        intro w_dh hp hs
        replace r_2 := r_2.step hs
        replace r_5 := r_5.step hs
        replace r_de := r_de.step hs
        replace o_cz := o_cz.step hs
        replace r_d5 := r_d5.step hs
        replace o_d6 := o_d6.step hs
        replace o_d7 := o_d7.step hs
        apply go
        obtain ⟨y_di, q_dj, h⟩ := bind_some h
        refine W.cut (γ := Bool) (fun g => [(0, v_1), (1, v_4), (5, (.pointer (some ⟨g_ct, 0, none⟩))), (7, (.pointer (some ⟨g_df, 0, none⟩))), (8, (.int .i64 x_d9)), (51, (.bool (g)))]) (fun g w' => y_di = (g) ∧ w_dh = w') ?_ ?_
        ·
          apply go
          refine sel_of (fun hc => ?_) (fun hc => ?_)
          ·
            have q_dj := cond_t q_dj hc
            obtain rfl := Option.some.inj q_dj
            exact ⟨true, (.c rfl (.c rfl (.c rfl (.c rfl (.c rfl (.c rfl .n)))))), rfl, rfl⟩
          ·
            have q_dj := cond_f q_dj hc
            refine ev0 (rn_eqNilP rfl rfl rfl Try.underlying26 (b := false) rfl) ?_
            refine ev0 (rn_neB rfl rfl rfl Try.underlying4) ?_
            obtain rfl := Option.some.inj q_dj
            exact ⟨(!(false == (x_d9 != 0))), (.c rfl (.c rfl (.c rfl (.c rfl (.c rfl (.c rfl .n)))))), rfl, rfl⟩
        ·
          rintro x_dk _ ⟨hy, rfl⟩
          replace hy := hy.symm
          subst hy
          apply go
          refine sel_of (fun hc => ?_) (fun hc => ?_)
          ·
            have h := cond_t h hc
            apply go
            apply go
            apply go
            obtain rfl := Option.some.inj h
            exact ⟨rfl, hp.ch⟩
          ·
            have h := cond_f h hc
            apply go
            apply go
            apply go
            apply go
            apply go
            refine sel_of (fun hc => ?_) (fun hc => ?_)
            ·
              have h := cond_t h hc
              apply go
              apply go
              obtain ⟨⟨x_dl, x_dm, x_dn, x_do⟩, q_dp, h⟩ := bind_some h
              refine ev_call rfl rfl C12 (((mission_Mission_Tick_ok n) _ _  (Mission.mk (Runner.mk x_r.run.nodes x_r.run.counters x_r.run.active) x_r.done x_r.status x_r.ticks) g_ct [some (g_ct, [(.pointer (some ⟨g_cu, 0, none⟩)), v_cw, (.int .i64 x_r.status), (.int .i64 x_r.ticks)], 59), some (g_cu, [v_d0, v_d1, v_d3], 70), e_d2, e_d4, e_cx] ⟨g_cu, [some (g_cu, [v_d0, v_d1, v_d3], 70), e_d2, e_d4], v_cw, e_cx, rfl, ⟨v_d0, v_d1, e_d2, v_d3, e_d4, rfl, r_d5, o_d6, o_d7⟩, o_cz⟩ [] (.slice none 0 0) (RepS.nil _ _ _) (hp.lendL [1, 2, 3, 4, 5] (by decide)) _ q_dp).mono ?_)
              rintro _ w_dq ⟨I_dr, F_ds, hv, hq31947, q_dt⟩
              replace hv := hv.symm
              subst hv
              obtain ⟨g_du, E_dv, v_dw, e_dx, rfl, q_dy, o_dz⟩ := q_dt
              obtain ⟨v_e0, v_e1, e_e2, v_e3, e_e4, rfl, r_e5, o_e6, o_e7⟩ := q_dy
              have hs := hq31947.st
              have hp := hp.backL [1, 2, 3, 4, 5] [0] (by decide) hq31947
              replace r_de := r_de.step hs
              obtain ⟨y_e8, q_e9, h⟩ := bind_some h
              refine W.cut (γ := (Bool × (Nat → Prop))) (fun g => [(4, (.bool (g.1)))]) (fun g w' => y_e8 = (g.1) ∧ Hp ⟨w0, I0, []⟩ (g.2) [] w') ?_ ?_
              ·
                apply go
                refine sel_of (fun hc => ?_) (fun hc => ?_)
                ·
                  have q_e9 := cond_t q_e9 hc
                  refine sel_of (fun hc => ?_) (fun hc => ?_)
                  ·
                    have q_e9 := cond_t q_e9 hc
                    refine sel_of (fun hc => ?_) (fun hc => ?_)
                    ·
                      have q_e9 := cond_t q_e9 hc
                      obtain ⟨⟨x_ea, x_eb⟩, q_ec, q_e9⟩ := bind_some q_e9
                      refine ev_call rfl rfl C13 (((mission_Mission_Done_ok n) _ _  (Mission.mk (Runner.mk x_do.run.nodes x_do.run.counters x_do.run.active) x_do.done x_do.status x_do.ticks) g_ct [some (g_ct, [(.pointer (some ⟨g_du, 0, none⟩)), v_dw, (.int .i64 x_do.status), (.int .i64 x_do.ticks)], 59), some (g_du, [v_e0, v_e1, v_e3], 70), e_e2, e_e4, e_dx] ⟨g_du, [some (g_du, [v_e0, v_e1, v_e3], 70), e_e2, e_e4], v_dw, e_dx, rfl, ⟨v_e0, v_e1, e_e2, v_e3, e_e4, rfl, r_e5, o_e6, o_e7⟩, o_dz⟩ (hp.lendL [0, 1, 2, 3, 4] (by decide)) _ q_ec).mono ?_)
                      rintro _ w_ed ⟨I_ee, v_ef, F_eg, hv, hq32099, r_eh, q_ei⟩
                      replace hv := hv.symm
                      subst hv
                      obtain ⟨g_ej, E_ek, v_el, e_em, rfl, q_en, o_eo⟩ := q_ei
                      obtain ⟨v_ep, v_eq, e_er, v_es, e_et, rfl, r_eu, o_ev, o_ew⟩ := q_en
                      have hs := hq32099.st
                      have hp := hp.backL [0, 1, 2, 3, 4] [5] (by decide) hq32099
                      replace r_de := r_de.step hs
                      refine ev0 (rn_len rfl rfl Try.underlying39 r_eh) ?_
                      refine sel_of (fun hc => ?_) (fun hc => ?_)
                      ·
                        have q_e9 := cond_t q_e9 hc
                        obtain ⟨⟨x_ex, x_ey⟩, q_ez, q_e9⟩ := bind_some q_e9
                        refine ev_call rfl rfl C15 (((mission_Mission_Status_ok n) _ _  (Mission.mk (Runner.mk x_eb.run.nodes x_eb.run.counters x_eb.run.active) x_eb.done x_eb.status x_eb.ticks) g_ct [some (g_ct, [(.pointer (some ⟨g_ej, 0, none⟩)), v_el, (.int .i64 x_eb.status), (.int .i64 x_eb.ticks)], 59), some (g_ej, [v_ep, v_eq, v_es], 70), e_er, e_et, e_em] ⟨g_ej, [some (g_ej, [v_ep, v_eq, v_es], 70), e_er, e_et], v_el, e_em, rfl, ⟨v_ep, v_eq, e_er, v_es, e_et, rfl, r_eu, o_ev, o_ew⟩, o_eo⟩ (hp.lendL [0, 1, 2, 3, 4] (by decide)) _ q_ez).mono ?_)
                        rintro _ w_f0 ⟨I_f1, F_f2, hv, hq32121, q_f3⟩
                        replace hv := hv.symm
                        subst hv
                        obtain ⟨g_f4, E_f5, v_f6, e_f7, rfl, q_f8, o_f9⟩ := q_f3
                        obtain ⟨v_fa, v_fb, e_fc, v_fd, e_fe, rfl, r_ff, o_fg, o_fh⟩ := q_f8
                        have hs := hq32121.st
                        have hp := hp.backL [0, 1, 2, 3, 4] [5] (by decide) hq32121
                        replace r_de := r_de.step hs
                        refine sel_of (fun hc => ?_) (fun hc => ?_)
                        ·
                          have q_e9 := cond_t q_e9 hc
                          obtain ⟨⟨x_fi, x_fj⟩, q_fk, q_e9⟩ := bind_some q_e9
                          refine ev_call rfl rfl C14 (((mission_Mission_Ticks_ok n) _ _  (Mission.mk (Runner.mk x_ey.run.nodes x_ey.run.counters x_ey.run.active) x_ey.done x_ey.status x_ey.ticks) g_ct [some (g_ct, [(.pointer (some ⟨g_f4, 0, none⟩)), v_f6, (.int .i64 x_ey.status), (.int .i64 x_ey.ticks)], 59), some (g_f4, [v_fa, v_fb, v_fd], 70), e_fc, e_fe, e_f7] ⟨g_f4, [some (g_f4, [v_fa, v_fb, v_fd], 70), e_fc, e_fe], v_f6, e_f7, rfl, ⟨v_fa, v_fb, e_fc, v_fd, e_fe, rfl, r_ff, o_fg, o_fh⟩, o_f9⟩ (hp.lendL [0, 1, 2, 3, 4] (by decide)) _ q_fk).mono ?_)
                          rintro _ w_fl ⟨I_fm, F_fn, hv, hq32143, q_fo⟩
                          replace hv := hv.symm
                          subst hv
                          obtain ⟨g_fp, E_fq, v_fr, e_fs, rfl, q_ft, o_fu⟩ := q_fo
                          obtain ⟨v_fv, v_fw, e_fx, v_fy, e_fz, rfl, r_g0, o_g1, o_g2⟩ := q_ft
                          have hs := hq32143.st
                          have hp := hp.backL [0, 1, 2, 3, 4] [5] (by decide) hq32143
                          replace r_de := r_de.step hs
                          refine sel_of (fun hc => ?_) (fun hc => ?_)
                          ·
                            have q_e9 := cond_t q_e9 hc
                            obtain ⟨⟨x_g3, x_g4⟩, q_g5, q_e9⟩ := bind_some q_e9
                            refine ev_call rfl rfl C17 (((mission_Mission_Clone_ok n) _ _  (Mission.mk (Runner.mk x_fj.run.nodes x_fj.run.counters x_fj.run.active) x_fj.done x_fj.status x_fj.ticks) g_ct [some (g_ct, [(.pointer (some ⟨g_fp, 0, none⟩)), v_fr, (.int .i64 x_fj.status), (.int .i64 x_fj.ticks)], 59), some (g_fp, [v_fv, v_fw, v_fy], 70), e_fx, e_fz, e_fs] ⟨g_fp, [some (g_fp, [v_fv, v_fw, v_fy], 70), e_fx, e_fz], v_fr, e_fs, rfl, ⟨v_fv, v_fw, e_fx, v_fy, e_fz, rfl, r_g0, o_g1, o_g2⟩, o_fu⟩ (hp.lendL [0, 1, 2, 3, 4] (by decide)) _ q_g5).mono ?_)
                            rintro _ w_g6 ⟨I_g7, v_g8, F_g9, F_ga, hv, hq32168, q_gb, q_gc⟩
                            replace hv := hv.symm
                            subst hv
                            rcases x_g3 with _ | x_gd
                            ·
                              obtain ⟨rfl, rfl⟩ := q_gb
                              obtain ⟨g_ge, E_gf, v_gg, e_gh, rfl, q_gi, o_gj⟩ := q_gc
                              obtain ⟨v_gk, v_gl, e_gm, v_gn, e_go, rfl, r_gp, o_gq, o_gr⟩ := q_gi
                              have hs := hq32168.st
                              have hp := hp.backL [0, 1, 2, 3, 4] [5] (by decide) hq32168
                              replace r_de := r_de.step hs
                              refine ev0 (rn_eqNilP rfl rfl rfl Try.underlying26 (b := true) rfl) ?_
                              obtain rfl := Option.some.inj q_e9
                              have hp := hp.sel [] (by decide)
                              exact ⟨(true, I_g7), (.c rfl .n), rfl, hp⟩
                            ·
                              obtain ⟨g_gs, rfl, g_gt, E_gu, v_gv, e_gw, rfl, q_gx, o_gy⟩ := q_gb
                              obtain ⟨v_gz, v_h0, e_h1, v_h2, e_h3, rfl, r_h4, o_h5, o_h6⟩ := q_gx
                              obtain ⟨g_h7, E_h8, v_h9, e_ha, rfl, q_hb, o_hc⟩ := q_gc
                              obtain ⟨v_hd, v_he, e_hf, v_hg, e_hh, rfl, r_hi, o_hj, o_hk⟩ := q_hb
                              have hs := hq32168.st
                              have hp := hp.backL [0, 1, 2, 3, 4] [5] (by decide) hq32168
                              replace r_de := r_de.step hs
                              refine ev0 (rn_eqNilP rfl rfl rfl Try.underlying26 (b := false) rfl) ?_
                              obtain rfl := Option.some.inj q_e9
                              have hp := hp.sel [] (by decide)
                              exact ⟨(false, I_g7), (.c rfl .n), rfl, hp⟩
                          ·
                            have q_e9 := cond_f q_e9 hc
                            obtain rfl := Option.some.inj q_e9
                            have hp := hp.sel [] (by decide)
                            exact ⟨(false, I_fm), (.c rfl .n), rfl, hp⟩
                        ·
                          have q_e9 := cond_f q_e9 hc
                          obtain rfl := Option.some.inj q_e9
                          have hp := hp.sel [] (by decide)
                          exact ⟨(false, I_f1), (.c rfl .n), rfl, hp⟩
                      ·
                        have q_e9 := cond_f q_e9 hc
                        obtain rfl := Option.some.inj q_e9
                        have hp := hp.sel [] (by decide)
                        exact ⟨(false, I_ee), (.c rfl .n), rfl, hp⟩
                    ·
                      have q_e9 := cond_f q_e9 hc
                      obtain rfl := Option.some.inj q_e9
                      have hp := hp.sel [] (by decide)
                      exact ⟨(false, I_dr), (.c rfl .n), rfl, hp⟩
                  ·
                    have q_e9 := cond_f q_e9 hc
                    obtain rfl := Option.some.inj q_e9
                    have hp := hp.sel [] (by decide)
                    exact ⟨(false, I_dr), (.c rfl .n), rfl, hp⟩
                ·
                  have q_e9 := cond_f q_e9 hc
                  obtain rfl := Option.some.inj q_e9
                  have hp := hp.sel [] (by decide)
                  exact ⟨(false, I_dr), (.c rfl .n), rfl, hp⟩
              ·
                rintro ⟨x_hl, I_hm⟩ w_hn ⟨hy, hp⟩
                replace hy := hy.symm
                subst hy
                apply go
                obtain rfl := Option.some.inj h
                exact ⟨rfl, hp.ch⟩
            ·
              have h := cond_f h hc
              apply go
              apply go
              apply go
              obtain ⟨⟨x_ho, x_hp⟩, q_hq, h⟩ := bind_some h
              refine ev_call rfl rfl C17 (((mission_Mission_Clone_ok n) _ _  (Mission.mk (Runner.mk x_r.run.nodes x_r.run.counters x_r.run.active) x_r.done x_r.status x_r.ticks) g_ct [some (g_ct, [(.pointer (some ⟨g_cu, 0, none⟩)), v_cw, (.int .i64 x_r.status), (.int .i64 x_r.ticks)], 59), some (g_cu, [v_d0, v_d1, v_d3], 70), e_d2, e_d4, e_cx] ⟨g_cu, [some (g_cu, [v_d0, v_d1, v_d3], 70), e_d2, e_d4], v_cw, e_cx, rfl, ⟨v_d0, v_d1, e_d2, v_d3, e_d4, rfl, r_d5, o_d6, o_d7⟩, o_cz⟩ (hp.lendL [1, 2, 3, 4, 5] (by decide)) _ q_hq).mono ?_)
              rintro _ w_hr ⟨I_hs, v_ht, F_hu, F_hv, hv, hq32223, q_hw, q_hx⟩
              replace hv := hv.symm
              subst hv
              rcases x_ho with _ | x_hy
              ·
                obtain ⟨rfl, rfl⟩ := q_hw
                obtain ⟨g_hz, E_i0, v_i1, e_i2, rfl, q_i3, o_i4⟩ := q_hx
                obtain ⟨v_i5, v_i6, e_i7, v_i8, e_i9, rfl, r_ia, o_ib, o_ic⟩ := q_i3
                have hs := hq32223.st
                have hp := hp.backL [1, 2, 3, 4, 5] [0] (by decide) hq32223
                replace r_2 := r_2.step hs
                replace r_5 := r_5.step hs
                replace r_de := r_de.step hs
                obtain ⟨y_id, q_ie, h⟩ := bind_some h
                refine W.cut (γ := (Nat → Prop)) (fun g => [(0, v_1), (12, (.pointer none))]) (fun g w' => y_id = .go () ∧ Hp ⟨w0, I0, []⟩ (g) [] w' ∧ RepS dTask w' (g) v_1 x_0) ?_ ?_
                ·
                  apply go
                  apply go
                  apply go
                  have hp := hp.perm [2, 3, 1, 4, 0, 5] (by decide)
                  refine W.loop q_ie (γ := (Nat × Value × Value × Ent × Value × Ent × Value × Ent × Value × (Nat → Prop))) (fun s g => [(0, v_1), (1, v_4), (5, (.pointer (some ⟨g_ct, 0, none⟩))), (7, (.pointer (some ⟨g_df, 0, none⟩))), (12, (.pointer none)), (13, (.int .i64 (s.2.2.2.2.2.2.2.2.2.2.2.2)))]) (fun s g w' => Hp ⟨w0, I0, []⟩ (g.2.2.2.2.2.2.2.2.2) [(g.2.2.2.1), (g.2.2.2.2.2.1), some ((g.1), [(g.2.1), (g.2.2.1), (g.2.2.2.2.1)], 70), (g.2.2.2.2.2.2.2.1), some (g_ct, [(.pointer (some ⟨(g.1), 0, none⟩)), (g.2.2.2.2.2.2.1), (.int .i64 (s.2.2.2.2.1)), (.int .i64 (s.2.2.2.2.2.1))], 59), some (g_df, [(g.2.2.2.2.2.2.2.2.1), (.int .i64 (s.2.2.2.2.2.2.2.1)), (.int .i64 (s.2.2.2.2.2.2.2.2.1)), (.int .i64 (s.2.2.2.2.2.2.2.2.2.1)), (.int .i64 (s.2.2.2.2.2.2.2.2.2.2.1)), (.int .i64 (s.2.2.2.2.2.2.2.2.2.2.2.1))], 44)] w' ∧ RepS dTask w' (g.2.2.2.2.2.2.2.2.2) v_1 x_0 ∧ RepS (dSl (dI .i64)) w' (g.2.2.2.2.2.2.2.2.2) v_4 x_3 ∧ RepS dNode_2 w' (g.2.2.2.2.2.2.2.2.2) (g.2.1) (s.1) ∧ OwnS (dI .i64) 3 w' (g.2.2.2.2.2.2.2.2.2) (g.2.2.1) (g.2.2.2.1) (s.2.1) ∧ OwnS dB 4 w' (g.2.2.2.2.2.2.2.2.2) (g.2.2.2.2.1) (g.2.2.2.2.2.1) (s.2.2.1) ∧ OwnS dB 4 w' (g.2.2.2.2.2.2.2.2.2) (g.2.2.2.2.2.2.1) (g.2.2.2.2.2.2.2.1) (s.2.2.2.1) ∧ RepS dTask w' (g.2.2.2.2.2.2.2.2.2) (g.2.2.2.2.2.2.2.2.1) (s.2.2.2.2.2.2.1)) (g_hz, v_i5, v_i6, e_i7, v_i8, e_i9, v_i1, e_i2, v_dd, I_hs) (.c rfl (.c rfl (.c rfl (.c rfl (.c rfl (.c rfl .n)))))) ⟨hp, r_2, r_5, r_ia, o_ib, o_ic, o_i4, r_de⟩ ?_
                  rintro ⟨x_if, x_ig, x_ih, x_ii, x_ij, x_ik, x_il, x_im, x_in, x_io, x_ip, x_iq, x_ir⟩ ⟨g_is, v_it, v_iu, e_iv, v_iw, e_ix, v_iy, e_iz, v_j0, I_j1⟩ w_j2 y_j3 ⟨hp, r_2, r_5, r_j4, o_j5, o_j6, o_j7, r_j8⟩ q_j9 q_ja
                  unfold law42_MissionPlays_L39 at q_j9
                  apply go
                  apply go
                  apply go
                  refine ev0 (rn_len rfl rfl Try.underlying23 r_5) ?_
                  apply go
                  refine sel_of (fun hc => ?_) (fun hc => ?_)
                  ·
                    have q_j9 := cond_t q_j9 hc
                    apply go
                    obtain ⟨y_jb, q_jc, q_j9⟩ := bind_some q_j9
                    refine W.cut (γ := ((List Node_2) × (List Int) × (List Bool) × (List Bool) × Int × Int × (List Task) × Int × Int × Int × Int × Int × Nat × Value × Value × Ent × Value × Ent × Value × Ent × Value × (Nat → Prop))) (fun g => [(0, v_1), (1, v_4), (5, (.pointer (some ⟨g_ct, 0, none⟩))), (7, (.pointer (some ⟨g_df, 0, none⟩))), (12, (.pointer none)), (13, (.int .i64 x_ir))]) (fun g w' => y_jb = .go ((g.1), (g.2.1), (g.2.2.1), (g.2.2.2.1), (g.2.2.2.2.1), (g.2.2.2.2.2.1), (g.2.2.2.2.2.2.1), (g.2.2.2.2.2.2.2.1), (g.2.2.2.2.2.2.2.2.1), (g.2.2.2.2.2.2.2.2.2.1), (g.2.2.2.2.2.2.2.2.2.2.1), (g.2.2.2.2.2.2.2.2.2.2.2.1)) ∧ Hp ⟨w0, I0, []⟩ (g.2.2.2.2.2.2.2.2.2.2.2.2.2.2.2.2.2.2.2.2.2) [(g.2.2.2.2.2.2.2.2.2.2.2.2.2.2.2.1), (g.2.2.2.2.2.2.2.2.2.2.2.2.2.2.2.2.2.1), some ((g.2.2.2.2.2.2.2.2.2.2.2.2.1), [(g.2.2.2.2.2.2.2.2.2.2.2.2.2.1), (g.2.2.2.2.2.2.2.2.2.2.2.2.2.2.1), (g.2.2.2.2.2.2.2.2.2.2.2.2.2.2.2.2.1)], 70), (g.2.2.2.2.2.2.2.2.2.2.2.2.2.2.2.2.2.2.2.1), some (g_ct, [(.pointer (some ⟨(g.2.2.2.2.2.2.2.2.2.2.2.2.1), 0, none⟩)), (g.2.2.2.2.2.2.2.2.2.2.2.2.2.2.2.2.2.2.1), (.int .i64 (g.2.2.2.2.1)), (.int .i64 (g.2.2.2.2.2.1))], 59), some (g_df, [(g.2.2.2.2.2.2.2.2.2.2.2.2.2.2.2.2.2.2.2.2.1), (.int .i64 (g.2.2.2.2.2.2.2.1)), (.int .i64 (g.2.2.2.2.2.2.2.2.1)), (.int .i64 (g.2.2.2.2.2.2.2.2.2.1)), (.int .i64 (g.2.2.2.2.2.2.2.2.2.2.1)), (.int .i64 (g.2.2.2.2.2.2.2.2.2.2.2.1))], 44)] w' ∧ RepS dTask w' (g.2.2.2.2.2.2.2.2.2.2.2.2.2.2.2.2.2.2.2.2.2) v_1 x_0 ∧ RepS (dSl (dI .i64)) w' (g.2.2.2.2.2.2.2.2.2.2.2.2.2.2.2.2.2.2.2.2.2) v_4 x_3 ∧ RepS dNode_2 w' (g.2.2.2.2.2.2.2.2.2.2.2.2.2.2.2.2.2.2.2.2.2) (g.2.2.2.2.2.2.2.2.2.2.2.2.2.1) (g.1) ∧ OwnS (dI .i64) 3 w' (g.2.2.2.2.2.2.2.2.2.2.2.2.2.2.2.2.2.2.2.2.2) (g.2.2.2.2.2.2.2.2.2.2.2.2.2.2.1) (g.2.2.2.2.2.2.2.2.2.2.2.2.2.2.2.1) (g.2.1) ∧ OwnS dB 4 w' (g.2.2.2.2.2.2.2.2.2.2.2.2.2.2.2.2.2.2.2.2.2) (g.2.2.2.2.2.2.2.2.2.2.2.2.2.2.2.2.1) (g.2.2.2.2.2.2.2.2.2.2.2.2.2.2.2.2.2.1) (g.2.2.1) ∧ OwnS dB 4 w' (g.2.2.2.2.2.2.2.2.2.2.2.2.2.2.2.2.2.2.2.2.2) (g.2.2.2.2.2.2.2.2.2.2.2.2.2.2.2.2.2.2.1) (g.2.2.2.2.2.2.2.2.2.2.2.2.2.2.2.2.2.2.2.1) (g.2.2.2.1) ∧ RepS dTask w' (g.2.2.2.2.2.2.2.2.2.2.2.2.2.2.2.2.2.2.2.2.2) (g.2.2.2.2.2.2.2.2.2.2.2.2.2.2.2.2.2.2.2.2.1) (g.2.2.2.2.2.2.1)) ?_ ?_
                    ·
                      apply go
                      apply go
                      apply go
                      obtain ⟨x_jd, q_je, q_jc⟩ := bind_some q_jc
                      refine ev_index rfl rfl rfl Try.underlying23 T31 r_5 q_je ?_
                      intro p_jf c_jg d_jh a_ji
                      obtain ⟨v_jj, rfl, r_jk⟩ := d_jh
                      refine ev (rn_load rfl rfl (run_loadVar1 T31 (a_ji.2 0 _ rfl))) ?_
                      obtain ⟨⟨x_jl, x_jm, x_jn, x_jo⟩, q_jp, q_jc⟩ := bind_some q_jc
                      refine ev_call rfl rfl C12 (((mission_Mission_Tick_ok n) _ _  (Mission.mk (Runner.mk x_if x_ig x_ih) x_ii x_ij x_ik) g_ct [some (g_ct, [(.pointer (some ⟨g_is, 0, none⟩)), v_iy, (.int .i64 x_ij), (.int .i64 x_ik)], 59), some (g_is, [v_it, v_iu, v_iw], 70), e_iv, e_ix, e_iz] ⟨g_is, [some (g_is, [v_it, v_iu, v_iw], 70), e_iv, e_ix], v_iy, e_iz, rfl, ⟨v_it, v_iu, e_iv, v_iw, e_ix, rfl, r_j4, o_j5, o_j6⟩, o_j7⟩ x_jd v_jj r_jk (hp.lendL [4, 2, 0, 1, 3] (by decide)) _ q_jp).mono ?_)
                      rintro _ w_jq ⟨I_jr, F_js, hv, hq37459, q_jt⟩
                      replace hv := hv.symm
                      subst hv
                      obtain ⟨g_ju, E_jv, v_jw, e_jx, rfl, q_jy, o_jz⟩ := q_jt
                      obtain ⟨v_k0, v_k1, e_k2, v_k3, e_k4, rfl, r_k5, o_k6, o_k7⟩ := q_jy
                      have hs := hq37459.st
                      have hp := hp.backL [4, 2, 0, 1, 3] [5] (by decide) hq37459
                      replace r_2 := r_2.step hs
                      replace r_5 := r_5.step hs
                      replace r_j8 := r_j8.step hs
                      obtain ⟨y_k8, q_k9, q_jc⟩ := bind_some q_jc
                      refine W.cut (γ := ((List Task) × Int × Int × Int × Int × Int × Int × Int × Int × Nat × Value × (Nat → Prop))) (fun g => [(0, v_1), (1, v_4), (5, (.pointer (some ⟨g_ct, 0, none⟩))), (7, (.pointer (some ⟨g_df, 0, none⟩))), (12, (.pointer none)), (13, (.int .i64 x_ir)), (14, (.int .i64 x_jl)), (15, (.int .i64 x_jm)), (16, (.int .i64 x_jn)), (17, (.pointer (some ⟨(g.2.2.2.2.2.2.2.2.2.1), 0, none⟩))), (18, (.int .i64 (g.2.2.2.2.2.2.1))), (19, (.int .i64 (g.2.2.2.2.2.2.2.1))), (20, (.int .i64 (g.2.2.2.2.2.2.2.2.1)))]) (fun g w' => y_k8 = ((g.1), (g.2.1), (g.2.2.1), (g.2.2.2.1), (g.2.2.2.2.1), (g.2.2.2.2.2.1), (g.2.2.2.2.2.2.1), (g.2.2.2.2.2.2.2.1), (g.2.2.2.2.2.2.2.2.1)) ∧ Hp ⟨w0, I0, []⟩ (g.2.2.2.2.2.2.2.2.2.2.2) [e_k2, e_k4, some (g_ju, [v_k0, v_k1, v_k3], 70), e_jx, some (g_ct, [(.pointer (some ⟨g_ju, 0, none⟩)), v_jw, (.int .i64 x_jo.status), (.int .i64 x_jo.ticks)], 59), some (g_df, [v_j0, (.int .i64 x_im), (.int .i64 x_in), (.int .i64 x_io), (.int .i64 x_ip), (.int .i64 x_iq)], 44), some ((g.2.2.2.2.2.2.2.2.2.1), [(g.2.2.2.2.2.2.2.2.2.2.1), (.int .i64 (g.2.1)), (.int .i64 (g.2.2.1)), (.int .i64 (g.2.2.2.1)), (.int .i64 (g.2.2.2.2.1)), (.int .i64 (g.2.2.2.2.2.1))], 44)] w' ∧ RepS dTask w' (g.2.2.2.2.2.2.2.2.2.2.2) v_1 x_0 ∧ RepS (dSl (dI .i64)) w' (g.2.2.2.2.2.2.2.2.2.2.2) v_4 x_3 ∧ RepS dNode_2 w' (g.2.2.2.2.2.2.2.2.2.2.2) v_k0 x_jo.run.nodes ∧ OwnS (dI .i64) 3 w' (g.2.2.2.2.2.2.2.2.2.2.2) v_k1 e_k2 x_jo.run.counters ∧ OwnS dB 4 w' (g.2.2.2.2.2.2.2.2.2.2.2) v_k3 e_k4 x_jo.run.active ∧ OwnS dB 4 w' (g.2.2.2.2.2.2.2.2.2.2.2) v_jw e_jx x_jo.done ∧ RepS dTask w' (g.2.2.2.2.2.2.2.2.2.2.2) v_j0 x_il ∧ RepS dTask w' (g.2.2.2.2.2.2.2.2.2.2.2) (g.2.2.2.2.2.2.2.2.2.2.1) (g.1)) ?_ ?_
                      ·
                        have hs := hp.stp (Ch.drew [] w_jq)
                        have hp := hp.drew
                        replace r_2 := r_2.step hs
                        replace r_5 := r_5.step hs
                        replace o_jz := o_jz.step hs
                        replace r_k5 := r_k5.step hs
                        replace o_k6 := o_k6.step hs
                        replace o_k7 := o_k7.step hs
                        replace r_j8 := r_j8.step hs
                        refine W.heldG (.q 0 (.q 1 (.q 2 (.q 3 (.q 4 (.l 5 (.q 6 (.q 7 (.q 8 (.q 9 (.q 10 (.l 11 (.l 12 (.q 13 (.q 14 (.q 15 .done))) .no) .no)))))) (.l 11 (.l 5 (.q 6 (.q 7 (.q 8 (.q 9 (.q 10 (.l 12 (.q 13 (.q 14 (.q 15 .done))) .no)))))) .no) .no))))))) (SK (Stp I_jr w_jq.drew I_jr) [(g_df, [v_j0, (.int .i64 x_im), (.int .i64 x_in), (.int .i64 x_io), (.int .i64 x_ip), (.int .i64 x_iq)], 44)] [[]]) MX (by kernel_rfl) ⟨Stp.refl _ _, (kp_cons (fun _ => (hp.own 5 _ _ _ rfl).1) kp_nil)⟩ ?_
                        have hz := Stp.refl I_jr w_jq.drew
                        refine ⟨SK.same (by kernel_rfl), ?_⟩
                        refine evh (fun w' hw => rn_load rfl rfl (run_loadVarA T44 rfl ((S0.keep (p := 0) hw rfl rfl (by kernel_rfl)).at_ (i := 0) rfl))) ?_
                        refine ⟨SK.same (by kernel_rfl), ?_⟩
                        refine ⟨SK.same (by kernel_rfl), ?_⟩
                        refine ⟨SK.same (by kernel_rfl), ?_⟩
                        obtain ⟨x_ka, q_kb, q_k9⟩ := bind_some q_k9
                        refine evh_index rfl rfl rfl Try.underlying23 T31 r_5 q_kb ?_
                        intro p_kc c_kd d_ke a_kf
                        obtain ⟨v_kg, rfl, r_kh⟩ := d_ke
                        refine ⟨SK.same (by kernel_rfl), ?_⟩
                        refine evh (fun w' hw => rn_load rfl rfl (run_loadVar1 T31 ((a_kf.step (S0.si hw)).2 0 _ rfl))) ?_
                        refine ⟨?_, ?_⟩
                        ·
                          obtain ⟨⟨x_ki, x_kj, x_kk, x_kl⟩, q_km, q_k9⟩ := bind_some q_k9
                          refine ev_call rfl rfl C18 (((ref42_Mission_Tick_ok n) _ _  (Mission_2.mk x_il x_im x_in x_io x_ip x_iq) v_j0 r_j8 x_ka v_kg r_kh hp.imm _ q_km).mono ?_)
                          rintro _ w_kn ⟨I_ko, v_kp, hv, hq, r_kq⟩
                          replace hv := hv.symm
                          subst hv
                          have hs := hq.st
                          have hp := hp.join0 hq
                          replace hz := hz.trans hs
                          replace r_2 := r_2.step hs
                          replace r_5 := r_5.step hs
                          replace o_jz := o_jz.step hs
                          replace r_k5 := r_k5.step hs
                          replace o_k6 := o_k6.step hs
                          replace o_k7 := o_k7.step hs
                          replace r_j8 := r_j8.step hs
                          refine ⟨SK (Stp I_ko w_kn I_ko) [(g_df, [v_j0, (.int .i64 x_im), (.int .i64 x_in), (.int .i64 x_io), (.int .i64 x_ip), (.int .i64 x_iq)], 44)] [[]], ⟨Stp.refl _ _, (kp_cons (fun _ => (hp.own 5 _ _ _ rfl).1) kp_nil)⟩, fun L x h => ⟨hz.held h.1, h.2⟩, ?_⟩
                          have hz := Stp.refl I_ko w_kn
                          refine ⟨SK.same (by kernel_rfl), ?_⟩
                          refine ⟨SK.same (by kernel_rfl), ?_⟩
                          refine ⟨SK.same (by kernel_rfl), ?_⟩
                          refine ⟨SK.same (by kernel_rfl), ?_⟩
                          refine ⟨SK.same (by kernel_rfl), ?_⟩
                          refine ⟨?_, trivial⟩
                          refine ev_alloc hp rfl T44 ?_
                          intro g_kr w_ks hp hs
                          replace hz := hz.trans hs
                          replace r_2 := r_2.step hs
                          replace r_5 := r_5.step hs
                          replace r_kq := r_kq.step hs
                          replace o_jz := o_jz.step hs
                          replace r_k5 := r_k5.step hs
                          replace o_k6 := o_k6.step hs
                          replace o_k7 := o_k7.step hs
                          replace r_j8 := r_j8.step hs
                          refine ⟨SK (Stp I_ko w_ks I_ko) [(g_df, [v_j0, (.int .i64 x_im), (.int .i64 x_in), (.int .i64 x_io), (.int .i64 x_ip), (.int .i64 x_iq)], 44)] [[]], ⟨Stp.refl _ _, (kp_cons (fun _ => (hp.own 6 _ _ _ rfl).1) kp_nil)⟩, fun L x h => ⟨hz.held h.1, h.2⟩, ?_⟩
                          have hz := Stp.refl I_ko w_ks
                          refine ⟨?_, trivial⟩
                          refine ev_storeA hp (i := 0) (off := 0) (vs := [v_kp, (.int .i64 x_ki.Done), (.int .i64 x_ki.Ran), (.int .i64 x_ki.Failed), (.int .i64 x_ki.Status), (.int .i64 x_ki.Ticks)]) rfl rfl rfl rfl T44 rfl (Nat.le_of_ble_eq_true rfl) (ones_cons r_kq.one (ones_cons rfl (ones_cons rfl (ones_cons rfl (ones_cons rfl (ones_cons rfl ones_nil)))))) ?_
                          intro w_kt hp hs
                          replace hz := hz.trans hs
                          replace r_2 := r_2.step hs
                          replace r_5 := r_5.step hs
                          replace r_kq := r_kq.step hs
                          replace o_jz := o_jz.step hs
                          replace r_k5 := r_k5.step hs
                          replace o_k6 := o_k6.step hs
                          replace o_k7 := o_k7.step hs
                          replace r_j8 := r_j8.step hs
                          refine ⟨SK (Stp I_ko w_kt I_ko) [(g_df, [v_j0, (.int .i64 x_im), (.int .i64 x_in), (.int .i64 x_io), (.int .i64 x_ip), (.int .i64 x_iq)], 44)] [[]], ⟨Stp.refl _ _, (kp_cons (fun _ => (hp.own 6 _ _ _ rfl).1) kp_nil)⟩, fun L x h => ⟨hz.held h.1, h.2⟩, ?_⟩
                          have hz := Stp.refl I_ko w_kt
                          refine ⟨SK.same (by kernel_rfl), ?_⟩
                          refine ⟨SK.same (by kernel_rfl), ?_⟩
                          refine ⟨SK.same (by kernel_rfl), ?_⟩
                          obtain rfl := Option.some.inj q_k9
                          have hp := hp.perm [3, 4, 2, 5, 1, 6, 0] (by decide)
                          exact ⟨(x_ki.Tasks, x_ki.Done, x_ki.Ran, x_ki.Failed, x_ki.Status, x_ki.Ticks, x_kj, x_kk, x_kl, g_kr, v_kp, I_ko), (.c rfl (.c rfl (.c rfl (.c rfl (.c rfl (.c rfl (.c rfl (.c rfl (.c rfl (.c rfl (.c rfl (.c rfl (.c rfl .n))))))))))))), rfl, hp, r_2, r_5, r_k5, o_k6, o_k7, o_jz, r_j8, r_kq⟩
                        refine ⟨?_, trivial⟩
                        refine ev_alloc hp rfl T44 ?_
                        intro g_ku w_kv hp hs
                        replace hz := hz.trans hs
                        replace r_2 := r_2.step hs
                        replace r_5 := r_5.step hs
                        replace r_j8 := r_j8.step hs
                        replace r_kh := r_kh.step hs
                        replace o_jz := o_jz.step hs
                        replace r_k5 := r_k5.step hs
                        replace o_k6 := o_k6.step hs
                        replace o_k7 := o_k7.step hs
                        refine ⟨SK (Stp I_jr w_kv I_jr) [(g_df, [v_j0, (.int .i64 x_im), (.int .i64 x_in), (.int .i64 x_io), (.int .i64 x_ip), (.int .i64 x_iq)], 44)] [[]], ⟨Stp.refl _ _, (kp_cons (fun _ => (hp.own 6 _ _ _ rfl).1) kp_nil)⟩, fun L x h => ⟨hz.held h.1, h.2⟩, ?_⟩
                        have hz := Stp.refl I_jr w_kv
                        refine ⟨?_, trivial⟩
                        obtain ⟨⟨x_kw, x_kx, x_ky, x_kz⟩, q_l0, q_k9⟩ := bind_some q_k9
                        refine ev_call rfl rfl C18 (((ref42_Mission_Tick_ok n) _ _  (Mission_2.mk x_il x_im x_in x_io x_ip x_iq) v_j0 r_j8 x_ka v_kg r_kh hp.imm _ q_l0).mono ?_)
                        rintro _ w_l1 ⟨I_l2, v_l3, hv, hq, r_l4⟩
                        replace hv := hv.symm
                        subst hv
                        have hs := hq.st
                        have hp := hp.join0 hq
                        replace hz := hz.trans hs
                        replace r_2 := r_2.step hs
                        replace r_5 := r_5.step hs
                        replace o_jz := o_jz.step hs
                        replace r_k5 := r_k5.step hs
                        replace o_k6 := o_k6.step hs
                        replace o_k7 := o_k7.step hs
                        replace r_j8 := r_j8.step hs
                        refine ⟨SK (Stp I_l2 w_l1 I_l2) [(g_df, [v_j0, (.int .i64 x_im), (.int .i64 x_in), (.int .i64 x_io), (.int .i64 x_ip), (.int .i64 x_iq)], 44)] [[]], ⟨Stp.refl _ _, (kp_cons (fun _ => (hp.own 6 _ _ _ rfl).1) kp_nil)⟩, fun L x h => ⟨hz.held h.1, h.2⟩, ?_⟩
                        have hz := Stp.refl I_l2 w_l1
                        refine ⟨SK.same (by kernel_rfl), ?_⟩
                        refine ⟨SK.same (by kernel_rfl), ?_⟩
                        refine ⟨SK.same (by kernel_rfl), ?_⟩
                        refine ⟨SK.same (by kernel_rfl), ?_⟩
                        refine ⟨SK.same (by kernel_rfl), ?_⟩
                        refine ⟨?_, trivial⟩
                        refine ev_storeA hp (i := 0) (off := 0) (vs := [v_l3, (.int .i64 x_kw.Done), (.int .i64 x_kw.Ran), (.int .i64 x_kw.Failed), (.int .i64 x_kw.Status), (.int .i64 x_kw.Ticks)]) rfl rfl rfl rfl T44 rfl (Nat.le_of_ble_eq_true rfl) (ones_cons r_l4.one (ones_cons rfl (ones_cons rfl (ones_cons rfl (ones_cons rfl (ones_cons rfl ones_nil)))))) ?_
                        intro w_l5 hp hs
                        replace hz := hz.trans hs
                        replace r_2 := r_2.step hs
                        replace r_5 := r_5.step hs
                        replace r_l4 := r_l4.step hs
                        replace o_jz := o_jz.step hs
                        replace r_k5 := r_k5.step hs
                        replace o_k6 := o_k6.step hs
                        replace o_k7 := o_k7.step hs
                        replace r_j8 := r_j8.step hs
                        refine ⟨SK (Stp I_l2 w_l5 I_l2) [(g_df, [v_j0, (.int .i64 x_im), (.int .i64 x_in), (.int .i64 x_io), (.int .i64 x_ip), (.int .i64 x_iq)], 44)] [[]], ⟨Stp.refl _ _, (kp_cons (fun _ => (hp.own 6 _ _ _ rfl).1) kp_nil)⟩, fun L x h => ⟨hz.held h.1, h.2⟩, ?_⟩
                        have hz := Stp.refl I_l2 w_l5
                        refine ⟨SK.same (by kernel_rfl), ?_⟩
                        refine ⟨SK.same (by kernel_rfl), ?_⟩
                        refine ⟨SK.same (by kernel_rfl), ?_⟩
                        obtain rfl := Option.some.inj q_k9
                        have hp := hp.perm [3, 4, 2, 5, 1, 6, 0] (by decide)
                        exact ⟨(x_kw.Tasks, x_kw.Done, x_kw.Ran, x_kw.Failed, x_kw.Status, x_kw.Ticks, x_kx, x_ky, x_kz, g_ku, v_l3, I_l2), (.c rfl (.c rfl (.c rfl (.c rfl (.c rfl (.c rfl (.c rfl (.c rfl (.c rfl (.c rfl (.c rfl (.c rfl (.c rfl .n))))))))))))), rfl, hp, r_2, r_5, r_k5, o_k6, o_k7, o_jz, r_j8, r_l4⟩
                      ·
                        rintro ⟨x_l6, x_l7, x_l8, x_l9, x_la, x_lb, x_lc, x_ld, x_le, g_lf, v_lg, I_lh⟩ w_li ⟨hy, hp, r_2, r_5, r_k5, o_k6, o_k7, o_jz, r_j8, r_lj⟩
                        replace hy := hy.symm
                        subst hy
                        apply go
                        apply go
                        refine ev (rn_load rfl rfl (run_loadVarA T44 rfl (hp.at_ (i := 6) rfl))) ?_
                        refine ev_storeA hp (i := 5) (off := 0) (vs := [v_lg, (.int .i64 x_l7), (.int .i64 x_l8), (.int .i64 x_l9), (.int .i64 x_la), (.int .i64 x_lb)]) rfl rfl rfl rfl T44 rfl (Nat.le_of_ble_eq_true rfl) (ones_cons r_lj.one (ones_cons rfl (ones_cons rfl (ones_cons rfl (ones_cons rfl (ones_cons rfl ones_nil)))))) ?_
                        intro w_lk hp hs
                        replace r_2 := r_2.step hs
                        replace r_5 := r_5.step hs
                        replace r_k5 := r_k5.step hs
                        replace o_k6 := o_k6.step hs
                        replace o_k7 := o_k7.step hs
                        replace o_jz := o_jz.step hs
                        replace r_lj := r_lj.step hs
                        apply go
                        obtain ⟨y_ll, q_lm, q_jc⟩ := bind_some q_jc
                        refine W.cut (γ := ((List Node_2) × (List Int) × (List Bool) × (List Bool) × Int × Int × Bool × Nat × Value × Value × Ent × Value × Ent × Value × Ent × (Nat → Prop))) (fun g => [(0, v_1), (1, v_4), (5, (.pointer (some ⟨g_ct, 0, none⟩))), (7, (.pointer (some ⟨g_df, 0, none⟩))), (12, (.pointer none)), (13, (.int .i64 x_ir)), (147, (.bool (g.2.2.2.2.2.2.1)))]) (fun g w' => y_ll = ((g.1), (g.2.1), (g.2.2.1), (g.2.2.2.1), (g.2.2.2.2.1), (g.2.2.2.2.2.1), (g.2.2.2.2.2.2.1)) ∧ Hp ⟨w0, I0, []⟩ (g.2.2.2.2.2.2.2.2.2.2.2.2.2.2.2) [(g.2.2.2.2.2.2.2.2.2.2.1), (g.2.2.2.2.2.2.2.2.2.2.2.2.1), some ((g.2.2.2.2.2.2.2.1), [(g.2.2.2.2.2.2.2.2.1), (g.2.2.2.2.2.2.2.2.2.1), (g.2.2.2.2.2.2.2.2.2.2.2.1)], 70), (g.2.2.2.2.2.2.2.2.2.2.2.2.2.2.1), some (g_ct, [(.pointer (some ⟨(g.2.2.2.2.2.2.2.1), 0, none⟩)), (g.2.2.2.2.2.2.2.2.2.2.2.2.2.1), (.int .i64 (g.2.2.2.2.1)), (.int .i64 (g.2.2.2.2.2.1))], 59), some (g_df, [v_lg, (.int .i64 x_l7), (.int .i64 x_l8), (.int .i64 x_l9), (.int .i64 x_la), (.int .i64 x_lb)], 44)] w' ∧ RepS dTask w' (g.2.2.2.2.2.2.2.2.2.2.2.2.2.2.2) v_1 x_0 ∧ RepS (dSl (dI .i64)) w' (g.2.2.2.2.2.2.2.2.2.2.2.2.2.2.2) v_4 x_3 ∧ RepS dNode_2 w' (g.2.2.2.2.2.2.2.2.2.2.2.2.2.2.2) (g.2.2.2.2.2.2.2.2.1) (g.1) ∧ OwnS (dI .i64) 3 w' (g.2.2.2.2.2.2.2.2.2.2.2.2.2.2.2) (g.2.2.2.2.2.2.2.2.2.1) (g.2.2.2.2.2.2.2.2.2.2.1) (g.2.1) ∧ OwnS dB 4 w' (g.2.2.2.2.2.2.2.2.2.2.2.2.2.2.2) (g.2.2.2.2.2.2.2.2.2.2.2.1) (g.2.2.2.2.2.2.2.2.2.2.2.2.1) (g.2.2.1) ∧ OwnS dB 4 w' (g.2.2.2.2.2.2.2.2.2.2.2.2.2.2.2) (g.2.2.2.2.2.2.2.2.2.2.2.2.2.1) (g.2.2.2.2.2.2.2.2.2.2.2.2.2.2.1) (g.2.2.2.1) ∧ RepS dTask w' (g.2.2.2.2.2.2.2.2.2.2.2.2.2.2.2) v_lg x_l6) ?_ ?_
                        ·
                          have hs := hp.stp (Ch.drew [] w_lk)
                          have hp := hp.drew
                          replace r_2 := r_2.step hs
                          replace r_5 := r_5.step hs
                          replace r_k5 := r_k5.step hs
                          replace o_k6 := o_k6.step hs
                          replace o_k7 := o_k7.step hs
                          replace o_jz := o_jz.step hs
                          replace r_lj := r_lj.step hs
                          refine W.held [(0, true), (1, true), (2, true), (3, true), (4, true), (5, true), (6, true), (7, true), (8, true), (9, true), (10, true), (11, true), (12, true), (13, true), (14, true), (16, true), (17, true), (15, false), (18, true), (19, true), (20, true), (21, true), (23, true), (24, true), (22, false), (25, true), (26, true)] (fun x => Stp I_lh w_lk.drew I_lh x ∧ OwnK [(g_df, [v_lg, (.int .i64 x_l7), (.int .i64 x_l8), (.int .i64 x_l9), (.int .i64 x_la), (.int .i64 x_lb)], 44)] x) MX (by kernel_rfl) ⟨Stp.refl _ _, (OwnK.cons (hp.own 5 _ _ _ rfl).1 OwnK.nil)⟩ ?_
                          have hz := Stp.refl I_lh w_lk.drew
                          refine sel_of (fun hc => ?_) (fun hc => ?_)
                          ·
                            have q_lm := cond_t q_lm hc
                            refine ⟨fun x => Stp I_lh w_lk.drew I_lh x ∧ OwnK [(g_df, [v_lg, (.int .i64 x_l7), (.int .i64 x_l8), (.int .i64 x_l9), (.int .i64 x_la), (.int .i64 x_lb)], 44)] x, ⟨Stp.refl _ _, (OwnK.cons (hp.own 5 _ _ _ rfl).1 OwnK.nil)⟩, fun x hx => ⟨hz.held hx.1, hx.2⟩, ?_⟩
                            have hz := Stp.refl I_lh w_lk.drew
                            refine ⟨fun x => Stp I_lh w_lk.drew I_lh x ∧ OwnK [(g_df, [v_lg, (.int .i64 x_l7), (.int .i64 x_l8), (.int .i64 x_l9), (.int .i64 x_la), (.int .i64 x_lb)], 44)] x, ⟨Stp.refl _ _, (OwnK.cons (hp.own 5 _ _ _ rfl).1 OwnK.nil)⟩, fun x hx => ⟨hz.held hx.1, hx.2⟩, ?_⟩
                            have hz := Stp.refl I_lh w_lk.drew
                            obtain rfl := Option.some.inj q_lm
                            have hp := hp.sel [0, 1, 2, 3, 4, 5] (by decide)
                            exact ⟨(x_jo.run.nodes, x_jo.run.counters, x_jo.run.active, x_jo.done, x_jo.status, x_jo.ticks, true, g_ju, v_k0, v_k1, e_k2, v_k3, e_k4, v_jw, e_jx, I_lh), (.c rfl (.c rfl (.c rfl (.c rfl (.c rfl (.c rfl (.c rfl .n))))))), rfl, hp, r_2, r_5, r_k5, o_k6, o_k7, o_jz, r_lj⟩
                          ·
                            have q_lm := cond_f q_lm hc
                            refine sel_of (fun hc => ?_) (fun hc => ?_)
                            ·
                              have q_lm := cond_t q_lm hc
                              refine ⟨fun x => Stp I_lh w_lk.drew I_lh x ∧ OwnK [(g_df, [v_lg, (.int .i64 x_l7), (.int .i64 x_l8), (.int .i64 x_l9), (.int .i64 x_la), (.int .i64 x_lb)], 44)] x, ⟨Stp.refl _ _, (OwnK.cons (hp.own 5 _ _ _ rfl).1 OwnK.nil)⟩, fun x hx => ⟨hz.held hx.1, hx.2⟩, ?_⟩
                              have hz := Stp.refl I_lh w_lk.drew
                              refine ⟨fun x => Stp I_lh w_lk.drew I_lh x ∧ OwnK [(g_df, [v_lg, (.int .i64 x_l7), (.int .i64 x_l8), (.int .i64 x_l9), (.int .i64 x_la), (.int .i64 x_lb)], 44)] x, ⟨Stp.refl _ _, (OwnK.cons (hp.own 5 _ _ _ rfl).1 OwnK.nil)⟩, fun x hx => ⟨hz.held hx.1, hx.2⟩, ?_⟩
                              have hz := Stp.refl I_lh w_lk.drew
                              obtain rfl := Option.some.inj q_lm
                              have hp := hp.sel [0, 1, 2, 3, 4, 5] (by decide)
                              exact ⟨(x_jo.run.nodes, x_jo.run.counters, x_jo.run.active, x_jo.done, x_jo.status, x_jo.ticks, true, g_ju, v_k0, v_k1, e_k2, v_k3, e_k4, v_jw, e_jx, I_lh), (.c rfl (.c rfl (.c rfl (.c rfl (.c rfl (.c rfl (.c rfl .n))))))), rfl, hp, r_2, r_5, r_k5, o_k6, o_k7, o_jz, r_lj⟩
                            ·
                              have q_lm := cond_f q_lm hc
                              refine sel_of (fun hc => ?_) (fun hc => ?_)
                              ·
                                have q_lm := cond_t q_lm hc
                                refine ⟨fun x => Stp I_lh w_lk.drew I_lh x ∧ OwnK [(g_df, [v_lg, (.int .i64 x_l7), (.int .i64 x_l8), (.int .i64 x_l9), (.int .i64 x_la), (.int .i64 x_lb)], 44)] x, ⟨Stp.refl _ _, (OwnK.cons (hp.own 5 _ _ _ rfl).1 OwnK.nil)⟩, fun x hx => ⟨hz.held hx.1, hx.2⟩, ?_⟩
                                have hz := Stp.refl I_lh w_lk.drew
                                refine ⟨fun x => Stp I_lh w_lk.drew I_lh x ∧ OwnK [(g_df, [v_lg, (.int .i64 x_l7), (.int .i64 x_l8), (.int .i64 x_l9), (.int .i64 x_la), (.int .i64 x_lb)], 44)] x, ⟨Stp.refl _ _, (OwnK.cons (hp.own 5 _ _ _ rfl).1 OwnK.nil)⟩, fun x hx => ⟨hz.held hx.1, hx.2⟩, ?_⟩
                                have hz := Stp.refl I_lh w_lk.drew
                                obtain rfl := Option.some.inj q_lm
                                have hp := hp.sel [0, 1, 2, 3, 4, 5] (by decide)
                                exact ⟨(x_jo.run.nodes, x_jo.run.counters, x_jo.run.active, x_jo.done, x_jo.status, x_jo.ticks, true, g_ju, v_k0, v_k1, e_k2, v_k3, e_k4, v_jw, e_jx, I_lh), (.c rfl (.c rfl (.c rfl (.c rfl (.c rfl (.c rfl (.c rfl .n))))))), rfl, hp, r_2, r_5, r_k5, o_k6, o_k7, o_jz, r_lj⟩
                              ·
                                have q_lm := cond_f q_lm hc
                                refine evh0 (rn_field rfl rfl FO44_4) ?_
                                refine evh (fun w' hw => rn_load rfl rfl (run_loadVar1 T3 (hw.2.cell (i := 0) (off := 4) rfl rfl))) ?_
                                obtain ⟨⟨x_ln, x_lo⟩, q_lp, q_lm⟩ := bind_some q_lm
                                refine ev_call rfl rfl C15 (((mission_Mission_Status_ok n) _ _  (Mission.mk (Runner.mk x_jo.run.nodes x_jo.run.counters x_jo.run.active) x_jo.done x_jo.status x_jo.ticks) g_ct [some (g_ct, [(.pointer (some ⟨g_ju, 0, none⟩)), v_jw, (.int .i64 x_jo.status), (.int .i64 x_jo.ticks)], 59), some (g_ju, [v_k0, v_k1, v_k3], 70), e_k2, e_k4, e_jx] ⟨g_ju, [some (g_ju, [v_k0, v_k1, v_k3], 70), e_k2, e_k4], v_jw, e_jx, rfl, ⟨v_k0, v_k1, e_k2, v_k3, e_k4, rfl, r_k5, o_k6, o_k7⟩, o_jz⟩ (hp.lendL [4, 2, 0, 1, 3] (by decide)) _ q_lp).mono ?_)
                                rintro _ w_lq ⟨I_lr, F_ls, hv, hq37797, q_lt⟩
                                replace hv := hv.symm
                                subst hv
                                obtain ⟨g_lu, E_lv, v_lw, e_lx, rfl, q_ly, o_lz⟩ := q_lt
                                obtain ⟨v_m0, v_m1, e_m2, v_m3, e_m4, rfl, r_m5, o_m6, o_m7⟩ := q_ly
                                have hs := hq37797.st
                                have hp := hp.backL [4, 2, 0, 1, 3] [5, 6] (by decide) hq37797
                                replace hz := hz.trans hs
                                replace r_2 := r_2.step hs
                                replace r_5 := r_5.step hs
                                replace r_lj := r_lj.step hs
                                refine ⟨fun x => Stp I_lr w_lq I_lr x ∧ OwnK [(g_df, [v_lg, (.int .i64 x_l7), (.int .i64 x_l8), (.int .i64 x_l9), (.int .i64 x_la), (.int .i64 x_lb)], 44)] x, ⟨Stp.refl _ _, (OwnK.cons (hp.own 5 _ _ _ rfl).1 OwnK.nil)⟩, fun x hx => ⟨hz.held hx.1, hx.2⟩, ?_⟩
                                have hz := Stp.refl I_lr w_lq
                                refine sel_of (fun hc => ?_) (fun hc => ?_)
                                ·
                                  have q_lm := cond_t q_lm hc
                                  refine ⟨fun x => Stp I_lr w_lq I_lr x ∧ OwnK [(g_df, [v_lg, (.int .i64 x_l7), (.int .i64 x_l8), (.int .i64 x_l9), (.int .i64 x_la), (.int .i64 x_lb)], 44)] x, ⟨Stp.refl _ _, (OwnK.cons (hp.own 5 _ _ _ rfl).1 OwnK.nil)⟩, fun x hx => ⟨hz.held hx.1, hx.2⟩, ?_⟩
                                  have hz := Stp.refl I_lr w_lq
                                  obtain rfl := Option.some.inj q_lm
                                  have hp := hp.perm [2, 3, 1, 4, 0, 5] (by decide)
                                  exact ⟨(x_lo.run.nodes, x_lo.run.counters, x_lo.run.active, x_lo.done, x_lo.status, x_lo.ticks, true, g_lu, v_m0, v_m1, e_m2, v_m3, e_m4, v_lw, e_lx, I_lr), (.c rfl (.c rfl (.c rfl (.c rfl (.c rfl (.c rfl (.c rfl .n))))))), rfl, hp, r_2, r_5, r_m5, o_m6, o_m7, o_lz, r_lj⟩
                                ·
                                  have q_lm := cond_f q_lm hc
                                  refine evh0 (rn_field rfl rfl FO44_5) ?_
                                  refine evh (fun w' hw => rn_load rfl rfl (run_loadVar1 T3 (hw.2.cell (i := 0) (off := 5) rfl rfl))) ?_
                                  obtain ⟨⟨x_m8, x_m9⟩, q_ma, q_lm⟩ := bind_some q_lm
                                  refine ev_call rfl rfl C14 (((mission_Mission_Ticks_ok n) _ _  (Mission.mk (Runner.mk x_lo.run.nodes x_lo.run.counters x_lo.run.active) x_lo.done x_lo.status x_lo.ticks) g_ct [some (g_ct, [(.pointer (some ⟨g_lu, 0, none⟩)), v_lw, (.int .i64 x_lo.status), (.int .i64 x_lo.ticks)], 59), some (g_lu, [v_m0, v_m1, v_m3], 70), e_m2, e_m4, e_lx] ⟨g_lu, [some (g_lu, [v_m0, v_m1, v_m3], 70), e_m2, e_m4], v_lw, e_lx, rfl, ⟨v_m0, v_m1, e_m2, v_m3, e_m4, rfl, r_m5, o_m6, o_m7⟩, o_lz⟩ (hp.lendL [0, 1, 2, 3, 4] (by decide)) _ q_ma).mono ?_)
                                  rintro _ w_mb ⟨I_mc, F_md, hv, hq37819, q_me⟩
                                  replace hv := hv.symm
                                  subst hv
                                  obtain ⟨g_mf, E_mg, v_mh, e_mi, rfl, q_mj, o_mk⟩ := q_me
                                  obtain ⟨v_ml, v_mm, e_mn, v_mo, e_mp, rfl, r_mq, o_mr, o_ms⟩ := q_mj
                                  have hs := hq37819.st
                                  have hp := hp.backL [0, 1, 2, 3, 4] [5, 6] (by decide) hq37819
                                  replace hz := hz.trans hs
                                  replace r_2 := r_2.step hs
                                  replace r_5 := r_5.step hs
                                  replace r_lj := r_lj.step hs
                                  refine ⟨fun x => Stp I_mc w_mb I_mc x ∧ OwnK [(g_df, [v_lg, (.int .i64 x_l7), (.int .i64 x_l8), (.int .i64 x_l9), (.int .i64 x_la), (.int .i64 x_lb)], 44)] x, ⟨Stp.refl _ _, (OwnK.cons (hp.own 5 _ _ _ rfl).1 OwnK.nil)⟩, fun x hx => ⟨hz.held hx.1, hx.2⟩, ?_⟩
                                  have hz := Stp.refl I_mc w_mb
                                  obtain rfl := Option.some.inj q_lm
                                  have hp := hp.perm [2, 3, 1, 4, 0, 5] (by decide)
                                  exact ⟨(x_m9.run.nodes, x_m9.run.counters, x_m9.run.active, x_m9.done, x_m9.status, x_m9.ticks, (x_m8 != x_lb), g_mf, v_ml, v_mm, e_mn, v_mo, e_mp, v_mh, e_mi, I_mc), (.c rfl (.c rfl (.c rfl (.c rfl (.c rfl (.c rfl (.c rfl .n))))))), rfl, hp, r_2, r_5, r_mq, o_mr, o_ms, o_mk, r_lj⟩
                        ·
                          rintro ⟨x_mt, x_mu, x_mv, x_mw, x_mx, x_my, x_mz, g_n0, v_n1, v_n2, e_n3, v_n4, e_n5, v_n6, e_n7, I_n8⟩ w_n9 ⟨hy, hp, r_2, r_5, r_na, o_nb, o_nc, o_nd, r_lj⟩
                          replace hy := hy.symm
                          subst hy
                          apply go
                          refine sel_of (fun hc => ?_) (fun hc => ?_)
                          ·
                            have q_jc := cond_t q_jc hc
                            apply go
                            apply go
                            apply go
                            obtain rfl := Option.some.inj q_jc
                            have q_ne := congrArg some (q_ja _ (Option.some.inj q_j9).symm)
                            obtain rfl := Option.some.inj q_ne
                            obtain rfl := Option.some.inj h
                            exact ⟨rfl, hp.ch⟩
                          ·
                            have q_jc := cond_f q_jc hc
                            apply go
                            apply go
                            apply go
                            obtain ⟨⟨x_nf, x_ng⟩, q_nh, q_jc⟩ := bind_some q_jc
                            refine ev_call rfl rfl C13 (((mission_Mission_Done_ok n) _ _  (Mission.mk (Runner.mk x_mt x_mu x_mv) x_mw x_mx x_my) g_ct [some (g_ct, [(.pointer (some ⟨g_n0, 0, none⟩)), v_n6, (.int .i64 x_mx), (.int .i64 x_my)], 59), some (g_n0, [v_n1, v_n2, v_n4], 70), e_n3, e_n5, e_n7] ⟨g_n0, [some (g_n0, [v_n1, v_n2, v_n4], 70), e_n3, e_n5], v_n6, e_n7, rfl, ⟨v_n1, v_n2, e_n3, v_n4, e_n5, rfl, r_na, o_nb, o_nc⟩, o_nd⟩ (hp.lendL [4, 2, 0, 1, 3] (by decide)) _ q_nh).mono ?_)
                            rintro _ w_ni ⟨I_nj, v_nk, F_nl, hv, hq37844, r_nm, q_nn⟩
                            replace hv := hv.symm
                            subst hv
                            obtain ⟨g_no, E_np, v_nq, e_nr, rfl, q_ns, o_nt⟩ := q_nn
                            obtain ⟨v_nu, v_nv, e_nw, v_nx, e_ny, rfl, r_nz, o_o0, o_o1⟩ := q_ns
                            have hs := hq37844.st
                            have hp := hp.backL [4, 2, 0, 1, 3] [5] (by decide) hq37844
                            replace r_2 := r_2.step hs
                            replace r_5 := r_5.step hs
                            replace r_lj := r_lj.step hs
                            apply go
                            apply go
                            apply go
                            refine ev0 (rn_len rfl rfl Try.underlying39 r_nm) ?_
                            refine ev0 (rn_len rfl rfl Try.underlying22 r_2) ?_
                            apply go
                            refine sel_of (fun hc => ?_) (fun hc => ?_)
                            ·
                              have q_jc := cond_t q_jc hc
                              apply go
                              apply go
                              apply go
                              obtain rfl := Option.some.inj q_jc
                              have q_o2 := congrArg some (q_ja _ (Option.some.inj q_j9).symm)
                              obtain rfl := Option.some.inj q_o2
                              obtain rfl := Option.some.inj h
                              exact ⟨rfl, hp.ch⟩
                            ·
                              have q_jc := cond_f q_jc hc
                              apply go
                              apply go
                              apply go
                              apply go
                              have hp := hp.perm [2, 3, 1, 4, 0, 5] (by decide)
                              refine W.loop q_jc (γ := Unit) (fun s _ => [(0, v_1), (1, v_4), (5, (.pointer (some ⟨g_ct, 0, none⟩))), (7, (.pointer (some ⟨g_df, 0, none⟩))), (12, (.pointer none)), (13, (.int .i64 x_ir)), (21, v_nk), (22, (.int .i64 (s)))]) (fun s _ w' => Hp ⟨w0, I0, []⟩ I_nj [e_nw, e_ny, some (g_no, [v_nu, v_nv, v_nx], 70), e_nr, some (g_ct, [(.pointer (some ⟨g_no, 0, none⟩)), v_nq, (.int .i64 x_ng.status), (.int .i64 x_ng.ticks)], 59), some (g_df, [v_lg, (.int .i64 x_l7), (.int .i64 x_l8), (.int .i64 x_l9), (.int .i64 x_la), (.int .i64 x_lb)], 44)] w' ∧ RepS dTask w' I_nj v_1 x_0 ∧ RepS (dSl (dI .i64)) w' I_nj v_4 x_3 ∧ RepS dNode_2 w' I_nj v_nu x_ng.run.nodes ∧ OwnS (dI .i64) 3 w' I_nj v_nv e_nw x_ng.run.counters ∧ OwnS dB 4 w' I_nj v_nx e_ny x_ng.run.active ∧ OwnS dB 4 w' I_nj v_nq e_nr x_ng.done ∧ RepS dTask w' I_nj v_lg x_l6 ∧ RepS dB w' I_nj v_nk x_nf) () (.c rfl (.c rfl (.c rfl (.c rfl (.c rfl (.c rfl (.c rfl (.c rfl .n)))))))) ⟨hp, r_2, r_5, r_nz, o_o0, o_o1, o_nt, r_lj, r_nm⟩ ?_
                              rintro x_o3 ⟨⟩ w_o4 y_o5 ⟨hp, r_2, r_5, r_nz, o_o0, o_o1, o_nt, r_lj, r_nm⟩ q_o6 q_o7
                              unfold law42_MissionPlays_L41 at q_o6
                              apply go
                              apply go
                              apply go
                              refine ev0 (rn_len rfl rfl Try.underlying39 r_nm) ?_
                              apply go
                              refine sel_of (fun hc => ?_) (fun hc => ?_)
                              ·
                                have q_o6 := cond_t q_o6 hc
                                apply go
                                apply go
                                apply go
                                apply go
                                refine W.quiet (fun w' => Ch [] w_o4 w') MX (by kernel_rfl) (Ch.drew [] w_o4) ?_
                                obtain ⟨x_o8, q_o9, q_o6⟩ := bind_some q_o6
                                refine evq_index rfl rfl rfl Try.underlying39 T4 r_nm q_o9 ?_
                                intro p_oa c_ob d_oc a_od
                                obtain rfl : c_ob = [(.bool x_o8)] := d_oc
                                refine evq (fun w' hw => rn_load rfl rfl (run_loadVar1 T4 ((a_od.step (hp.stp hw)).2 0 _ rfl))) ?_
                                refine evq0 (rn_field rfl rfl FO44_1) ?_
                                refine evq (fun w' hw => rn_load rfl rfl (run_loadVar1 T3 ((hp.ext hw).cell (i := 5) (off := 1) rfl rfl))) ?_
                                refine evq0 (rn_neB rfl rfl rfl Try.underlying4) ?_
                                intro w_oe hc
                                have hs := hp.stp hc
                                replace hp := hp.ext hc
                                replace r_2 := r_2.step hs
                                replace r_5 := r_5.step hs
                                replace r_nm := r_nm.step hs
                                replace r_nz := r_nz.step hs
                                replace o_o0 := o_o0.step hs
                                replace o_o1 := o_o1.step hs
                                replace o_nt := o_nt.step hs
                                replace r_lj := r_lj.step hs
                                apply go
                                refine sel_of (fun hc => ?_) (fun hc => ?_)
                                ·
                                  have q_o6 := cond_t q_o6 hc
                                  apply go
                                  apply go
                                  apply go
                                  have q_of := congrArg some (q_o7 _ (Option.some.inj q_o6).symm)
                                  obtain rfl := Option.some.inj q_of
                                  have q_og := congrArg some (q_ja _ (Option.some.inj q_j9).symm)
                                  obtain rfl := Option.some.inj q_og
                                  obtain rfl := Option.some.inj h
                                  exact ⟨rfl, hp.ch⟩
                                ·
                                  have q_o6 := cond_f q_o6 hc
                                  apply go
                                  apply go
                                  exact ⟨_, (Option.some.inj q_o6).symm, (), (.c rfl (.c rfl (.c rfl (.c rfl (.c rfl (.c rfl (.c rfl (.c rfl .n)))))))), ⟨hp, r_2, r_5, r_nz, o_o0, o_o1, o_nt, r_lj, r_nm⟩⟩
                              ·
                                have q_o6 := cond_f q_o6 hc
                                apply go
                                have q_oh := congrArg some (q_o7 _ (Option.some.inj q_o6).symm)
                                obtain rfl := Option.some.inj q_oh
                                exact ⟨(x_ng.run.nodes, x_ng.run.counters, x_ng.run.active, x_ng.done, x_ng.status, x_ng.ticks, x_l6, x_l7, x_l8, x_l9, x_la, x_lb, g_no, v_nu, v_nv, e_nw, v_nx, e_ny, v_nq, e_nr, v_lg, I_nj), (.c rfl (.c rfl (.c rfl (.c rfl (.c rfl (.c rfl .n)))))), rfl, hp, r_2, r_5, r_nz, o_o0, o_o1, o_nt, r_lj⟩
                    ·
                      rintro ⟨x_oi, x_oj, x_ok, x_ol, x_om, x_on, x_oo, x_op, x_oq, x_or, x_os, x_ot, g_ou, v_ov, v_ow, e_ox, v_oy, e_oz, v_p0, e_p1, v_p2, I_p3⟩ w_p4 ⟨hy, hp, r_2, r_5, r_p5, o_p6, o_p7, o_p8, r_p9⟩
                      replace hy := hy.symm
                      subst hy
                      apply go
                      exact ⟨_, (Option.some.inj q_j9).symm, (g_ou, v_ov, v_ow, e_ox, v_oy, e_oz, v_p0, e_p1, v_p2, I_p3), (.c rfl (.c rfl (.c rfl (.c rfl (.c rfl (.c rfl .n)))))), ⟨hp, r_2, r_5, r_p5, o_p6, o_p7, o_p8, r_p9⟩⟩
                  ·
                    have q_j9 := cond_f q_j9 hc
                    apply go
                    have q_pa := congrArg some (q_ja _ (Option.some.inj q_j9).symm)
                    obtain rfl := Option.some.inj q_pa
                    have hp := hp.sel [] (by decide)
                    exact ⟨I_j1, (.c rfl (.c rfl .n)), rfl, hp, r_2⟩
                ·
                  rintro I_pb w_pc ⟨hy, hp, r_2⟩
                  replace hy := hy.symm
                  subst hy
                  obtain ⟨y_pd, q_pe, h⟩ := bind_some h
                  refine W.cut (γ := (Bool × (Nat → Prop))) (fun g => [(4, (.bool (g.1)))]) (fun g w' => y_pd = (g.1) ∧ Hp ⟨w0, I0, []⟩ (g.2) [] w') ?_ ?_
                  ·
                    apply go
                    obtain ⟨x_pf, q_pg, q_pe⟩ := bind_some q_pe
                    refine ev_call rfl rfl C14 (((mission_Mission_Ticksnil_ok n) _ _   hp.imm _ q_pg).mono ?_)
                    rintro _ w_ph ⟨I_pi, hv, hq⟩
                    replace hv := hv.symm
                    subst hv
                    have hs := hq.st
                    have hp := hp.join0 hq
                    replace r_2 := r_2.step hs
                    refine sel_of (fun hc => ?_) (fun hc => ?_)
                    ·
                      have q_pe := cond_t q_pe hc
                      obtain ⟨x_pj, q_pk, q_pe⟩ := bind_some q_pe
                      refine ev_call rfl rfl C15 (((mission_Mission_Statusnil_ok n) _ _   hp.imm _ q_pk).mono ?_)
                      rintro _ w_pl ⟨I_pm, hv, hq⟩
                      replace hv := hv.symm
                      subst hv
                      have hs := hq.st
                      have hp := hp.join0 hq
                      replace r_2 := r_2.step hs
                      refine sel_of (fun hc => ?_) (fun hc => ?_)
                      ·
                        have q_pe := cond_t q_pe hc
                        obtain ⟨x_pn, q_po, q_pe⟩ := bind_some q_pe
                        refine ev_call rfl rfl C13 (((mission_Mission_Donenil_ok n) _ _   hp.imm _ q_po).mono ?_)
                        rintro _ w_pp ⟨I_pq, v_pr, hv, hq, r_ps⟩
                        replace hv := hv.symm
                        subst hv
                        have hs := hq.st
                        have hp := hp.join0 hq
                        replace r_2 := r_2.step hs
                        refine ev0 (rn_len rfl rfl Try.underlying39 r_ps) ?_
                        refine ev0 (rn_len rfl rfl Try.underlying22 r_2) ?_
                        obtain rfl := Option.some.inj q_pe
                        exact ⟨(((x_pn.length : Int) == (x_0.length : Int)), I_pq), (.c rfl .n), rfl, hp⟩
                      ·
                        have q_pe := cond_f q_pe hc
                        obtain rfl := Option.some.inj q_pe
                        exact ⟨(false, I_pm), (.c rfl .n), rfl, hp⟩
                    ·
                      have q_pe := cond_f q_pe hc
                      obtain rfl := Option.some.inj q_pe
                      exact ⟨(false, I_pi), (.c rfl .n), rfl, hp⟩
                  ·
                    rintro ⟨x_pt, I_pu⟩ w_pv ⟨hy, hp⟩
                    replace hy := hy.symm
                    subst hy
                    apply go
                    obtain rfl := Option.some.inj h
                    exact ⟨rfl, hp.ch⟩
              ·
                obtain ⟨g_pw, rfl, g_px, E_py, v_pz, e_q0, rfl, q_q1, o_q2⟩ := q_hw
                obtain ⟨v_q3, v_q4, e_q5, v_q6, e_q7, rfl, r_q8, o_q9, o_qa⟩ := q_q1
                obtain ⟨g_qb, E_qc, v_qd, e_qe, rfl, q_qf, o_qg⟩ := q_hx
                obtain ⟨v_qh, v_qi, e_qj, v_qk, e_ql, rfl, r_qm, o_qn, o_qo⟩ := q_qf
                have hs := hq32223.st
                have hp := hp.backL [1, 2, 3, 4, 5] [0] (by decide) hq32223
                replace r_2 := r_2.step hs
                replace r_5 := r_5.step hs
                replace r_de := r_de.step hs
                obtain ⟨y_qp, q_qq, h⟩ := bind_some h
                refine W.cut (γ := (Nat → Prop)) (fun g => [(0, v_1), (12, (.pointer (some ⟨g_pw, 0, none⟩)))]) (fun g w' => y_qp = .go () ∧ Hp ⟨w0, I0, []⟩ (g) [e_q5, e_q7, some (g_px, [v_q3, v_q4, v_q6], 70), e_q0, some (g_pw, [(.pointer (some ⟨g_px, 0, none⟩)), v_pz, (.int .i64 x_hy.status), (.int .i64 x_hy.ticks)], 59)] w' ∧ RepS dTask w' (g) v_1 x_0 ∧ RepS dNode_2 w' (g) v_q3 x_hy.run.nodes ∧ OwnS (dI .i64) 3 w' (g) v_q4 e_q5 x_hy.run.counters ∧ OwnS dB 4 w' (g) v_q6 e_q7 x_hy.run.active ∧ OwnS dB 4 w' (g) v_pz e_q0 x_hy.done) ?_ ?_
                ·
                  apply go
                  apply go
                  apply go
                  have hp := hp.perm [7, 8, 6, 9, 5, 10, 2, 3, 1, 4, 0] (by decide)
                  refine W.loop q_qq (γ := (Nat × Value × Value × Ent × Value × Ent × Value × Ent × Value × (Nat → Prop))) (fun s g => [(0, v_1), (1, v_4), (5, (.pointer (some ⟨g_ct, 0, none⟩))), (7, (.pointer (some ⟨g_df, 0, none⟩))), (12, (.pointer (some ⟨g_pw, 0, none⟩))), (13, (.int .i64 (s.2.2.2.2.2.2.2.2.2.2.2.2)))]) (fun s g w' => Hp ⟨w0, I0, []⟩ (g.2.2.2.2.2.2.2.2.2) [(g.2.2.2.1), (g.2.2.2.2.2.1), some ((g.1), [(g.2.1), (g.2.2.1), (g.2.2.2.2.1)], 70), (g.2.2.2.2.2.2.2.1), some (g_ct, [(.pointer (some ⟨(g.1), 0, none⟩)), (g.2.2.2.2.2.2.1), (.int .i64 (s.2.2.2.2.1)), (.int .i64 (s.2.2.2.2.2.1))], 59), some (g_df, [(g.2.2.2.2.2.2.2.2.1), (.int .i64 (s.2.2.2.2.2.2.2.1)), (.int .i64 (s.2.2.2.2.2.2.2.2.1)), (.int .i64 (s.2.2.2.2.2.2.2.2.2.1)), (.int .i64 (s.2.2.2.2.2.2.2.2.2.2.1)), (.int .i64 (s.2.2.2.2.2.2.2.2.2.2.2.1))], 44), e_q5, e_q7, some (g_px, [v_q3, v_q4, v_q6], 70), e_q0, some (g_pw, [(.pointer (some ⟨g_px, 0, none⟩)), v_pz, (.int .i64 x_hy.status), (.int .i64 x_hy.ticks)], 59)] w' ∧ RepS dTask w' (g.2.2.2.2.2.2.2.2.2) v_1 x_0 ∧ RepS (dSl (dI .i64)) w' (g.2.2.2.2.2.2.2.2.2) v_4 x_3 ∧ RepS dNode_2 w' (g.2.2.2.2.2.2.2.2.2) (g.2.1) (s.1) ∧ OwnS (dI .i64) 3 w' (g.2.2.2.2.2.2.2.2.2) (g.2.2.1) (g.2.2.2.1) (s.2.1) ∧ OwnS dB 4 w' (g.2.2.2.2.2.2.2.2.2) (g.2.2.2.2.1) (g.2.2.2.2.2.1) (s.2.2.1) ∧ OwnS dB 4 w' (g.2.2.2.2.2.2.2.2.2) (g.2.2.2.2.2.2.1) (g.2.2.2.2.2.2.2.1) (s.2.2.2.1) ∧ RepS dTask w' (g.2.2.2.2.2.2.2.2.2) (g.2.2.2.2.2.2.2.2.1) (s.2.2.2.2.2.2.1) ∧ RepS dNode_2 w' (g.2.2.2.2.2.2.2.2.2) v_q3 x_hy.run.nodes ∧ OwnS (dI .i64) 3 w' (g.2.2.2.2.2.2.2.2.2) v_q4 e_q5 x_hy.run.counters ∧ OwnS dB 4 w' (g.2.2.2.2.2.2.2.2.2) v_q6 e_q7 x_hy.run.active ∧ OwnS dB 4 w' (g.2.2.2.2.2.2.2.2.2) v_pz e_q0 x_hy.done) (g_qb, v_qh, v_qi, e_qj, v_qk, e_ql, v_qd, e_qe, v_dd, I_hs) (.c rfl (.c rfl (.c rfl (.c rfl (.c rfl (.c rfl .n)))))) ⟨hp, r_2, r_5, r_qm, o_qn, o_qo, o_qg, r_de, r_q8, o_q9, o_qa, o_q2⟩ ?_
                  rintro ⟨x_qr, x_qs, x_qt, x_qu, x_qv, x_qw, x_qx, x_qy, x_qz, x_r0, x_r1, x_r2, x_r3⟩ ⟨g_r4, v_r5, v_r6, e_r7, v_r8, e_r9, v_ra, e_rb, v_rc, I_rd⟩ w_re y_rf ⟨hp, r_2, r_5, r_rg, o_rh, o_ri, o_rj, r_rk, r_q8, o_q9, o_qa, o_q2⟩ q_rl q_rm
                  unfold law42_MissionPlays_L53 at q_rl
                  apply go
                  apply go
                  apply go
                  refine ev0 (rn_len rfl rfl Try.underlying23 r_5) ?_
                  apply go
                  refine sel_of (fun hc => ?_) (fun hc => ?_)
                  ·
                    have q_rl := cond_t q_rl hc
                    apply go
                    obtain ⟨y_rn, q_ro, q_rl⟩ := bind_some q_rl
                    refine W.cut (γ := ((List Node_2) × (List Int) × (List Bool) × (List Bool) × Int × Int × (List Task) × Int × Int × Int × Int × Int × Nat × Value × Value × Ent × Value × Ent × Value × Ent × Value × (Nat → Prop))) (fun g => [(0, v_1), (1, v_4), (5, (.pointer (some ⟨g_ct, 0, none⟩))), (7, (.pointer (some ⟨g_df, 0, none⟩))), (12, (.pointer (some ⟨g_pw, 0, none⟩))), (13, (.int .i64 x_r3))]) (fun g w' => y_rn = .go ((g.1), (g.2.1), (g.2.2.1), (g.2.2.2.1), (g.2.2.2.2.1), (g.2.2.2.2.2.1), (g.2.2.2.2.2.2.1), (g.2.2.2.2.2.2.2.1), (g.2.2.2.2.2.2.2.2.1), (g.2.2.2.2.2.2.2.2.2.1), (g.2.2.2.2.2.2.2.2.2.2.1), (g.2.2.2.2.2.2.2.2.2.2.2.1)) ∧ Hp ⟨w0, I0, []⟩ (g.2.2.2.2.2.2.2.2.2.2.2.2.2.2.2.2.2.2.2.2.2) [(g.2.2.2.2.2.2.2.2.2.2.2.2.2.2.2.1), (g.2.2.2.2.2.2.2.2.2.2.2.2.2.2.2.2.2.1), some ((g.2.2.2.2.2.2.2.2.2.2.2.2.1), [(g.2.2.2.2.2.2.2.2.2.2.2.2.2.1), (g.2.2.2.2.2.2.2.2.2.2.2.2.2.2.1), (g.2.2.2.2.2.2.2.2.2.2.2.2.2.2.2.2.1)], 70), (g.2.2.2.2.2.2.2.2.2.2.2.2.2.2.2.2.2.2.2.1), some (g_ct, [(.pointer (some ⟨(g.2.2.2.2.2.2.2.2.2.2.2.2.1), 0, none⟩)), (g.2.2.2.2.2.2.2.2.2.2.2.2.2.2.2.2.2.2.1), (.int .i64 (g.2.2.2.2.1)), (.int .i64 (g.2.2.2.2.2.1))], 59), some (g_df, [(g.2.2.2.2.2.2.2.2.2.2.2.2.2.2.2.2.2.2.2.2.1), (.int .i64 (g.2.2.2.2.2.2.2.1)), (.int .i64 (g.2.2.2.2.2.2.2.2.1)), (.int .i64 (g.2.2.2.2.2.2.2.2.2.1)), (.int .i64 (g.2.2.2.2.2.2.2.2.2.2.1)), (.int .i64 (g.2.2.2.2.2.2.2.2.2.2.2.1))], 44), e_q5, e_q7, some (g_px, [v_q3, v_q4, v_q6], 70), e_q0, some (g_pw, [(.pointer (some ⟨g_px, 0, none⟩)), v_pz, (.int .i64 x_hy.status), (.int .i64 x_hy.ticks)], 59)] w' ∧ RepS dTask w' (g.2.2.2.2.2.2.2.2.2.2.2.2.2.2.2.2.2.2.2.2.2) v_1 x_0 ∧ RepS (dSl (dI .i64)) w' (g.2.2.2.2.2.2.2.2.2.2.2.2.2.2.2.2.2.2.2.2.2) v_4 x_3 ∧ RepS dNode_2 w' (g.2.2.2.2.2.2.2.2.2.2.2.2.2.2.2.2.2.2.2.2.2) (g.2.2.2.2.2.2.2.2.2.2.2.2.2.1) (g.1) ∧ OwnS (dI .i64) 3 w' (g.2.2.2.2.2.2.2.2.2.2.2.2.2.2.2.2.2.2.2.2.2) (g.2.2.2.2.2.2.2.2.2.2.2.2.2.2.1) (g.2.2.2.2.2.2.2.2.2.2.2.2.2.2.2.1) (g.2.1) ∧ OwnS dB 4 w' (g.2.2.2.2.2.2.2.2.2.2.2.2.2.2.2.2.2.2.2.2.2) (g.2.2.2.2.2.2.2.2.2.2.2.2.2.2.2.2.1) (g.2.2.2.2.2.2.2.2.2.2.2.2.2.2.2.2.2.1) (g.2.2.1) ∧ OwnS dB 4 w' (g.2.2.2.2.2.2.2.2.2.2.2.2.2.2.2.2.2.2.2.2.2) (g.2.2.2.2.2.2.2.2.2.2.2.2.2.2.2.2.2.2.1) (g.2.2.2.2.2.2.2.2.2.2.2.2.2.2.2.2.2.2.2.1) (g.2.2.2.1) ∧ RepS dTask w' (g.2.2.2.2.2.2.2.2.2.2.2.2.2.2.2.2.2.2.2.2.2) (g.2.2.2.2.2.2.2.2.2.2.2.2.2.2.2.2.2.2.2.2.1) (g.2.2.2.2.2.2.1) ∧ RepS dNode_2 w' (g.2.2.2.2.2.2.2.2.2.2.2.2.2.2.2.2.2.2.2.2.2) v_q3 x_hy.run.nodes ∧ OwnS (dI .i64) 3 w' (g.2.2.2.2.2.2.2.2.2.2.2.2.2.2.2.2.2.2.2.2.2) v_q4 e_q5 x_hy.run.counters ∧ OwnS dB 4 w' (g.2.2.2.2.2.2.2.2.2.2.2.2.2.2.2.2.2.2.2.2.2) v_q6 e_q7 x_hy.run.active ∧ OwnS dB 4 w' (g.2.2.2.2.2.2.2.2.2.2.2.2.2.2.2.2.2.2.2.2.2) v_pz e_q0 x_hy.done) ?_ ?_
                    ·
                      apply go
                      apply go
                      apply go
                      obtain ⟨x_rp, q_rq, q_ro⟩ := bind_some q_ro
                      refine ev_index rfl rfl rfl Try.underlying23 T31 r_5 q_rq ?_
                      intro p_rr c_rs d_rt a_ru
                      obtain ⟨v_rv, rfl, r_rw⟩ := d_rt
                      refine ev (rn_load rfl rfl (run_loadVar1 T31 (a_ru.2 0 _ rfl))) ?_
                      obtain ⟨⟨x_rx, x_ry, x_rz, x_s0⟩, q_s1, q_ro⟩ := bind_some q_ro
                      refine ev_call rfl rfl C12 (((mission_Mission_Tick_ok n) _ _  (Mission.mk (Runner.mk x_qr x_qs x_qt) x_qu x_qv x_qw) g_ct [some (g_ct, [(.pointer (some ⟨g_r4, 0, none⟩)), v_ra, (.int .i64 x_qv), (.int .i64 x_qw)], 59), some (g_r4, [v_r5, v_r6, v_r8], 70), e_r7, e_r9, e_rb] ⟨g_r4, [some (g_r4, [v_r5, v_r6, v_r8], 70), e_r7, e_r9], v_ra, e_rb, rfl, ⟨v_r5, v_r6, e_r7, v_r8, e_r9, rfl, r_rg, o_rh, o_ri⟩, o_rj⟩ x_rp v_rv r_rw (hp.lendL [4, 2, 0, 1, 3] (by decide)) _ q_s1).mono ?_)
                      rintro _ w_s2 ⟨I_s3, F_s4, hv, hq43173, q_s5⟩
                      replace hv := hv.symm
                      subst hv
                      obtain ⟨g_s6, E_s7, v_s8, e_s9, rfl, q_sa, o_sb⟩ := q_s5
                      obtain ⟨v_sc, v_sd, e_se, v_sf, e_sg, rfl, r_sh, o_si, o_sj⟩ := q_sa
                      have hs := hq43173.st
                      have hp := hp.backL [4, 2, 0, 1, 3] [5, 6, 7, 8, 9, 10] (by decide) hq43173
                      replace r_2 := r_2.step hs
                      replace r_5 := r_5.step hs
                      replace r_rk := r_rk.step hs
                      replace r_q8 := r_q8.step hs
                      replace o_q9 := o_q9.step hs
                      replace o_qa := o_qa.step hs
                      replace o_q2 := o_q2.step hs
                      obtain ⟨y_sk, q_sl, q_ro⟩ := bind_some q_ro
                      refine W.cut (γ := ((List Task) × Int × Int × Int × Int × Int × Int × Int × Int × Nat × Value × (Nat → Prop))) (fun g => [(0, v_1), (1, v_4), (5, (.pointer (some ⟨g_ct, 0, none⟩))), (7, (.pointer (some ⟨g_df, 0, none⟩))), (12, (.pointer (some ⟨g_pw, 0, none⟩))), (13, (.int .i64 x_r3)), (14, (.int .i64 x_rx)), (15, (.int .i64 x_ry)), (16, (.int .i64 x_rz)), (17, (.pointer (some ⟨(g.2.2.2.2.2.2.2.2.2.1), 0, none⟩))), (18, (.int .i64 (g.2.2.2.2.2.2.1))), (19, (.int .i64 (g.2.2.2.2.2.2.2.1))), (20, (.int .i64 (g.2.2.2.2.2.2.2.2.1)))]) (fun g w' => y_sk = ((g.1), (g.2.1), (g.2.2.1), (g.2.2.2.1), (g.2.2.2.2.1), (g.2.2.2.2.2.1), (g.2.2.2.2.2.2.1), (g.2.2.2.2.2.2.2.1), (g.2.2.2.2.2.2.2.2.1)) ∧ Hp ⟨w0, I0, []⟩ (g.2.2.2.2.2.2.2.2.2.2.2) [e_se, e_sg, some (g_s6, [v_sc, v_sd, v_sf], 70), e_s9, some (g_ct, [(.pointer (some ⟨g_s6, 0, none⟩)), v_s8, (.int .i64 x_s0.status), (.int .i64 x_s0.ticks)], 59), some (g_df, [v_rc, (.int .i64 x_qy), (.int .i64 x_qz), (.int .i64 x_r0), (.int .i64 x_r1), (.int .i64 x_r2)], 44), e_q5, e_q7, some (g_px, [v_q3, v_q4, v_q6], 70), e_q0, some (g_pw, [(.pointer (some ⟨g_px, 0, none⟩)), v_pz, (.int .i64 x_hy.status), (.int .i64 x_hy.ticks)], 59), some ((g.2.2.2.2.2.2.2.2.2.1), [(g.2.2.2.2.2.2.2.2.2.2.1), (.int .i64 (g.2.1)), (.int .i64 (g.2.2.1)), (.int .i64 (g.2.2.2.1)), (.int .i64 (g.2.2.2.2.1)), (.int .i64 (g.2.2.2.2.2.1))], 44)] w' ∧ RepS dTask w' (g.2.2.2.2.2.2.2.2.2.2.2) v_1 x_0 ∧ RepS (dSl (dI .i64)) w' (g.2.2.2.2.2.2.2.2.2.2.2) v_4 x_3 ∧ RepS dNode_2 w' (g.2.2.2.2.2.2.2.2.2.2.2) v_sc x_s0.run.nodes ∧ OwnS (dI .i64) 3 w' (g.2.2.2.2.2.2.2.2.2.2.2) v_sd e_se x_s0.run.counters ∧ OwnS dB 4 w' (g.2.2.2.2.2.2.2.2.2.2.2) v_sf e_sg x_s0.run.active ∧ OwnS dB 4 w' (g.2.2.2.2.2.2.2.2.2.2.2) v_s8 e_s9 x_s0.done ∧ RepS dTask w' (g.2.2.2.2.2.2.2.2.2.2.2) v_rc x_qx ∧ RepS dNode_2 w' (g.2.2.2.2.2.2.2.2.2.2.2) v_q3 x_hy.run.nodes ∧ OwnS (dI .i64) 3 w' (g.2.2.2.2.2.2.2.2.2.2.2) v_q4 e_q5 x_hy.run.counters ∧ OwnS dB 4 w' (g.2.2.2.2.2.2.2.2.2.2.2) v_q6 e_q7 x_hy.run.active ∧ OwnS dB 4 w' (g.2.2.2.2.2.2.2.2.2.2.2) v_pz e_q0 x_hy.done ∧ RepS dTask w' (g.2.2.2.2.2.2.2.2.2.2.2) (g.2.2.2.2.2.2.2.2.2.2.1) (g.1)) ?_ ?_
                      ·
                        have hs := hp.stp (Ch.drew [] w_s2)
                        have hp := hp.drew
                        replace r_2 := r_2.step hs
                        replace r_5 := r_5.step hs
                        replace o_sb := o_sb.step hs
                        replace r_sh := r_sh.step hs
                        replace o_si := o_si.step hs
                        replace o_sj := o_sj.step hs
                        replace r_rk := r_rk.step hs
                        replace r_q8 := r_q8.step hs
                        replace o_q9 := o_q9.step hs
                        replace o_qa := o_qa.step hs
                        replace o_q2 := o_q2.step hs
                        refine W.heldG (.q 0 (.q 1 (.q 2 (.q 3 (.q 4 (.l 5 (.q 6 (.q 7 (.q 8 (.q 9 (.q 10 (.l 11 (.l 12 (.q 13 (.q 14 (.q 15 .done))) .no) .no)))))) (.l 11 (.l 5 (.q 6 (.q 7 (.q 8 (.q 9 (.q 10 (.l 12 (.q 13 (.q 14 (.q 15 .done))) .no)))))) .no) .no))))))) (SK (Stp I_s3 w_s2.drew I_s3) [(g_df, [v_rc, (.int .i64 x_qy), (.int .i64 x_qz), (.int .i64 x_r0), (.int .i64 x_r1), (.int .i64 x_r2)], 44)] [[]]) MX (by kernel_rfl) ⟨Stp.refl _ _, (kp_cons (fun _ => (hp.own 5 _ _ _ rfl).1) kp_nil)⟩ ?_
                        have hz := Stp.refl I_s3 w_s2.drew
                        refine ⟨SK.same (by kernel_rfl), ?_⟩
                        refine evh (fun w' hw => rn_load rfl rfl (run_loadVarA T44 rfl ((S0.keep (p := 0) hw rfl rfl (by kernel_rfl)).at_ (i := 0) rfl))) ?_
                        refine ⟨SK.same (by kernel_rfl), ?_⟩
                        refine ⟨SK.same (by kernel_rfl), ?_⟩
                        refine ⟨SK.same (by kernel_rfl), ?_⟩
                        obtain ⟨x_sm, q_sn, q_sl⟩ := bind_some q_sl
                        refine evh_index rfl rfl rfl Try.underlying23 T31 r_5 q_sn ?_
                        intro p_so c_sp d_sq a_sr
                        obtain ⟨v_ss, rfl, r_st⟩ := d_sq
                        refine ⟨SK.same (by kernel_rfl), ?_⟩
                        refine evh (fun w' hw => rn_load rfl rfl (run_loadVar1 T31 ((a_sr.step (S0.si hw)).2 0 _ rfl))) ?_
                        refine ⟨?_, ?_⟩
                        ·
                          obtain ⟨⟨x_su, x_sv, x_sw, x_sx⟩, q_sy, q_sl⟩ := bind_some q_sl
                          refine ev_call rfl rfl C18 (((ref42_Mission_Tick_ok n) _ _  (Mission_2.mk x_qx x_qy x_qz x_r0 x_r1 x_r2) v_rc r_rk x_sm v_ss r_st hp.imm _ q_sy).mono ?_)
                          rintro _ w_sz ⟨I_t0, v_t1, hv, hq, r_t2⟩
                          replace hv := hv.symm
                          subst hv
                          have hs := hq.st
                          have hp := hp.join0 hq
                          replace hz := hz.trans hs
                          replace r_2 := r_2.step hs
                          replace r_5 := r_5.step hs
                          replace o_sb := o_sb.step hs
                          replace r_sh := r_sh.step hs
                          replace o_si := o_si.step hs
                          replace o_sj := o_sj.step hs
                          replace r_rk := r_rk.step hs
                          replace r_q8 := r_q8.step hs
                          replace o_q9 := o_q9.step hs
                          replace o_qa := o_qa.step hs
                          replace o_q2 := o_q2.step hs
                          refine ⟨SK (Stp I_t0 w_sz I_t0) [(g_df, [v_rc, (.int .i64 x_qy), (.int .i64 x_qz), (.int .i64 x_r0), (.int .i64 x_r1), (.int .i64 x_r2)], 44)] [[]], ⟨Stp.refl _ _, (kp_cons (fun _ => (hp.own 5 _ _ _ rfl).1) kp_nil)⟩, fun L x h => ⟨hz.held h.1, h.2⟩, ?_⟩
                          have hz := Stp.refl I_t0 w_sz
                          refine ⟨SK.same (by kernel_rfl), ?_⟩
                          refine ⟨SK.same (by kernel_rfl), ?_⟩
                          refine ⟨SK.same (by kernel_rfl), ?_⟩
                          refine ⟨SK.same (by kernel_rfl), ?_⟩
                          refine ⟨SK.same (by kernel_rfl), ?_⟩
                          refine ⟨?_, trivial⟩
                          refine ev_alloc hp rfl T44 ?_
                          intro g_t3 w_t4 hp hs
                          replace hz := hz.trans hs
                          replace r_2 := r_2.step hs
                          replace r_5 := r_5.step hs
                          replace r_t2 := r_t2.step hs
                          replace o_sb := o_sb.step hs
                          replace r_sh := r_sh.step hs
                          replace o_si := o_si.step hs
                          replace o_sj := o_sj.step hs
                          replace r_rk := r_rk.step hs
                          replace r_q8 := r_q8.step hs
                          replace o_q9 := o_q9.step hs
                          replace o_qa := o_qa.step hs
                          replace o_q2 := o_q2.step hs
                          refine ⟨SK (Stp I_t0 w_t4 I_t0) [(g_df, [v_rc, (.int .i64 x_qy), (.int .i64 x_qz), (.int .i64 x_r0), (.int .i64 x_r1), (.int .i64 x_r2)], 44)] [[]], ⟨Stp.refl _ _, (kp_cons (fun _ => (hp.own 6 _ _ _ rfl).1) kp_nil)⟩, fun L x h => ⟨hz.held h.1, h.2⟩, ?_⟩
                          have hz := Stp.refl I_t0 w_t4
                          refine ⟨?_, trivial⟩
                          refine ev_storeA hp (i := 0) (off := 0) (vs := [v_t1, (.int .i64 x_su.Done), (.int .i64 x_su.Ran), (.int .i64 x_su.Failed), (.int .i64 x_su.Status), (.int .i64 x_su.Ticks)]) rfl rfl rfl rfl T44 rfl (Nat.le_of_ble_eq_true rfl) (ones_cons r_t2.one (ones_cons rfl (ones_cons rfl (ones_cons rfl (ones_cons rfl (ones_cons rfl ones_nil)))))) ?_
                          intro w_t5 hp hs
                          replace hz := hz.trans hs
                          replace r_2 := r_2.step hs
                          replace r_5 := r_5.step hs
                          replace r_t2 := r_t2.step hs
                          replace o_sb := o_sb.step hs
                          replace r_sh := r_sh.step hs
                          replace o_si := o_si.step hs
                          replace o_sj := o_sj.step hs
                          replace r_rk := r_rk.step hs
                          replace r_q8 := r_q8.step hs
                          replace o_q9 := o_q9.step hs
                          replace o_qa := o_qa.step hs
                          replace o_q2 := o_q2.step hs
                          refine ⟨SK (Stp I_t0 w_t5 I_t0) [(g_df, [v_rc, (.int .i64 x_qy), (.int .i64 x_qz), (.int .i64 x_r0), (.int .i64 x_r1), (.int .i64 x_r2)], 44)] [[]], ⟨Stp.refl _ _, (kp_cons (fun _ => (hp.own 6 _ _ _ rfl).1) kp_nil)⟩, fun L x h => ⟨hz.held h.1, h.2⟩, ?_⟩
                          have hz := Stp.refl I_t0 w_t5
                          refine ⟨SK.same (by kernel_rfl), ?_⟩
                          refine ⟨SK.same (by kernel_rfl), ?_⟩
                          refine ⟨SK.same (by kernel_rfl), ?_⟩
                          obtain rfl := Option.some.inj q_sl
                          have hp := hp.perm [3, 4, 2, 5, 1, 6, 7, 8, 9, 10, 11, 0] (by decide)
                          exact ⟨(x_su.Tasks, x_su.Done, x_su.Ran, x_su.Failed, x_su.Status, x_su.Ticks, x_sv, x_sw, x_sx, g_t3, v_t1, I_t0), (.c rfl (.c rfl (.c rfl (.c rfl (.c rfl (.c rfl (.c rfl (.c rfl (.c rfl (.c rfl (.c rfl (.c rfl (.c rfl .n))))))))))))), rfl, hp, r_2, r_5, r_sh, o_si, o_sj, o_sb, r_rk, r_q8, o_q9, o_qa, o_q2, r_t2⟩
                        refine ⟨?_, trivial⟩
                        refine ev_alloc hp rfl T44 ?_
                        intro g_t6 w_t7 hp hs
                        replace hz := hz.trans hs
                        replace r_2 := r_2.step hs
                        replace r_5 := r_5.step hs
                        replace r_rk := r_rk.step hs
                        replace r_st := r_st.step hs
                        replace o_sb := o_sb.step hs
                        replace r_sh := r_sh.step hs
                        replace o_si := o_si.step hs
                        replace o_sj := o_sj.step hs
                        replace r_q8 := r_q8.step hs
                        replace o_q9 := o_q9.step hs
                        replace o_qa := o_qa.step hs
                        replace o_q2 := o_q2.step hs
                        refine ⟨SK (Stp I_s3 w_t7 I_s3) [(g_df, [v_rc, (.int .i64 x_qy), (.int .i64 x_qz), (.int .i64 x_r0), (.int .i64 x_r1), (.int .i64 x_r2)], 44)] [[]], ⟨Stp.refl _ _, (kp_cons (fun _ => (hp.own 6 _ _ _ rfl).1) kp_nil)⟩, fun L x h => ⟨hz.held h.1, h.2⟩, ?_⟩
                        have hz := Stp.refl I_s3 w_t7
                        refine ⟨?_, trivial⟩
                        obtain ⟨⟨x_t8, x_t9, x_ta, x_tb⟩, q_tc, q_sl⟩ := bind_some q_sl
                        refine ev_call rfl rfl C18 (((ref42_Mission_Tick_ok n) _ _  (Mission_2.mk x_qx x_qy x_qz x_r0 x_r1 x_r2) v_rc r_rk x_sm v_ss r_st hp.imm _ q_tc).mono ?_)
                        rintro _ w_td ⟨I_te, v_tf, hv, hq, r_tg⟩
                        replace hv := hv.symm
                        subst hv
                        have hs := hq.st
                        have hp := hp.join0 hq
                        replace hz := hz.trans hs
                        replace r_2 := r_2.step hs
                        replace r_5 := r_5.step hs
                        replace o_sb := o_sb.step hs
                        replace r_sh := r_sh.step hs
                        replace o_si := o_si.step hs
                        replace o_sj := o_sj.step hs
                        replace r_rk := r_rk.step hs
                        replace r_q8 := r_q8.step hs
                        replace o_q9 := o_q9.step hs
                        replace o_qa := o_qa.step hs
                        replace o_q2 := o_q2.step hs
                        refine ⟨SK (Stp I_te w_td I_te) [(g_df, [v_rc, (.int .i64 x_qy), (.int .i64 x_qz), (.int .i64 x_r0), (.int .i64 x_r1), (.int .i64 x_r2)], 44)] [[]], ⟨Stp.refl _ _, (kp_cons (fun _ => (hp.own 6 _ _ _ rfl).1) kp_nil)⟩, fun L x h => ⟨hz.held h.1, h.2⟩, ?_⟩
                        have hz := Stp.refl I_te w_td
                        refine ⟨SK.same (by kernel_rfl), ?_⟩
                        refine ⟨SK.same (by kernel_rfl), ?_⟩
                        refine ⟨SK.same (by kernel_rfl), ?_⟩
                        refine ⟨SK.same (by kernel_rfl), ?_⟩
                        refine ⟨SK.same (by kernel_rfl), ?_⟩
                        refine ⟨?_, trivial⟩
                        refine ev_storeA hp (i := 0) (off := 0) (vs := [v_tf, (.int .i64 x_t8.Done), (.int .i64 x_t8.Ran), (.int .i64 x_t8.Failed), (.int .i64 x_t8.Status), (.int .i64 x_t8.Ticks)]) rfl rfl rfl rfl T44 rfl (Nat.le_of_ble_eq_true rfl) (ones_cons r_tg.one (ones_cons rfl (ones_cons rfl (ones_cons rfl (ones_cons rfl (ones_cons rfl ones_nil)))))) ?_
                        intro w_th hp hs
                        replace hz := hz.trans hs
                        replace r_2 := r_2.step hs
                        replace r_5 := r_5.step hs
                        replace r_tg := r_tg.step hs
                        replace o_sb := o_sb.step hs
                        replace r_sh := r_sh.step hs
                        replace o_si := o_si.step hs
                        replace o_sj := o_sj.step hs
                        replace r_rk := r_rk.step hs
                        replace r_q8 := r_q8.step hs
                        replace o_q9 := o_q9.step hs
                        replace o_qa := o_qa.step hs
                        replace o_q2 := o_q2.step hs
                        refine ⟨SK (Stp I_te w_th I_te) [(g_df, [v_rc, (.int .i64 x_qy), (.int .i64 x_qz), (.int .i64 x_r0), (.int .i64 x_r1), (.int .i64 x_r2)], 44)] [[]], ⟨Stp.refl _ _, (kp_cons (fun _ => (hp.own 6 _ _ _ rfl).1) kp_nil)⟩, fun L x h => ⟨hz.held h.1, h.2⟩, ?_⟩
                        have hz := Stp.refl I_te w_th
                        refine ⟨SK.same (by kernel_rfl), ?_⟩
                        refine ⟨SK.same (by kernel_rfl), ?_⟩
                        refine ⟨SK.same (by kernel_rfl), ?_⟩
                        obtain rfl := Option.some.inj q_sl
                        have hp := hp.perm [3, 4, 2, 5, 1, 6, 7, 8, 9, 10, 11, 0] (by decide)
                        exact ⟨(x_t8.Tasks, x_t8.Done, x_t8.Ran, x_t8.Failed, x_t8.Status, x_t8.Ticks, x_t9, x_ta, x_tb, g_t6, v_tf, I_te), (.c rfl (.c rfl (.c rfl (.c rfl (.c rfl (.c rfl (.c rfl (.c rfl (.c rfl (.c rfl (.c rfl (.c rfl (.c rfl .n))))))))))))), rfl, hp, r_2, r_5, r_sh, o_si, o_sj, o_sb, r_rk, r_q8, o_q9, o_qa, o_q2, r_tg⟩
                      ·
                        rintro ⟨x_ti, x_tj, x_tk, x_tl, x_tm, x_tn, x_to, x_tp, x_tq, g_tr, v_ts, I_tt⟩ w_tu ⟨hy, hp, r_2, r_5, r_sh, o_si, o_sj, o_sb, r_rk, r_q8, o_q9, o_qa, o_q2, r_tv⟩
                        replace hy := hy.symm
                        subst hy
                        apply go
                        apply go
                        refine ev (rn_load rfl rfl (run_loadVarA T44 rfl (hp.at_ (i := 11) rfl))) ?_
                        refine ev_storeA hp (i := 5) (off := 0) (vs := [v_ts, (.int .i64 x_tj), (.int .i64 x_tk), (.int .i64 x_tl), (.int .i64 x_tm), (.int .i64 x_tn)]) rfl rfl rfl rfl T44 rfl (Nat.le_of_ble_eq_true rfl) (ones_cons r_tv.one (ones_cons rfl (ones_cons rfl (ones_cons rfl (ones_cons rfl (ones_cons rfl ones_nil)))))) ?_
                        intro w_tw hp hs
                        replace r_2 := r_2.step hs
                        replace r_5 := r_5.step hs
                        replace r_sh := r_sh.step hs
                        replace o_si := o_si.step hs
                        replace o_sj := o_sj.step hs
                        replace o_sb := o_sb.step hs
                        replace r_tv := r_tv.step hs
                        replace r_q8 := r_q8.step hs
                        replace o_q9 := o_q9.step hs
                        replace o_qa := o_qa.step hs
                        replace o_q2 := o_q2.step hs
                        apply go
                        obtain ⟨y_tx, q_ty, q_ro⟩ := bind_some q_ro
                        refine W.cut (γ := ((List Node_2) × (List Int) × (List Bool) × (List Bool) × Int × Int × Bool × Nat × Value × Value × Ent × Value × Ent × Value × Ent × (Nat → Prop))) (fun g => [(0, v_1), (1, v_4), (5, (.pointer (some ⟨g_ct, 0, none⟩))), (7, (.pointer (some ⟨g_df, 0, none⟩))), (12, (.pointer (some ⟨g_pw, 0, none⟩))), (13, (.int .i64 x_r3)), (147, (.bool (g.2.2.2.2.2.2.1)))]) (fun g w' => y_tx = ((g.1), (g.2.1), (g.2.2.1), (g.2.2.2.1), (g.2.2.2.2.1), (g.2.2.2.2.2.1), (g.2.2.2.2.2.2.1)) ∧ Hp ⟨w0, I0, []⟩ (g.2.2.2.2.2.2.2.2.2.2.2.2.2.2.2) [(g.2.2.2.2.2.2.2.2.2.2.1), (g.2.2.2.2.2.2.2.2.2.2.2.2.1), some ((g.2.2.2.2.2.2.2.1), [(g.2.2.2.2.2.2.2.2.1), (g.2.2.2.2.2.2.2.2.2.1), (g.2.2.2.2.2.2.2.2.2.2.2.1)], 70), (g.2.2.2.2.2.2.2.2.2.2.2.2.2.2.1), some (g_ct, [(.pointer (some ⟨(g.2.2.2.2.2.2.2.1), 0, none⟩)), (g.2.2.2.2.2.2.2.2.2.2.2.2.2.1), (.int .i64 (g.2.2.2.2.1)), (.int .i64 (g.2.2.2.2.2.1))], 59), some (g_df, [v_ts, (.int .i64 x_tj), (.int .i64 x_tk), (.int .i64 x_tl), (.int .i64 x_tm), (.int .i64 x_tn)], 44), e_q5, e_q7, some (g_px, [v_q3, v_q4, v_q6], 70), e_q0, some (g_pw, [(.pointer (some ⟨g_px, 0, none⟩)), v_pz, (.int .i64 x_hy.status), (.int .i64 x_hy.ticks)], 59)] w' ∧ RepS dTask w' (g.2.2.2.2.2.2.2.2.2.2.2.2.2.2.2) v_1 x_0 ∧ RepS (dSl (dI .i64)) w' (g.2.2.2.2.2.2.2.2.2.2.2.2.2.2.2) v_4 x_3 ∧ RepS dNode_2 w' (g.2.2.2.2.2.2.2.2.2.2.2.2.2.2.2) (g.2.2.2.2.2.2.2.2.1) (g.1) ∧ OwnS (dI .i64) 3 w' (g.2.2.2.2.2.2.2.2.2.2.2.2.2.2.2) (g.2.2.2.2.2.2.2.2.2.1) (g.2.2.2.2.2.2.2.2.2.2.1) (g.2.1) ∧ OwnS dB 4 w' (g.2.2.2.2.2.2.2.2.2.2.2.2.2.2.2) (g.2.2.2.2.2.2.2.2.2.2.2.1) (g.2.2.2.2.2.2.2.2.2.2.2.2.1) (g.2.2.1) ∧ OwnS dB 4 w' (g.2.2.2.2.2.2.2.2.2.2.2.2.2.2.2) (g.2.2.2.2.2.2.2.2.2.2.2.2.2.1) (g.2.2.2.2.2.2.2.2.2.2.2.2.2.2.1) (g.2.2.2.1) ∧ RepS dTask w' (g.2.2.2.2.2.2.2.2.2.2.2.2.2.2.2) v_ts x_ti ∧ RepS dNode_2 w' (g.2.2.2.2.2.2.2.2.2.2.2.2.2.2.2) v_q3 x_hy.run.nodes ∧ OwnS (dI .i64) 3 w' (g.2.2.2.2.2.2.2.2.2.2.2.2.2.2.2) v_q4 e_q5 x_hy.run.counters ∧ OwnS dB 4 w' (g.2.2.2.2.2.2.2.2.2.2.2.2.2.2.2) v_q6 e_q7 x_hy.run.active ∧ OwnS dB 4 w' (g.2.2.2.2.2.2.2.2.2.2.2.2.2.2.2) v_pz e_q0 x_hy.done) ?_ ?_
                        ·
                          have hs := hp.stp (Ch.drew [] w_tw)
                          have hp := hp.drew
                          replace r_2 := r_2.step hs
                          replace r_5 := r_5.step hs
                          replace r_sh := r_sh.step hs
                          replace o_si := o_si.step hs
                          replace o_sj := o_sj.step hs
                          replace o_sb := o_sb.step hs
                          replace r_tv := r_tv.step hs
                          replace r_q8 := r_q8.step hs
                          replace o_q9 := o_q9.step hs
                          replace o_qa := o_qa.step hs
                          replace o_q2 := o_q2.step hs
                          refine W.held [(0, true), (1, true), (2, true), (3, true), (4, true), (5, true), (6, true), (7, true), (8, true), (9, true), (10, true), (11, true), (12, true), (13, true), (14, true), (16, true), (17, true), (15, false), (18, true), (19, true), (20, true), (21, true), (23, true), (24, true), (22, false), (25, true), (26, true)] (fun x => Stp I_tt w_tw.drew I_tt x ∧ OwnK [(g_df, [v_ts, (.int .i64 x_tj), (.int .i64 x_tk), (.int .i64 x_tl), (.int .i64 x_tm), (.int .i64 x_tn)], 44)] x) MX (by kernel_rfl) ⟨Stp.refl _ _, (OwnK.cons (hp.own 5 _ _ _ rfl).1 OwnK.nil)⟩ ?_
                          have hz := Stp.refl I_tt w_tw.drew
                          refine sel_of (fun hc => ?_) (fun hc => ?_)
                          ·
                            have q_ty := cond_t q_ty hc
                            refine ⟨fun x => Stp I_tt w_tw.drew I_tt x ∧ OwnK [(g_df, [v_ts, (.int .i64 x_tj), (.int .i64 x_tk), (.int .i64 x_tl), (.int .i64 x_tm), (.int .i64 x_tn)], 44)] x, ⟨Stp.refl _ _, (OwnK.cons (hp.own 5 _ _ _ rfl).1 OwnK.nil)⟩, fun x hx => ⟨hz.held hx.1, hx.2⟩, ?_⟩
                            have hz := Stp.refl I_tt w_tw.drew
                            refine ⟨fun x => Stp I_tt w_tw.drew I_tt x ∧ OwnK [(g_df, [v_ts, (.int .i64 x_tj), (.int .i64 x_tk), (.int .i64 x_tl), (.int .i64 x_tm), (.int .i64 x_tn)], 44)] x, ⟨Stp.refl _ _, (OwnK.cons (hp.own 5 _ _ _ rfl).1 OwnK.nil)⟩, fun x hx => ⟨hz.held hx.1, hx.2⟩, ?_⟩
                            have hz := Stp.refl I_tt w_tw.drew
                            obtain rfl := Option.some.inj q_ty
                            have hp := hp.sel [0, 1, 2, 3, 4, 5, 6, 7, 8, 9, 10] (by decide)
                            exact ⟨(x_s0.run.nodes, x_s0.run.counters, x_s0.run.active, x_s0.done, x_s0.status, x_s0.ticks, true, g_s6, v_sc, v_sd, e_se, v_sf, e_sg, v_s8, e_s9, I_tt), (.c rfl (.c rfl (.c rfl (.c rfl (.c rfl (.c rfl (.c rfl .n))))))), rfl, hp, r_2, r_5, r_sh, o_si, o_sj, o_sb, r_tv, r_q8, o_q9, o_qa, o_q2⟩
                          ·
                            have q_ty := cond_f q_ty hc
                            refine sel_of (fun hc => ?_) (fun hc => ?_)
                            ·
                              have q_ty := cond_t q_ty hc
                              refine ⟨fun x => Stp I_tt w_tw.drew I_tt x ∧ OwnK [(g_df, [v_ts, (.int .i64 x_tj), (.int .i64 x_tk), (.int .i64 x_tl), (.int .i64 x_tm), (.int .i64 x_tn)], 44)] x, ⟨Stp.refl _ _, (OwnK.cons (hp.own 5 _ _ _ rfl).1 OwnK.nil)⟩, fun x hx => ⟨hz.held hx.1, hx.2⟩, ?_⟩
                              have hz := Stp.refl I_tt w_tw.drew
                              refine ⟨fun x => Stp I_tt w_tw.drew I_tt x ∧ OwnK [(g_df, [v_ts, (.int .i64 x_tj), (.int .i64 x_tk), (.int .i64 x_tl), (.int .i64 x_tm), (.int .i64 x_tn)], 44)] x, ⟨Stp.refl _ _, (OwnK.cons (hp.own 5 _ _ _ rfl).1 OwnK.nil)⟩, fun x hx => ⟨hz.held hx.1, hx.2⟩, ?_⟩
                              have hz := Stp.refl I_tt w_tw.drew
                              obtain rfl := Option.some.inj q_ty
                              have hp := hp.sel [0, 1, 2, 3, 4, 5, 6, 7, 8, 9, 10] (by decide)
                              exact ⟨(x_s0.run.nodes, x_s0.run.counters, x_s0.run.active, x_s0.done, x_s0.status, x_s0.ticks, true, g_s6, v_sc, v_sd, e_se, v_sf, e_sg, v_s8, e_s9, I_tt), (.c rfl (.c rfl (.c rfl (.c rfl (.c rfl (.c rfl (.c rfl .n))))))), rfl, hp, r_2, r_5, r_sh, o_si, o_sj, o_sb, r_tv, r_q8, o_q9, o_qa, o_q2⟩
                            ·
                              have q_ty := cond_f q_ty hc
                              refine sel_of (fun hc => ?_) (fun hc => ?_)
                              ·
                                have q_ty := cond_t q_ty hc
                                refine ⟨fun x => Stp I_tt w_tw.drew I_tt x ∧ OwnK [(g_df, [v_ts, (.int .i64 x_tj), (.int .i64 x_tk), (.int .i64 x_tl), (.int .i64 x_tm), (.int .i64 x_tn)], 44)] x, ⟨Stp.refl _ _, (OwnK.cons (hp.own 5 _ _ _ rfl).1 OwnK.nil)⟩, fun x hx => ⟨hz.held hx.1, hx.2⟩, ?_⟩
                                have hz := Stp.refl I_tt w_tw.drew
                                refine ⟨fun x => Stp I_tt w_tw.drew I_tt x ∧ OwnK [(g_df, [v_ts, (.int .i64 x_tj), (.int .i64 x_tk), (.int .i64 x_tl), (.int .i64 x_tm), (.int .i64 x_tn)], 44)] x, ⟨Stp.refl _ _, (OwnK.cons (hp.own 5 _ _ _ rfl).1 OwnK.nil)⟩, fun x hx => ⟨hz.held hx.1, hx.2⟩, ?_⟩
                                have hz := Stp.refl I_tt w_tw.drew
                                obtain rfl := Option.some.inj q_ty
                                have hp := hp.sel [0, 1, 2, 3, 4, 5, 6, 7, 8, 9, 10] (by decide)
                                exact ⟨(x_s0.run.nodes, x_s0.run.counters, x_s0.run.active, x_s0.done, x_s0.status, x_s0.ticks, true, g_s6, v_sc, v_sd, e_se, v_sf, e_sg, v_s8, e_s9, I_tt), (.c rfl (.c rfl (.c rfl (.c rfl (.c rfl (.c rfl (.c rfl .n))))))), rfl, hp, r_2, r_5, r_sh, o_si, o_sj, o_sb, r_tv, r_q8, o_q9, o_qa, o_q2⟩
                              ·
                                have q_ty := cond_f q_ty hc
                                refine evh0 (rn_field rfl rfl FO44_4) ?_
                                refine evh (fun w' hw => rn_load rfl rfl (run_loadVar1 T3 (hw.2.cell (i := 0) (off := 4) rfl rfl))) ?_
                                obtain ⟨⟨x_tz, x_u0⟩, q_u1, q_ty⟩ := bind_some q_ty
                                refine ev_call rfl rfl C15 (((mission_Mission_Status_ok n) _ _  (Mission.mk (Runner.mk x_s0.run.nodes x_s0.run.counters x_s0.run.active) x_s0.done x_s0.status x_s0.ticks) g_ct [some (g_ct, [(.pointer (some ⟨g_s6, 0, none⟩)), v_s8, (.int .i64 x_s0.status), (.int .i64 x_s0.ticks)], 59), some (g_s6, [v_sc, v_sd, v_sf], 70), e_se, e_sg, e_s9] ⟨g_s6, [some (g_s6, [v_sc, v_sd, v_sf], 70), e_se, e_sg], v_s8, e_s9, rfl, ⟨v_sc, v_sd, e_se, v_sf, e_sg, rfl, r_sh, o_si, o_sj⟩, o_sb⟩ (hp.lendL [4, 2, 0, 1, 3] (by decide)) _ q_u1).mono ?_)
                                rintro _ w_u2 ⟨I_u3, F_u4, hv, hq43511, q_u5⟩
                                replace hv := hv.symm
                                subst hv
                                obtain ⟨g_u6, E_u7, v_u8, e_u9, rfl, q_ua, o_ub⟩ := q_u5
                                obtain ⟨v_uc, v_ud, e_ue, v_uf, e_ug, rfl, r_uh, o_ui, o_uj⟩ := q_ua
                                have hs := hq43511.st
                                have hp := hp.backL [4, 2, 0, 1, 3] [5, 6, 7, 8, 9, 10, 11] (by decide) hq43511
                                replace hz := hz.trans hs
                                replace r_2 := r_2.step hs
                                replace r_5 := r_5.step hs
                                replace r_tv := r_tv.step hs
                                replace r_q8 := r_q8.step hs
                                replace o_q9 := o_q9.step hs
                                replace o_qa := o_qa.step hs
                                replace o_q2 := o_q2.step hs
                                refine ⟨fun x => Stp I_u3 w_u2 I_u3 x ∧ OwnK [(g_df, [v_ts, (.int .i64 x_tj), (.int .i64 x_tk), (.int .i64 x_tl), (.int .i64 x_tm), (.int .i64 x_tn)], 44)] x, ⟨Stp.refl _ _, (OwnK.cons (hp.own 5 _ _ _ rfl).1 OwnK.nil)⟩, fun x hx => ⟨hz.held hx.1, hx.2⟩, ?_⟩
                                have hz := Stp.refl I_u3 w_u2
                                refine sel_of (fun hc => ?_) (fun hc => ?_)
                                ·
                                  have q_ty := cond_t q_ty hc
                                  refine ⟨fun x => Stp I_u3 w_u2 I_u3 x ∧ OwnK [(g_df, [v_ts, (.int .i64 x_tj), (.int .i64 x_tk), (.int .i64 x_tl), (.int .i64 x_tm), (.int .i64 x_tn)], 44)] x, ⟨Stp.refl _ _, (OwnK.cons (hp.own 5 _ _ _ rfl).1 OwnK.nil)⟩, fun x hx => ⟨hz.held hx.1, hx.2⟩, ?_⟩
                                  have hz := Stp.refl I_u3 w_u2
                                  obtain rfl := Option.some.inj q_ty
                                  have hp := hp.perm [2, 3, 1, 4, 0, 5, 6, 7, 8, 9, 10] (by decide)
                                  exact ⟨(x_u0.run.nodes, x_u0.run.counters, x_u0.run.active, x_u0.done, x_u0.status, x_u0.ticks, true, g_u6, v_uc, v_ud, e_ue, v_uf, e_ug, v_u8, e_u9, I_u3), (.c rfl (.c rfl (.c rfl (.c rfl (.c rfl (.c rfl (.c rfl .n))))))), rfl, hp, r_2, r_5, r_uh, o_ui, o_uj, o_ub, r_tv, r_q8, o_q9, o_qa, o_q2⟩
                                ·
                                  have q_ty := cond_f q_ty hc
                                  refine evh0 (rn_field rfl rfl FO44_5) ?_
                                  refine evh (fun w' hw => rn_load rfl rfl (run_loadVar1 T3 (hw.2.cell (i := 0) (off := 5) rfl rfl))) ?_
                                  obtain ⟨⟨x_uk, x_ul⟩, q_um, q_ty⟩ := bind_some q_ty
                                  refine ev_call rfl rfl C14 (((mission_Mission_Ticks_ok n) _ _  (Mission.mk (Runner.mk x_u0.run.nodes x_u0.run.counters x_u0.run.active) x_u0.done x_u0.status x_u0.ticks) g_ct [some (g_ct, [(.pointer (some ⟨g_u6, 0, none⟩)), v_u8, (.int .i64 x_u0.status), (.int .i64 x_u0.ticks)], 59), some (g_u6, [v_uc, v_ud, v_uf], 70), e_ue, e_ug, e_u9] ⟨g_u6, [some (g_u6, [v_uc, v_ud, v_uf], 70), e_ue, e_ug], v_u8, e_u9, rfl, ⟨v_uc, v_ud, e_ue, v_uf, e_ug, rfl, r_uh, o_ui, o_uj⟩, o_ub⟩ (hp.lendL [0, 1, 2, 3, 4] (by decide)) _ q_um).mono ?_)
                                  rintro _ w_un ⟨I_uo, F_up, hv, hq43533, q_uq⟩
                                  replace hv := hv.symm
                                  subst hv
                                  obtain ⟨g_ur, E_us, v_ut, e_uu, rfl, q_uv, o_uw⟩ := q_uq
                                  obtain ⟨v_ux, v_uy, e_uz, v_v0, e_v1, rfl, r_v2, o_v3, o_v4⟩ := q_uv
                                  have hs := hq43533.st
                                  have hp := hp.backL [0, 1, 2, 3, 4] [5, 6, 7, 8, 9, 10, 11] (by decide) hq43533
                                  replace hz := hz.trans hs
                                  replace r_2 := r_2.step hs
                                  replace r_5 := r_5.step hs
                                  replace r_tv := r_tv.step hs
                                  replace r_q8 := r_q8.step hs
                                  replace o_q9 := o_q9.step hs
                                  replace o_qa := o_qa.step hs
                                  replace o_q2 := o_q2.step hs
                                  refine ⟨fun x => Stp I_uo w_un I_uo x ∧ OwnK [(g_df, [v_ts, (.int .i64 x_tj), (.int .i64 x_tk), (.int .i64 x_tl), (.int .i64 x_tm), (.int .i64 x_tn)], 44)] x, ⟨Stp.refl _ _, (OwnK.cons (hp.own 5 _ _ _ rfl).1 OwnK.nil)⟩, fun x hx => ⟨hz.held hx.1, hx.2⟩, ?_⟩
                                  have hz := Stp.refl I_uo w_un
                                  obtain rfl := Option.some.inj q_ty
                                  have hp := hp.perm [2, 3, 1, 4, 0, 5, 6, 7, 8, 9, 10] (by decide)
                                  exact ⟨(x_ul.run.nodes, x_ul.run.counters, x_ul.run.active, x_ul.done, x_ul.status, x_ul.ticks, (x_uk != x_tn), g_ur, v_ux, v_uy, e_uz, v_v0, e_v1, v_ut, e_uu, I_uo), (.c rfl (.c rfl (.c rfl (.c rfl (.c rfl (.c rfl (.c rfl .n))))))), rfl, hp, r_2, r_5, r_v2, o_v3, o_v4, o_uw, r_tv, r_q8, o_q9, o_qa, o_q2⟩
                        ·
                          rintro ⟨x_v5, x_v6, x_v7, x_v8, x_v9, x_va, x_vb, g_vc, v_vd, v_ve, e_vf, v_vg, e_vh, v_vi, e_vj, I_vk⟩ w_vl ⟨hy, hp, r_2, r_5, r_vm, o_vn, o_vo, o_vp, r_tv, r_q8, o_q9, o_qa, o_q2⟩
                          replace hy := hy.symm
                          subst hy
                          apply go
                          refine sel_of (fun hc => ?_) (fun hc => ?_)
                          ·
                            have q_ro := cond_t q_ro hc
                            apply go
                            apply go
                            apply go
                            obtain rfl := Option.some.inj q_ro
                            have q_vq := congrArg some (q_rm _ (Option.some.inj q_rl).symm)
                            obtain rfl := Option.some.inj q_vq
                            obtain rfl := Option.some.inj h
                            exact ⟨rfl, hp.ch⟩
                          ·
                            have q_ro := cond_f q_ro hc
                            apply go
                            apply go
                            apply go
                            obtain ⟨⟨x_vr, x_vs⟩, q_vt, q_ro⟩ := bind_some q_ro
                            refine ev_call rfl rfl C13 (((mission_Mission_Done_ok n) _ _  (Mission.mk (Runner.mk x_v5 x_v6 x_v7) x_v8 x_v9 x_va) g_ct [some (g_ct, [(.pointer (some ⟨g_vc, 0, none⟩)), v_vi, (.int .i64 x_v9), (.int .i64 x_va)], 59), some (g_vc, [v_vd, v_ve, v_vg], 70), e_vf, e_vh, e_vj] ⟨g_vc, [some (g_vc, [v_vd, v_ve, v_vg], 70), e_vf, e_vh], v_vi, e_vj, rfl, ⟨v_vd, v_ve, e_vf, v_vg, e_vh, rfl, r_vm, o_vn, o_vo⟩, o_vp⟩ (hp.lendL [4, 2, 0, 1, 3] (by decide)) _ q_vt).mono ?_)
                            rintro _ w_vu ⟨I_vv, v_vw, F_vx, hv, hq43558, r_vy, q_vz⟩
                            replace hv := hv.symm
                            subst hv
                            obtain ⟨g_w0, E_w1, v_w2, e_w3, rfl, q_w4, o_w5⟩ := q_vz
                            obtain ⟨v_w6, v_w7, e_w8, v_w9, e_wa, rfl, r_wb, o_wc, o_wd⟩ := q_w4
                            have hs := hq43558.st
                            have hp := hp.backL [4, 2, 0, 1, 3] [5, 6, 7, 8, 9, 10] (by decide) hq43558
                            replace r_2 := r_2.step hs
                            replace r_5 := r_5.step hs
                            replace r_tv := r_tv.step hs
                            replace r_q8 := r_q8.step hs
                            replace o_q9 := o_q9.step hs
                            replace o_qa := o_qa.step hs
                            replace o_q2 := o_q2.step hs
                            apply go
                            apply go
                            apply go
                            refine ev0 (rn_len rfl rfl Try.underlying39 r_vy) ?_
                            refine ev0 (rn_len rfl rfl Try.underlying22 r_2) ?_
                            apply go
                            refine sel_of (fun hc => ?_) (fun hc => ?_)
                            ·
                              have q_ro := cond_t q_ro hc
                              apply go
                              apply go
                              apply go
                              obtain rfl := Option.some.inj q_ro
                              have q_we := congrArg some (q_rm _ (Option.some.inj q_rl).symm)
                              obtain rfl := Option.some.inj q_we
                              obtain rfl := Option.some.inj h
                              exact ⟨rfl, hp.ch⟩
                            ·
                              have q_ro := cond_f q_ro hc
                              apply go
                              apply go
                              apply go
                              apply go
                              have hp := hp.perm [2, 3, 1, 4, 0, 5, 6, 7, 8, 9, 10] (by decide)
                              refine W.loop q_ro (γ := Unit) (fun s _ => [(0, v_1), (1, v_4), (5, (.pointer (some ⟨g_ct, 0, none⟩))), (7, (.pointer (some ⟨g_df, 0, none⟩))), (12, (.pointer (some ⟨g_pw, 0, none⟩))), (13, (.int .i64 x_r3)), (21, v_vw), (22, (.int .i64 (s)))]) (fun s _ w' => Hp ⟨w0, I0, []⟩ I_vv [e_w8, e_wa, some (g_w0, [v_w6, v_w7, v_w9], 70), e_w3, some (g_ct, [(.pointer (some ⟨g_w0, 0, none⟩)), v_w2, (.int .i64 x_vs.status), (.int .i64 x_vs.ticks)], 59), some (g_df, [v_ts, (.int .i64 x_tj), (.int .i64 x_tk), (.int .i64 x_tl), (.int .i64 x_tm), (.int .i64 x_tn)], 44), e_q5, e_q7, some (g_px, [v_q3, v_q4, v_q6], 70), e_q0, some (g_pw, [(.pointer (some ⟨g_px, 0, none⟩)), v_pz, (.int .i64 x_hy.status), (.int .i64 x_hy.ticks)], 59)] w' ∧ RepS dTask w' I_vv v_1 x_0 ∧ RepS (dSl (dI .i64)) w' I_vv v_4 x_3 ∧ RepS dNode_2 w' I_vv v_w6 x_vs.run.nodes ∧ OwnS (dI .i64) 3 w' I_vv v_w7 e_w8 x_vs.run.counters ∧ OwnS dB 4 w' I_vv v_w9 e_wa x_vs.run.active ∧ OwnS dB 4 w' I_vv v_w2 e_w3 x_vs.done ∧ RepS dTask w' I_vv v_ts x_ti ∧ RepS dNode_2 w' I_vv v_q3 x_hy.run.nodes ∧ OwnS (dI .i64) 3 w' I_vv v_q4 e_q5 x_hy.run.counters ∧ OwnS dB 4 w' I_vv v_q6 e_q7 x_hy.run.active ∧ OwnS dB 4 w' I_vv v_pz e_q0 x_hy.done ∧ RepS dB w' I_vv v_vw x_vr) () (.c rfl (.c rfl (.c rfl (.c rfl (.c rfl (.c rfl (.c rfl (.c rfl .n)))))))) ⟨hp, r_2, r_5, r_wb, o_wc, o_wd, o_w5, r_tv, r_q8, o_q9, o_qa, o_q2, r_vy⟩ ?_
                              rintro x_wf ⟨⟩ w_wg y_wh ⟨hp, r_2, r_5, r_wb, o_wc, o_wd, o_w5, r_tv, r_q8, o_q9, o_qa, o_q2, r_vy⟩ q_wi q_wj
                              unfold law42_MissionPlays_L55 at q_wi
                              apply go
                              apply go
                              apply go
                              refine ev0 (rn_len rfl rfl Try.underlying39 r_vy) ?_
                              apply go
                              refine sel_of (fun hc => ?_) (fun hc => ?_)
                              ·
                                have q_wi := cond_t q_wi hc
                                apply go
                                apply go
                                apply go
                                apply go
                                refine W.quiet (fun w' => Ch [] w_wg w') MX (by kernel_rfl) (Ch.drew [] w_wg) ?_
                                obtain ⟨x_wk, q_wl, q_wi⟩ := bind_some q_wi
                                refine evq_index rfl rfl rfl Try.underlying39 T4 r_vy q_wl ?_
                                intro p_wm c_wn d_wo a_wp
                                obtain rfl : c_wn = [(.bool x_wk)] := d_wo
                                refine evq (fun w' hw => rn_load rfl rfl (run_loadVar1 T4 ((a_wp.step (hp.stp hw)).2 0 _ rfl))) ?_
                                refine evq0 (rn_field rfl rfl FO44_1) ?_
                                refine evq (fun w' hw => rn_load rfl rfl (run_loadVar1 T3 ((hp.ext hw).cell (i := 5) (off := 1) rfl rfl))) ?_
                                refine evq0 (rn_neB rfl rfl rfl Try.underlying4) ?_
                                intro w_wq hc
                                have hs := hp.stp hc
                                replace hp := hp.ext hc
                                replace r_2 := r_2.step hs
                                replace r_5 := r_5.step hs
                                replace r_vy := r_vy.step hs
                                replace r_wb := r_wb.step hs
                                replace o_wc := o_wc.step hs
                                replace o_wd := o_wd.step hs
                                replace o_w5 := o_w5.step hs
                                replace r_tv := r_tv.step hs
                                replace r_q8 := r_q8.step hs
                                replace o_q9 := o_q9.step hs
                                replace o_qa := o_qa.step hs
                                replace o_q2 := o_q2.step hs
                                apply go
                                refine sel_of (fun hc => ?_) (fun hc => ?_)
                                ·
                                  have q_wi := cond_t q_wi hc
                                  apply go
                                  apply go
                                  apply go
                                  have q_wr := congrArg some (q_wj _ (Option.some.inj q_wi).symm)
                                  obtain rfl := Option.some.inj q_wr
                                  have q_ws := congrArg some (q_rm _ (Option.some.inj q_rl).symm)
                                  obtain rfl := Option.some.inj q_ws
                                  obtain rfl := Option.some.inj h
                                  exact ⟨rfl, hp.ch⟩
                                ·
                                  have q_wi := cond_f q_wi hc
                                  apply go
                                  apply go
                                  exact ⟨_, (Option.some.inj q_wi).symm, (), (.c rfl (.c rfl (.c rfl (.c rfl (.c rfl (.c rfl (.c rfl (.c rfl .n)))))))), ⟨hp, r_2, r_5, r_wb, o_wc, o_wd, o_w5, r_tv, r_q8, o_q9, o_qa, o_q2, r_vy⟩⟩
                              ·
                                have q_wi := cond_f q_wi hc
                                apply go
                                have q_wt := congrArg some (q_wj _ (Option.some.inj q_wi).symm)
                                obtain rfl := Option.some.inj q_wt
                                exact ⟨(x_vs.run.nodes, x_vs.run.counters, x_vs.run.active, x_vs.done, x_vs.status, x_vs.ticks, x_ti, x_tj, x_tk, x_tl, x_tm, x_tn, g_w0, v_w6, v_w7, e_w8, v_w9, e_wa, v_w2, e_w3, v_ts, I_vv), (.c rfl (.c rfl (.c rfl (.c rfl (.c rfl (.c rfl .n)))))), rfl, hp, r_2, r_5, r_wb, o_wc, o_wd, o_w5, r_tv, r_q8, o_q9, o_qa, o_q2⟩
                    ·
                      rintro ⟨x_wu, x_wv, x_ww, x_wx, x_wy, x_wz, x_x0, x_x1, x_x2, x_x3, x_x4, x_x5, g_x6, v_x7, v_x8, e_x9, v_xa, e_xb, v_xc, e_xd, v_xe, I_xf⟩ w_xg ⟨hy, hp, r_2, r_5, r_xh, o_xi, o_xj, o_xk, r_xl, r_q8, o_q9, o_qa, o_q2⟩
                      replace hy := hy.symm
                      subst hy
                      apply go
                      exact ⟨_, (Option.some.inj q_rl).symm, (g_x6, v_x7, v_x8, e_x9, v_xa, e_xb, v_xc, e_xd, v_xe, I_xf), (.c rfl (.c rfl (.c rfl (.c rfl (.c rfl (.c rfl .n)))))), ⟨hp, r_2, r_5, r_xh, o_xi, o_xj, o_xk, r_xl, r_q8, o_q9, o_qa, o_q2⟩⟩
                  ·
                    have q_rl := cond_f q_rl hc
                    apply go
                    have q_xm := congrArg some (q_rm _ (Option.some.inj q_rl).symm)
                    obtain rfl := Option.some.inj q_xm
                    have hp := hp.sel [6, 7, 8, 9, 10] (by decide)
                    exact ⟨I_rd, (.c rfl (.c rfl .n)), rfl, hp, r_2, r_q8, o_q9, o_qa, o_q2⟩
                ·
                  rintro I_xn w_xo ⟨hy, hp, r_2, r_q8, o_q9, o_qa, o_q2⟩
                  replace hy := hy.symm
                  subst hy
                  obtain ⟨y_xp, q_xq, h⟩ := bind_some h
                  refine W.cut (γ := (Bool × (Nat → Prop))) (fun g => [(4, (.bool (g.1)))]) (fun g w' => y_xp = (g.1) ∧ Hp ⟨w0, I0, []⟩ (g.2) [] w') ?_ ?_
                  ·
                    apply go
                    obtain ⟨⟨x_xr, x_xs⟩, q_xt, q_xq⟩ := bind_some q_xq
                    refine ev_call rfl rfl C14 (((mission_Mission_Ticks_ok n) _ _  (Mission.mk (Runner.mk x_hy.run.nodes x_hy.run.counters x_hy.run.active) x_hy.done x_hy.status x_hy.ticks) g_pw [some (g_pw, [(.pointer (some ⟨g_px, 0, none⟩)), v_pz, (.int .i64 x_hy.status), (.int .i64 x_hy.ticks)], 59), some (g_px, [v_q3, v_q4, v_q6], 70), e_q5, e_q7, e_q0] ⟨g_px, [some (g_px, [v_q3, v_q4, v_q6], 70), e_q5, e_q7], v_pz, e_q0, rfl, ⟨v_q3, v_q4, e_q5, v_q6, e_q7, rfl, r_q8, o_q9, o_qa⟩, o_q2⟩ (hp.lendL [4, 2, 0, 1, 3] (by decide)) _ q_xt).mono ?_)
                    rintro _ w_xu ⟨I_xv, F_xw, hv, hq43685, q_xx⟩
                    replace hv := hv.symm
                    subst hv
                    obtain ⟨g_xy, E_xz, v_y0, e_y1, rfl, q_y2, o_y3⟩ := q_xx
                    obtain ⟨v_y4, v_y5, e_y6, v_y7, e_y8, rfl, r_y9, o_ya, o_yb⟩ := q_y2
                    have hs := hq43685.st
                    have hp := hp.backL [4, 2, 0, 1, 3] [] (by decide) hq43685
                    replace r_2 := r_2.step hs
                    refine sel_of (fun hc => ?_) (fun hc => ?_)
                    ·
                      have q_xq := cond_t q_xq hc
                      obtain ⟨⟨x_yc, x_yd⟩, q_ye, q_xq⟩ := bind_some q_xq
                      refine ev_call rfl rfl C15 (((mission_Mission_Status_ok n) _ _  (Mission.mk (Runner.mk x_xs.run.nodes x_xs.run.counters x_xs.run.active) x_xs.done x_xs.status x_xs.ticks) g_pw [some (g_pw, [(.pointer (some ⟨g_xy, 0, none⟩)), v_y0, (.int .i64 x_xs.status), (.int .i64 x_xs.ticks)], 59), some (g_xy, [v_y4, v_y5, v_y7], 70), e_y6, e_y8, e_y1] ⟨g_xy, [some (g_xy, [v_y4, v_y5, v_y7], 70), e_y6, e_y8], v_y0, e_y1, rfl, ⟨v_y4, v_y5, e_y6, v_y7, e_y8, rfl, r_y9, o_ya, o_yb⟩, o_y3⟩ (hp.lendL [0, 1, 2, 3, 4] (by decide)) _ q_ye).mono ?_)
                      rintro _ w_yf ⟨I_yg, F_yh, hv, hq43707, q_yi⟩
                      replace hv := hv.symm
                      subst hv
                      obtain ⟨g_yj, E_yk, v_yl, e_ym, rfl, q_yn, o_yo⟩ := q_yi
                      obtain ⟨v_yp, v_yq, e_yr, v_ys, e_yt, rfl, r_yu, o_yv, o_yw⟩ := q_yn
                      have hs := hq43707.st
                      have hp := hp.backL [0, 1, 2, 3, 4] [] (by decide) hq43707
                      replace r_2 := r_2.step hs
                      refine sel_of (fun hc => ?_) (fun hc => ?_)
                      ·
                        have q_xq := cond_t q_xq hc
                        obtain ⟨⟨x_yx, x_yy⟩, q_yz, q_xq⟩ := bind_some q_xq
                        refine ev_call rfl rfl C13 (((mission_Mission_Done_ok n) _ _  (Mission.mk (Runner.mk x_yd.run.nodes x_yd.run.counters x_yd.run.active) x_yd.done x_yd.status x_yd.ticks) g_pw [some (g_pw, [(.pointer (some ⟨g_yj, 0, none⟩)), v_yl, (.int .i64 x_yd.status), (.int .i64 x_yd.ticks)], 59), some (g_yj, [v_yp, v_yq, v_ys], 70), e_yr, e_yt, e_ym] ⟨g_yj, [some (g_yj, [v_yp, v_yq, v_ys], 70), e_yr, e_yt], v_yl, e_ym, rfl, ⟨v_yp, v_yq, e_yr, v_ys, e_yt, rfl, r_yu, o_yv, o_yw⟩, o_yo⟩ (hp.lendL [0, 1, 2, 3, 4] (by decide)) _ q_yz).mono ?_)
                        rintro _ w_z0 ⟨I_z1, v_z2, F_z3, hv, hq43731, r_z4, q_z5⟩
                        replace hv := hv.symm
                        subst hv
                        obtain ⟨g_z6, E_z7, v_z8, e_z9, rfl, q_za, o_zb⟩ := q_z5
                        obtain ⟨v_zc, v_zd, e_ze, v_zf, e_zg, rfl, r_zh, o_zi, o_zj⟩ := q_za
                        have hs := hq43731.st
                        have hp := hp.backL [0, 1, 2, 3, 4] [] (by decide) hq43731
                        replace r_2 := r_2.step hs
                        refine ev0 (rn_len rfl rfl Try.underlying39 r_z4) ?_
                        refine ev0 (rn_len rfl rfl Try.underlying22 r_2) ?_
                        obtain rfl := Option.some.inj q_xq
                        have hp := hp.sel [] (by decide)
                        exact ⟨(((x_yx.length : Int) == (x_0.length : Int)), I_z1), (.c rfl .n), rfl, hp⟩
                      ·
                        have q_xq := cond_f q_xq hc
                        obtain rfl := Option.some.inj q_xq
                        have hp := hp.sel [] (by decide)
                        exact ⟨(false, I_yg), (.c rfl .n), rfl, hp⟩
                    ·
                      have q_xq := cond_f q_xq hc
                      obtain rfl := Option.some.inj q_xq
                      have hp := hp.sel [] (by decide)
                      exact ⟨(false, I_xv), (.c rfl .n), rfl, hp⟩
                  ·
                    rintro ⟨x_zk, I_zl⟩ w_zm ⟨hy, hp⟩
                    replace hy := hy.symm
                    subst hy
                    apply go
                    obtain rfl := Option.some.inj h
                    exact ⟨rfl, hp.ch⟩

end Go.Proofs.Ytkhmdpekfcahkaa
