/-
  Each function of the program computes the plain function of its name.
-/
import Derived.Test.YtkhmdpekfcahkaaFactsA
import Derived.Test.YtkhmdpekfcahkaaWalkA
namespace Go.Proofs.Ytkhmdpekfcahkaa
open Go Go.Proofs.Ytkhmdpekfcahkaa.Gw Go.RowKit
set_option linter.unusedVariables false
attribute [local irreducible] Ev EvQ EvS EvH
def law42_MissionEnds_S (f : (List Task) → (List (List Int)) → Option Bool) : Prop := ∀ (w0 : World) (I0 : Nat → Prop) (x_0 : (List Task)) (v_1 : Value) (r_2 : RepS dTask w0 I0 v_1 x_0) (x_3 : (List (List Int))) (v_4 : Value) (r_5 : RepS (dSl (dI .i64)) w0 I0 v_4 x_3) (hI : ∀ g, I0 g → g < w0.heap.size) (r : Bool), f x_0 x_3 = some r →
    Ret Try.prog 6 #[v_1, v_4] w0 fun v w1 => v = (.bool r) ∧ Ch [] w0 w1
theorem law42_MissionEnds_ok (n : Nat) : law42_MissionEnds_S (law42_MissionEnds n) := by
  intro w0 I0 x_0 v_1 r_2 x_3 v_4 r_5 hI r h
  unfold law42_MissionEnds at h
  refine enter Try.func6 rfl (Nat.le_of_ble_eq_true rfl) ?_
  have hp : Hp ⟨w0, I0, []⟩ I0 [] w0 := Hp.start hI
  apply go
  apply go
  apply go
  obtain ⟨y_6, q_7, h⟩ := bind_some h
  refine W.cut (γ := Bool) (fun g => [(0, v_1), (1, v_4), (25, (.bool (g)))]) (fun g w' => y_6 = (g) ∧ Hp ⟨w0, I0, []⟩ I0 [] w' ∧ RepS dTask w' I0 v_1 x_0 ∧ RepS (dSl (dI .i64)) w' I0 v_4 x_3) ?_ ?_
  ·
    apply go
    obtain ⟨x_8, q_9, q_7⟩ := bind_some q_7
    refine ev_call rfl rfl C8 (((law42_awake_ok n) _ _   hp.imm _ q_9).mono ?_)
    rintro _ w_a ⟨rfl, hc⟩
    have hs := hp.stp hc
    replace hp := hp.ext hc
    replace r_2 := r_2.step hs
    replace r_5 := r_5.step hs
    refine sel_of (fun hc => ?_) (fun hc => ?_)
    ·
      have q_7 := cond_t q_7 hc
      obtain rfl := Option.some.inj q_7
      exact ⟨true, (.c rfl (.c rfl (.c rfl .n))), rfl, hp, r_2, r_5⟩
    ·
      have q_7 := cond_f q_7 hc
      obtain ⟨x_b, q_c, q_7⟩ := bind_some q_7
      refine ev_call rfl rfl C9 (((law42_few_ok n) _ _  x_0 v_1 r_2 x_3 v_4 r_5 hp.imm _ q_c).mono ?_)
      rintro _ w_d ⟨rfl, hc⟩
      have hs := hp.stp hc
      replace hp := hp.ext hc
      replace r_2 := r_2.step hs
      replace r_5 := r_5.step hs
      obtain rfl := Option.some.inj q_7
      exact ⟨(!x_b), (.c rfl (.c rfl (.c rfl .n))), rfl, hp, r_2, r_5⟩
  ·
    rintro x_e w_f ⟨hy, hp, r_2, r_5⟩
    replace hy := hy.symm
    subst hy
    apply go
    refine sel_of (fun hc => ?_) (fun hc => ?_)
    ·
      have h := cond_t h hc
      apply go
      apply go
      obtain ⟨x_g, q_h, h⟩ := bind_some h
      refine ev_call rfl rfl C8 (((law42_awake_ok n) _ _   hp.imm _ q_h).mono ?_)
      rintro _ w_i ⟨rfl, hc⟩
      have hs := hp.stp hc
      replace hp := hp.ext hc
      apply go
      obtain rfl := Option.some.inj h
      exact ⟨rfl, hp.ch⟩
    ·
      have h := cond_f h hc
      apply go
      apply go
      apply go
      apply go
      apply go
      refine ev_litON (d := dTask) (xs := ([] : List Task)) (cs := []) hp rfl rfl Try.underlying22 T37 (by decide) (by decide) rfl rfl (Elems.nil _ _ _ _) ?_
      intro v_j e_k w_l hp hs o_m
      replace r_2 := r_2.step hs
      replace r_5 := r_5.step hs
      obtain ⟨x_n, q_o, h⟩ := bind_some h
      refine ev_append hp (i := 0) rfl rfl rfl rfl Try.underlying22 T37 rfl rfl o_m r_2 q_o ?_
      rintro v_p e_q w_r hp hs o_s
      replace r_5 := r_5.step hs
      obtain ⟨y_t, q_u, h⟩ := bind_some h
      refine W.cut (γ := (Int × (List Task) × Ent)) (fun g => [(1, v_4), (5, (.int .i64 (g.1))), (6, v_p)]) (fun g w' => y_t = ((g.1), (g.2.1)) ∧ Hp ⟨w0, I0, []⟩ I0 [(g.2.2)] w' ∧ RepS (dSl (dI .i64)) w' I0 v_4 x_3 ∧ OwnS dTask 37 w' I0 v_p (g.2.2) (g.2.1)) ?_ ?_
      ·
        apply go
        apply go
        apply go
        refine W.loop q_u (γ := Ent) (fun s g => [(1, v_4), (5, (.int .i64 (s.1))), (6, v_p), (7, (.int .i64 (s.2.2)))]) (fun s g w' => Hp ⟨w0, I0, []⟩ I0 [(g)] w' ∧ RepS (dSl (dI .i64)) w' I0 v_4 x_3 ∧ OwnS dTask 37 w' I0 v_p (g) (s.2.1)) e_q (.c rfl (.c rfl (.c rfl (.c rfl .n)))) ⟨hp, r_5, o_s⟩ ?_
        rintro ⟨x_v, x_w, x_x⟩ e_y w_z y_10 ⟨hp, r_5, o_11⟩ q_12 q_13
        unfold law42_MissionEnds_L1 at q_12
        apply go
        apply go
        apply go
        refine ev0 (x_lenO rfl rfl Try.underlying22 o_11) ?_
        apply go
        refine sel_of (fun hc => ?_) (fun hc => ?_)
        ·
          have q_12 := cond_t q_12 hc
          apply go
          apply go
          apply go
          apply go
          apply go
          obtain ⟨x_14, q_15, q_12⟩ := bind_some q_12
          refine ev_indexO rfl rfl rfl Try.underlying22 T37 o_11 q_15 ?_
          intro g_16 c_17 h_18 d_19 l_1a
          refine ev0 (rn_field rfl rfl FO37_2) ?_
          refine ev (rn_load rfl rfl (run_loadVar1 T3 (by rw [add_lit]; exact hp.cellE (i := 0) rfl h_18 (dTask_o d_19) (j := 3) rfl))) ?_
          obtain ⟨x_1b, q_1c, q_12⟩ := bind_some q_12
          refine ev_call rfl rfl C11 (((base_Mod_ok n) _ _  x_14.Limit 20 hp.imm _ q_1c).mono ?_)
          rintro _ w_1d ⟨rfl, hc⟩
          have hs := hp.stp hc
          replace hp := hp.ext hc
          replace r_5 := r_5.step hs
          replace o_11 := o_11.step hs
          obtain ⟨x_1e, q_1f, q_12⟩ := bind_some q_12
          refine ev_indexO rfl rfl rfl Try.underlying22 T37 o_11 q_1f ?_
          intro g_1g c_1h h_1i d_1j l_1k
          refine ev0 (rn_field rfl rfl FO37_2) ?_
          refine ev_store1 hp (i := 0) (off := x_x.toNat * 5 + 3) (congrArg some h_1i) rfl rfl rfl T3 rfl (by have h := (OwnS.putF (h_1i ▸ o_11) q_1f (j := 3) (u := (.int .i64 (IntKind.i64.wrap (1 + x_1b)))) (y' := (Task.mk x_1e.Kind x_1e.Cell (IntKind.i64.wrap (1 + x_1b)) x_1e.Tries)) (by decide) (by rw [dTask_o d_1j]; exact dTask_m (x := (Task.mk x_1e.Kind x_1e.Cell (IntKind.i64.wrap (1 + x_1b)) x_1e.Tries)))).1; exact h) ?_
          intro w_1l hp hs
          have o_1m := (OwnS.putF (h_1i ▸ o_11) q_1f (j := 3) (u := (.int .i64 (IntKind.i64.wrap (1 + x_1b)))) (y' := (Task.mk x_1e.Kind x_1e.Cell (IntKind.i64.wrap (1 + x_1b)) x_1e.Tries)) (by decide) (by rw [dTask_o d_1j]; exact dTask_m (x := (Task.mk x_1e.Kind x_1e.Cell (IntKind.i64.wrap (1 + x_1b)) x_1e.Tries)))).2.step hs
          replace r_5 := r_5.step hs
          apply go
          obtain ⟨x_1n, q_1o, q_12⟩ := bind_some q_12
          refine ev_indexO rfl rfl rfl Try.underlying22 T37 o_1m q_1o ?_
          intro g_1p c_1q h_1r d_1s l_1t
          refine ev0 (rn_field rfl rfl FO37_2) ?_
          refine ev (rn_load rfl rfl (run_loadVar1 T3 (by rw [add_lit]; exact hp.cellE (i := 0) rfl h_1r (dTask_o d_1s) (j := 3) rfl))) ?_
          apply go
          exact ⟨_, (Option.some.inj q_12).symm, some (g_1g, c_1h.set (x_x.toNat * 5 + 3) (.int .i64 (IntKind.i64.wrap (1 + x_1b))), 37), (.c rfl (.c rfl (.c rfl (.c rfl .n)))), ⟨hp, r_5, o_1m⟩⟩
        ·
          have q_12 := cond_f q_12 hc
          apply go
          have q_1u := congrArg some (q_13 _ (Option.some.inj q_12).symm)
          obtain rfl := Option.some.inj q_1u
          exact ⟨(x_v, x_w, e_y), (.c rfl (.c rfl (.c rfl .n))), rfl, hp, r_5, o_11⟩
      ·
        rintro ⟨x_1v, x_1w, e_1x⟩ w_1y ⟨hy, hp, r_5, o_1z⟩
        replace hy := hy.symm
        subst hy
        apply go
        apply go
        have r_20 := o_1z.frz hp (i := 0) rfl
        obtain ⟨hp, hs⟩ := freeze_hp hp (i := 0) rfl
        replace r_5 := r_5.step hs
        have hp := hp.sel [] (by decide)
        obtain ⟨⟨x_21, x_22⟩, q_23, h⟩ := bind_some h
        refine ev_call rfl rfl C10 (((mission_New_ok n) _ _  x_1w v_p r_20 hp.imm _ q_23).mono ?_)
        rintro _ w_24 ⟨I_25, v_26, F_27, hv, hq21468, q_28⟩
        replace hv := hv.symm
        subst hv
        rcases x_21 with _ | x_29
        ·
          obtain ⟨rfl, rfl⟩ := q_28
          have hs := hq21468.st
          have hp := hp.join0 hq21468
          replace r_5 := r_5.step hs
          apply go
          apply go
          apply go
          apply go
          refine sel_of (fun hc => ?_) (fun hc => ?_)
          ·
            have h := cond_t h hc
            apply go
            apply go
            refine ev0 (rn_eqNilP rfl rfl rfl Try.underlying26 (b := true) rfl) ?_
            apply go
            obtain rfl := Option.some.inj h
            exact ⟨rfl, hp.ch⟩
          ·
            have h := cond_f h hc
            apply go
            obtain ⟨y_2a, q_2b, h⟩ := bind_some h
            refine W.cut (γ := (Nat → Prop)) (fun g => [(5, (.int .i64 x_1v)), (8, (.pointer none))]) (fun g w' => y_2a = .go () ∧ Hp ⟨w0, I0, []⟩ (g) [] w') ?_ ?_
            ·
              apply go
              apply go
              apply go
              refine W.loop q_2b (γ := (Nat → Prop)) (fun s g => [(1, v_4), (5, (.int .i64 x_1v)), (8, (.pointer none)), (10, (.int .i64 (s)))]) (fun s g w' => Hp ⟨w0, I0, []⟩ (g) [] w' ∧ RepS (dSl (dI .i64)) w' (g) v_4 x_3) I_25 (.c rfl (.c rfl (.c rfl (.c rfl .n)))) ⟨hp, r_5⟩ ?_
              rintro x_2c I_2d w_2e y_2f ⟨hp, r_5⟩ q_2g q_2h
              unfold law42_MissionEnds_L3 at q_2g
              apply go
              apply go
              apply go
              refine ev0 (rn_max rfl rfl rfl) ?_
              apply go
              refine sel_of (fun hc => ?_) (fun hc => ?_)
              ·
                have q_2g := cond_t q_2g hc
                apply go
                apply go
                apply go
                apply go
                apply go
                obtain ⟨y_2i, q_2j, q_2g⟩ := bind_some q_2g
                refine W.cut (γ := ((List Int) × Value)) (fun g => [(1, v_4), (5, (.int .i64 x_1v)), (8, (.pointer none)), (10, (.int .i64 x_2c)), (11, (g.2))]) (fun g w' => y_2i = (g.1) ∧ w_2e = w' ∧ RepS (dI .i64) w' I_2d (g.2) (g.1)) ?_ ?_
                ·
                  apply go
                  apply go
                  refine ev0 (rn_len rfl rfl Try.underlying23 r_5) ?_
                  apply go
                  refine sel_of (fun hc => ?_) (fun hc => ?_)
                  ·
                    have q_2j := cond_t q_2j hc
                    apply go
                    refine ev0 (rn_len rfl rfl Try.underlying23 r_5) ?_
                    obtain ⟨q_2k, _, q_2j⟩ := need_some q_2j
                    refine ⟨q_2k, ?_⟩
                    obtain ⟨x_2l, q_2m, q_2j⟩ := bind_some q_2j
                    refine ev_index rfl rfl rfl Try.underlying23 T31 r_5 q_2m ?_
                    intro p_2n c_2o d_2p a_2q
                    obtain ⟨v_2r, rfl, r_2s⟩ := d_2p
                    refine ev (rn_load rfl rfl (run_loadVar1 T31 (a_2q.2 0 _ rfl))) ?_
                    obtain rfl := Option.some.inj q_2j
                    exact ⟨(x_2l, v_2r), (.c rfl (.c rfl (.c rfl (.c rfl (.c rfl .n))))), rfl, rfl, r_2s⟩
                  ·
                    have q_2j := cond_f q_2j hc
                    apply go
                    obtain rfl := Option.some.inj q_2j
                    exact ⟨([], (.slice none 0 0)), (.c rfl (.c rfl (.c rfl (.c rfl (.c rfl .n))))), rfl, rfl, RepS.nil _ _ _⟩
                ·
                  rintro ⟨x_2t, v_2u⟩ _ ⟨hy, rfl, r_2v⟩
                  replace hy := hy.symm
                  subst hy
                  apply go
                  apply go
                  obtain ⟨⟨x_2w, x_2x, x_2y⟩, q_2z, q_2g⟩ := bind_some q_2g
                  refine ev_call rfl rfl C12 (((mission_Mission_Ticknil_ok n) _ _  x_2t v_2u r_2v hp.imm _ q_2z).mono ?_)
                  rintro _ w_30 ⟨I_31, hv, hq⟩
                  replace hv := hv.symm
                  subst hv
                  have hs := hq.st
                  have hp := hp.join0 hq
                  replace r_5 := r_5.step hs
                  obtain ⟨y_32, q_33, q_2g⟩ := bind_some q_2g
                  refine W.cut (γ := (Bool × (Nat → Prop))) (fun g => [(1, v_4), (5, (.int .i64 x_1v)), (8, (.pointer none)), (10, (.int .i64 x_2c)), (96, (.bool (g.1)))]) (fun g w' => y_32 = (g.1) ∧ Hp ⟨w0, I0, []⟩ (g.2) [] w' ∧ RepS (dSl (dI .i64)) w' (g.2) v_4 x_3) ?_ ?_
                  ·
                    apply go
                    refine sel_of (fun hc => ?_) (fun hc => ?_)
                    ·
                      have q_33 := cond_t q_33 hc
                      refine sel_of (fun hc => ?_) (fun hc => ?_)
                      ·
                        have q_33 := cond_t q_33 hc
                        obtain rfl := Option.some.inj q_33
                        exact ⟨(true, I_31), (.c rfl (.c rfl (.c rfl (.c rfl (.c rfl .n))))), rfl, hp, r_5⟩
                      ·
                        have q_33 := cond_f q_33 hc
                        obtain ⟨x_34, q_35, q_33⟩ := bind_some q_33
                        refine ev_call rfl rfl C15 (((mission_Mission_Statusnil_ok n) _ _   hp.imm _ q_35).mono ?_)
                        rintro _ w_36 ⟨I_37, hv, hq⟩
                        replace hv := hv.symm
                        subst hv
                        have hs := hq.st
                        have hp := hp.join0 hq
                        replace r_5 := r_5.step hs
                        obtain rfl := Option.some.inj q_33
                        exact ⟨((x_34 == 1), I_37), (.c rfl (.c rfl (.c rfl (.c rfl (.c rfl .n))))), rfl, hp, r_5⟩
                    ·
                      have q_33 := cond_f q_33 hc
                      obtain rfl := Option.some.inj q_33
                      exact ⟨(false, I_31), (.c rfl (.c rfl (.c rfl (.c rfl (.c rfl .n))))), rfl, hp, r_5⟩
                  ·
                    rintro ⟨x_38, I_39⟩ w_3a ⟨hy, hp, r_5⟩
                    replace hy := hy.symm
                    subst hy
                    apply go
                    refine sel_of (fun hc => ?_) (fun hc => ?_)
                    ·
                      have q_2g := cond_t q_2g hc
                      apply go
                      apply go
                      apply go
                      have q_3b := congrArg some (q_2h _ (Option.some.inj q_2g).symm)
                      obtain rfl := Option.some.inj q_3b
                      obtain rfl := Option.some.inj h
                      exact ⟨rfl, hp.ch⟩
                    ·
                      have q_2g := cond_f q_2g hc
                      apply go
                      apply go
                      exact ⟨_, (Option.some.inj q_2g).symm, I_39, (.c rfl (.c rfl (.c rfl (.c rfl .n)))), ⟨hp, r_5⟩⟩
              ·
                have q_2g := cond_f q_2g hc
                apply go
                have q_3c := congrArg some (q_2h _ (Option.some.inj q_2g).symm)
                obtain rfl := Option.some.inj q_3c
                exact ⟨I_2d, (.c rfl (.c rfl .n)), rfl, hp⟩
            ·
              rintro I_3d w_3e ⟨hy, hp⟩
              replace hy := hy.symm
              subst hy
              apply go
              apply go
              obtain ⟨⟨x_3f, x_3g, x_3h⟩, q_3i, h⟩ := bind_some h
              refine ev_call rfl rfl C12 (((mission_Mission_Ticknil_ok n) _ _  [] (.slice none 0 0) (RepS.nil _ _ _) hp.imm _ q_3i).mono ?_)
              rintro _ w_3j ⟨I_3k, hv, hq⟩
              replace hv := hv.symm
              subst hv
              have hs := hq.st
              have hp := hp.join0 hq
              obtain ⟨y_3l, q_3m, h⟩ := bind_some h
              refine W.cut (γ := (Bool × (Nat → Prop))) (fun g => [(4, (.bool (g.1)))]) (fun g w' => y_3l = (g.1) ∧ Hp ⟨w0, I0, []⟩ (g.2) [] w') ?_ ?_
              ·
                apply go
                obtain ⟨x_3n, q_3o, q_3m⟩ := bind_some q_3m
                refine ev_call rfl rfl C15 (((mission_Mission_Statusnil_ok n) _ _   hp.imm _ q_3o).mono ?_)
                rintro _ w_3p ⟨I_3q, hv, hq⟩
                replace hv := hv.symm
                subst hv
                have hs := hq.st
                have hp := hp.join0 hq
                refine sel_of (fun hc => ?_) (fun hc => ?_)
                ·
                  have q_3m := cond_t q_3m hc
                  refine sel_of (fun hc => ?_) (fun hc => ?_)
                  ·
                    have q_3m := cond_t q_3m hc
                    obtain ⟨x_3r, q_3s, q_3m⟩ := bind_some q_3m
                    refine ev_call rfl rfl C14 (((mission_Mission_Ticksnil_ok n) _ _   hp.imm _ q_3s).mono ?_)
                    rintro _ w_3t ⟨I_3u, hv, hq⟩
                    replace hv := hv.symm
                    subst hv
                    have hs := hq.st
                    have hp := hp.join0 hq
                    refine ev0 (rn_max rfl rfl rfl) ?_
                    obtain rfl := Option.some.inj q_3m
                    exact ⟨((decide (x_3r ≤ (if 1 > x_1v then 1 else x_1v))), I_3u), (.c rfl .n), rfl, hp⟩
                  ·
                    have q_3m := cond_f q_3m hc
                    obtain rfl := Option.some.inj q_3m
                    exact ⟨(false, I_3q), (.c rfl .n), rfl, hp⟩
                ·
                  have q_3m := cond_f q_3m hc
                  obtain ⟨x_3v, q_3w, q_3m⟩ := bind_some q_3m
                  refine ev_call rfl rfl C15 (((mission_Mission_Statusnil_ok n) _ _   hp.imm _ q_3w).mono ?_)
                  rintro _ w_3x ⟨I_3y, hv, hq⟩
                  replace hv := hv.symm
                  subst hv
                  have hs := hq.st
                  have hp := hp.join0 hq
                  refine sel_of (fun hc => ?_) (fun hc => ?_)
                  ·
                    have q_3m := cond_t q_3m hc
                    refine sel_of (fun hc => ?_) (fun hc => ?_)
                    ·
                      have q_3m := cond_t q_3m hc
                      obtain ⟨x_3z, q_40, q_3m⟩ := bind_some q_3m
                      refine ev_call rfl rfl C14 (((mission_Mission_Ticksnil_ok n) _ _   hp.imm _ q_40).mono ?_)
                      rintro _ w_41 ⟨I_42, hv, hq⟩
                      replace hv := hv.symm
                      subst hv
                      have hs := hq.st
                      have hp := hp.join0 hq
                      refine ev0 (rn_max rfl rfl rfl) ?_
                      obtain rfl := Option.some.inj q_3m
                      exact ⟨((decide (x_3z ≤ (if 1 > x_1v then 1 else x_1v))), I_42), (.c rfl .n), rfl, hp⟩
                    ·
                      have q_3m := cond_f q_3m hc
                      obtain rfl := Option.some.inj q_3m
                      exact ⟨(false, I_3y), (.c rfl .n), rfl, hp⟩
                  ·
                    have q_3m := cond_f q_3m hc
                    obtain rfl := Option.some.inj q_3m
                    exact ⟨(false, I_3y), (.c rfl .n), rfl, hp⟩
              ·
                rintro ⟨x_43, I_44⟩ w_45 ⟨hy, hp⟩
                replace hy := hy.symm
                subst hy
                apply go
                obtain rfl := Option.some.inj h
                exact ⟨rfl, hp.ch⟩
        ·
          obtain ⟨g_46, rfl, g_47, E_48, v_49, e_4a, rfl, q_4b, o_4c⟩ := q_28
          obtain ⟨v_4d, v_4e, e_4f, v_4g, e_4h, rfl, r_4i, o_4j, o_4k⟩ := q_4b
          have hs := hq21468.st
          have hp := hp.join0 hq21468
          replace r_5 := r_5.step hs
          apply go
          apply go
          apply go
          apply go
          refine sel_of (fun hc => ?_) (fun hc => ?_)
          ·
            have h := cond_t h hc
            apply go
            apply go
            refine ev0 (rn_eqNilP rfl rfl rfl Try.underlying26 (b := false) rfl) ?_
            apply go
            obtain rfl := Option.some.inj h
            exact ⟨rfl, hp.ch⟩
          ·
            have h := cond_f h hc
            apply go
            obtain ⟨y_4l, q_4m, h⟩ := bind_some h
            refine W.cut (γ := ((List Node_2) × (List Int) × (List Bool) × (List Bool) × Int × Int × Nat × Value × Value × Ent × Value × Ent × Value × Ent × (Nat → Prop))) (fun g => [(5, (.int .i64 x_1v)), (8, (.pointer (some ⟨g_46, 0, none⟩)))]) (fun g w' => y_4l = .go ((g.1), (g.2.1), (g.2.2.1), (g.2.2.2.1), (g.2.2.2.2.1), (g.2.2.2.2.2.1)) ∧ Hp ⟨w0, I0, []⟩ (g.2.2.2.2.2.2.2.2.2.2.2.2.2.2) [(g.2.2.2.2.2.2.2.2.2.1), (g.2.2.2.2.2.2.2.2.2.2.2.1), some ((g.2.2.2.2.2.2.1), [(g.2.2.2.2.2.2.2.1), (g.2.2.2.2.2.2.2.2.1), (g.2.2.2.2.2.2.2.2.2.2.1)], 70), (g.2.2.2.2.2.2.2.2.2.2.2.2.2.1), some (g_46, [(.pointer (some ⟨(g.2.2.2.2.2.2.1), 0, none⟩)), (g.2.2.2.2.2.2.2.2.2.2.2.2.1), (.int .i64 (g.2.2.2.2.1)), (.int .i64 (g.2.2.2.2.2.1))], 59)] w' ∧ RepS dNode_2 w' (g.2.2.2.2.2.2.2.2.2.2.2.2.2.2) (g.2.2.2.2.2.2.2.1) (g.1) ∧ OwnS (dI .i64) 3 w' (g.2.2.2.2.2.2.2.2.2.2.2.2.2.2) (g.2.2.2.2.2.2.2.2.1) (g.2.2.2.2.2.2.2.2.2.1) (g.2.1) ∧ OwnS dB 4 w' (g.2.2.2.2.2.2.2.2.2.2.2.2.2.2) (g.2.2.2.2.2.2.2.2.2.2.1) (g.2.2.2.2.2.2.2.2.2.2.2.1) (g.2.2.1) ∧ OwnS dB 4 w' (g.2.2.2.2.2.2.2.2.2.2.2.2.2.2) (g.2.2.2.2.2.2.2.2.2.2.2.2.1) (g.2.2.2.2.2.2.2.2.2.2.2.2.2.1) (g.2.2.2.1)) ?_ ?_
            ·
              apply go
              apply go
              apply go
              have hp := hp.perm [2, 3, 1, 4, 0] (by decide)
              refine W.loop q_4m (γ := (Nat × Value × Value × Ent × Value × Ent × Value × Ent × (Nat → Prop))) (fun s g => [(1, v_4), (5, (.int .i64 x_1v)), (8, (.pointer (some ⟨g_46, 0, none⟩))), (10, (.int .i64 (s.2.2.2.2.2.2)))]) (fun s g w' => Hp ⟨w0, I0, []⟩ (g.2.2.2.2.2.2.2.2) [(g.2.2.2.1), (g.2.2.2.2.2.1), some ((g.1), [(g.2.1), (g.2.2.1), (g.2.2.2.2.1)], 70), (g.2.2.2.2.2.2.2.1), some (g_46, [(.pointer (some ⟨(g.1), 0, none⟩)), (g.2.2.2.2.2.2.1), (.int .i64 (s.2.2.2.2.1)), (.int .i64 (s.2.2.2.2.2.1))], 59)] w' ∧ RepS (dSl (dI .i64)) w' (g.2.2.2.2.2.2.2.2) v_4 x_3 ∧ RepS dNode_2 w' (g.2.2.2.2.2.2.2.2) (g.2.1) (s.1) ∧ OwnS (dI .i64) 3 w' (g.2.2.2.2.2.2.2.2) (g.2.2.1) (g.2.2.2.1) (s.2.1) ∧ OwnS dB 4 w' (g.2.2.2.2.2.2.2.2) (g.2.2.2.2.1) (g.2.2.2.2.2.1) (s.2.2.1) ∧ OwnS dB 4 w' (g.2.2.2.2.2.2.2.2) (g.2.2.2.2.2.2.1) (g.2.2.2.2.2.2.2.1) (s.2.2.2.1)) (g_47, v_4d, v_4e, e_4f, v_4g, e_4h, v_49, e_4a, I_25) (.c rfl (.c rfl (.c rfl (.c rfl .n)))) ⟨hp, r_5, r_4i, o_4j, o_4k, o_4c⟩ ?_
              rintro ⟨x_4n, x_4o, x_4p, x_4q, x_4r, x_4s, x_4t⟩ ⟨g_4u, v_4v, v_4w, e_4x, v_4y, e_4z, v_50, e_51, I_52⟩ w_53 y_54 ⟨hp, r_5, r_55, o_56, o_57, o_58⟩ q_59 q_5a
              unfold law42_MissionEnds_L5 at q_59
              apply go
              apply go
              apply go
              refine ev0 (rn_max rfl rfl rfl) ?_
              apply go
              refine sel_of (fun hc => ?_) (fun hc => ?_)
              ·
                have q_59 := cond_t q_59 hc
                apply go
                apply go
                apply go
                apply go
                apply go
                obtain ⟨y_5b, q_5c, q_59⟩ := bind_some q_59
                refine W.cut (γ := ((List Int) × Value)) (fun g => [(1, v_4), (5, (.int .i64 x_1v)), (8, (.pointer (some ⟨g_46, 0, none⟩))), (10, (.int .i64 x_4t)), (11, (g.2))]) (fun g w' => y_5b = (g.1) ∧ w_53 = w' ∧ RepS (dI .i64) w' I_52 (g.2) (g.1)) ?_ ?_
                ·
                  apply go
                  apply go
                  refine ev0 (rn_len rfl rfl Try.underlying23 r_5) ?_
                  apply go
                  refine sel_of (fun hc => ?_) (fun hc => ?_)
                  ·
                    have q_5c := cond_t q_5c hc
                    apply go
                    refine ev0 (rn_len rfl rfl Try.underlying23 r_5) ?_
                    obtain ⟨q_5d, _, q_5c⟩ := need_some q_5c
                    refine ⟨q_5d, ?_⟩
                    obtain ⟨x_5e, q_5f, q_5c⟩ := bind_some q_5c
                    refine ev_index rfl rfl rfl Try.underlying23 T31 r_5 q_5f ?_
                    intro p_5g c_5h d_5i a_5j
                    obtain ⟨v_5k, rfl, r_5l⟩ := d_5i
                    refine ev (rn_load rfl rfl (run_loadVar1 T31 (a_5j.2 0 _ rfl))) ?_
                    obtain rfl := Option.some.inj q_5c
                    exact ⟨(x_5e, v_5k), (.c rfl (.c rfl (.c rfl (.c rfl (.c rfl .n))))), rfl, rfl, r_5l⟩
                  ·
                    have q_5c := cond_f q_5c hc
                    apply go
                    obtain rfl := Option.some.inj q_5c
                    exact ⟨([], (.slice none 0 0)), (.c rfl (.c rfl (.c rfl (.c rfl (.c rfl .n))))), rfl, rfl, RepS.nil _ _ _⟩
                ·
                  rintro ⟨x_5m, v_5n⟩ _ ⟨hy, rfl, r_5o⟩
                  replace hy := hy.symm
                  subst hy
                  apply go
                  apply go
                  obtain ⟨⟨x_5p, x_5q, x_5r, x_5s⟩, q_5t, q_59⟩ := bind_some q_59
                  refine ev_call rfl rfl C12 (((mission_Mission_Tick_ok n) _ _  (Mission.mk (Runner.mk x_4n x_4o x_4p) x_4q x_4r x_4s) g_46 [some (g_46, [(.pointer (some ⟨g_4u, 0, none⟩)), v_50, (.int .i64 x_4r), (.int .i64 x_4s)], 59), some (g_4u, [v_4v, v_4w, v_4y], 70), e_4x, e_4z, e_51] ⟨g_4u, [some (g_4u, [v_4v, v_4w, v_4y], 70), e_4x, e_4z], v_50, e_51, rfl, ⟨v_4v, v_4w, e_4x, v_4y, e_4z, rfl, r_55, o_56, o_57⟩, o_58⟩ x_5m v_5n r_5o (hp.lendL [4, 2, 0, 1, 3] (by decide)) _ q_5t).mono ?_)
                  rintro _ w_5u ⟨I_5v, F_5w, hv, hq22518, q_5x⟩
                  replace hv := hv.symm
                  subst hv
                  obtain ⟨g_5y, E_5z, v_60, e_61, rfl, q_62, o_63⟩ := q_5x
                  obtain ⟨v_64, v_65, e_66, v_67, e_68, rfl, r_69, o_6a, o_6b⟩ := q_62
                  have hs := hq22518.st
                  have hp := hp.backL [4, 2, 0, 1, 3] [] (by decide) hq22518
                  replace r_5 := r_5.step hs
                  obtain ⟨y_6c, q_6d, q_59⟩ := bind_some q_59
                  refine W.cut (γ := ((List Node_2) × (List Int) × (List Bool) × (List Bool) × Int × Int × Bool × Nat × Value × Value × Ent × Value × Ent × Value × Ent × (Nat → Prop))) (fun g => [(1, v_4), (5, (.int .i64 x_1v)), (8, (.pointer (some ⟨g_46, 0, none⟩))), (10, (.int .i64 x_4t)), (96, (.bool (g.2.2.2.2.2.2.1)))]) (fun g w' => y_6c = ((g.1), (g.2.1), (g.2.2.1), (g.2.2.2.1), (g.2.2.2.2.1), (g.2.2.2.2.2.1), (g.2.2.2.2.2.2.1)) ∧ Hp ⟨w0, I0, []⟩ (g.2.2.2.2.2.2.2.2.2.2.2.2.2.2.2) [(g.2.2.2.2.2.2.2.2.2.2.1), (g.2.2.2.2.2.2.2.2.2.2.2.2.1), some ((g.2.2.2.2.2.2.2.1), [(g.2.2.2.2.2.2.2.2.1), (g.2.2.2.2.2.2.2.2.2.1), (g.2.2.2.2.2.2.2.2.2.2.2.1)], 70), (g.2.2.2.2.2.2.2.2.2.2.2.2.2.2.1), some (g_46, [(.pointer (some ⟨(g.2.2.2.2.2.2.2.1), 0, none⟩)), (g.2.2.2.2.2.2.2.2.2.2.2.2.2.1), (.int .i64 (g.2.2.2.2.1)), (.int .i64 (g.2.2.2.2.2.1))], 59)] w' ∧ RepS (dSl (dI .i64)) w' (g.2.2.2.2.2.2.2.2.2.2.2.2.2.2.2) v_4 x_3 ∧ RepS dNode_2 w' (g.2.2.2.2.2.2.2.2.2.2.2.2.2.2.2) (g.2.2.2.2.2.2.2.2.1) (g.1) ∧ OwnS (dI .i64) 3 w' (g.2.2.2.2.2.2.2.2.2.2.2.2.2.2.2) (g.2.2.2.2.2.2.2.2.2.1) (g.2.2.2.2.2.2.2.2.2.2.1) (g.2.1) ∧ OwnS dB 4 w' (g.2.2.2.2.2.2.2.2.2.2.2.2.2.2.2) (g.2.2.2.2.2.2.2.2.2.2.2.1) (g.2.2.2.2.2.2.2.2.2.2.2.2.1) (g.2.2.1) ∧ OwnS dB 4 w' (g.2.2.2.2.2.2.2.2.2.2.2.2.2.2.2) (g.2.2.2.2.2.2.2.2.2.2.2.2.2.1) (g.2.2.2.2.2.2.2.2.2.2.2.2.2.2.1) (g.2.2.2.1)) ?_ ?_
                  ·
                    apply go
                    refine sel_of (fun hc => ?_) (fun hc => ?_)
                    ·
                      have q_6d := cond_t q_6d hc
                      refine sel_of (fun hc => ?_) (fun hc => ?_)
                      ·
                        have q_6d := cond_t q_6d hc
                        obtain rfl := Option.some.inj q_6d
                        have hp := hp.perm [2, 3, 1, 4, 0] (by decide)
                        exact ⟨(x_5s.run.nodes, x_5s.run.counters, x_5s.run.active, x_5s.done, x_5s.status, x_5s.ticks, true, g_5y, v_64, v_65, e_66, v_67, e_68, v_60, e_61, I_5v), (.c rfl (.c rfl (.c rfl (.c rfl (.c rfl .n))))), rfl, hp, r_5, r_69, o_6a, o_6b, o_63⟩
                      ·
                        have q_6d := cond_f q_6d hc
                        obtain ⟨⟨x_6e, x_6f⟩, q_6g, q_6d⟩ := bind_some q_6d
                        refine ev_call rfl rfl C15 (((mission_Mission_Status_ok n) _ _  (Mission.mk (Runner.mk x_5s.run.nodes x_5s.run.counters x_5s.run.active) x_5s.done x_5s.status x_5s.ticks) g_46 [some (g_46, [(.pointer (some ⟨g_5y, 0, none⟩)), v_60, (.int .i64 x_5s.status), (.int .i64 x_5s.ticks)], 59), some (g_5y, [v_64, v_65, v_67], 70), e_66, e_68, e_61] ⟨g_5y, [some (g_5y, [v_64, v_65, v_67], 70), e_66, e_68], v_60, e_61, rfl, ⟨v_64, v_65, e_66, v_67, e_68, rfl, r_69, o_6a, o_6b⟩, o_63⟩ (hp.lendL [0, 1, 2, 3, 4] (by decide)) _ q_6g).mono ?_)
                        rintro _ w_6h ⟨I_6i, F_6j, hv, hq22585, q_6k⟩
                        replace hv := hv.symm
                        subst hv
                        obtain ⟨g_6l, E_6m, v_6n, e_6o, rfl, q_6p, o_6q⟩ := q_6k
                        obtain ⟨v_6r, v_6s, e_6t, v_6u, e_6v, rfl, r_6w, o_6x, o_6y⟩ := q_6p
                        have hs := hq22585.st
                        have hp := hp.backL [0, 1, 2, 3, 4] [] (by decide) hq22585
                        replace r_5 := r_5.step hs
                        obtain rfl := Option.some.inj q_6d
                        have hp := hp.perm [2, 3, 1, 4, 0] (by decide)
                        exact ⟨(x_6f.run.nodes, x_6f.run.counters, x_6f.run.active, x_6f.done, x_6f.status, x_6f.ticks, (x_6e == 1), g_6l, v_6r, v_6s, e_6t, v_6u, e_6v, v_6n, e_6o, I_6i), (.c rfl (.c rfl (.c rfl (.c rfl (.c rfl .n))))), rfl, hp, r_5, r_6w, o_6x, o_6y, o_6q⟩
                    ·
                      have q_6d := cond_f q_6d hc
                      obtain rfl := Option.some.inj q_6d
                      have hp := hp.perm [2, 3, 1, 4, 0] (by decide)
                      exact ⟨(x_5s.run.nodes, x_5s.run.counters, x_5s.run.active, x_5s.done, x_5s.status, x_5s.ticks, false, g_5y, v_64, v_65, e_66, v_67, e_68, v_60, e_61, I_5v), (.c rfl (.c rfl (.c rfl (.c rfl (.c rfl .n))))), rfl, hp, r_5, r_69, o_6a, o_6b, o_63⟩
                  ·
                    rintro ⟨x_6z, x_70, x_71, x_72, x_73, x_74, x_75, g_76, v_77, v_78, e_79, v_7a, e_7b, v_7c, e_7d, I_7e⟩ w_7f ⟨hy, hp, r_5, r_7g, o_7h, o_7i, o_7j⟩
                    replace hy := hy.symm
                    subst hy
                    apply go
                    refine sel_of (fun hc => ?_) (fun hc => ?_)
                    ·
                      have q_59 := cond_t q_59 hc
                      apply go
                      apply go
                      apply go
                      have q_7k := congrArg some (q_5a _ (Option.some.inj q_59).symm)
                      obtain rfl := Option.some.inj q_7k
                      obtain rfl := Option.some.inj h
                      exact ⟨rfl, hp.ch⟩
                    ·
                      have q_59 := cond_f q_59 hc
                      apply go
                      apply go
                      exact ⟨_, (Option.some.inj q_59).symm, (g_76, v_77, v_78, e_79, v_7a, e_7b, v_7c, e_7d, I_7e), (.c rfl (.c rfl (.c rfl (.c rfl .n)))), ⟨hp, r_5, r_7g, o_7h, o_7i, o_7j⟩⟩
              ·
                have q_59 := cond_f q_59 hc
                apply go
                have q_7l := congrArg some (q_5a _ (Option.some.inj q_59).symm)
                obtain rfl := Option.some.inj q_7l
                exact ⟨(x_4n, x_4o, x_4p, x_4q, x_4r, x_4s, g_4u, v_4v, v_4w, e_4x, v_4y, e_4z, v_50, e_51, I_52), (.c rfl (.c rfl .n)), rfl, hp, r_55, o_56, o_57, o_58⟩
            ·
              rintro ⟨x_7m, x_7n, x_7o, x_7p, x_7q, x_7r, g_7s, v_7t, v_7u, e_7v, v_7w, e_7x, v_7y, e_7z, I_80⟩ w_81 ⟨hy, hp, r_82, o_83, o_84, o_85⟩
              replace hy := hy.symm
              subst hy
              apply go
              apply go
              obtain ⟨⟨x_86, x_87, x_88, x_89⟩, q_8a, h⟩ := bind_some h
              refine ev_call rfl rfl C12 (((mission_Mission_Tick_ok n) _ _  (Mission.mk (Runner.mk x_7m x_7n x_7o) x_7p x_7q x_7r) g_46 [some (g_46, [(.pointer (some ⟨g_7s, 0, none⟩)), v_7y, (.int .i64 x_7q), (.int .i64 x_7r)], 59), some (g_7s, [v_7t, v_7u, v_7w], 70), e_7v, e_7x, e_7z] ⟨g_7s, [some (g_7s, [v_7t, v_7u, v_7w], 70), e_7v, e_7x], v_7y, e_7z, rfl, ⟨v_7t, v_7u, e_7v, v_7w, e_7x, rfl, r_82, o_83, o_84⟩, o_85⟩ [] (.slice none 0 0) (RepS.nil _ _ _) (hp.lendL [4, 2, 0, 1, 3] (by decide)) _ q_8a).mono ?_)
              rintro _ w_8b ⟨I_8c, F_8d, hv, hq22611, q_8e⟩
              replace hv := hv.symm
              subst hv
              obtain ⟨g_8f, E_8g, v_8h, e_8i, rfl, q_8j, o_8k⟩ := q_8e
              obtain ⟨v_8l, v_8m, e_8n, v_8o, e_8p, rfl, r_8q, o_8r, o_8s⟩ := q_8j
              have hs := hq22611.st
              have hp := hp.backL [4, 2, 0, 1, 3] [] (by decide) hq22611
              obtain ⟨y_8t, q_8u, h⟩ := bind_some h
              refine W.cut (γ := (Bool × (Nat → Prop))) (fun g => [(4, (.bool (g.1)))]) (fun g w' => y_8t = (g.1) ∧ Hp ⟨w0, I0, []⟩ (g.2) [] w') ?_ ?_
              ·
                apply go
                obtain ⟨⟨x_8v, x_8w⟩, q_8x, q_8u⟩ := bind_some q_8u
                refine ev_call rfl rfl C15 (((mission_Mission_Status_ok n) _ _  (Mission.mk (Runner.mk x_89.run.nodes x_89.run.counters x_89.run.active) x_89.done x_89.status x_89.ticks) g_46 [some (g_46, [(.pointer (some ⟨g_8f, 0, none⟩)), v_8h, (.int .i64 x_89.status), (.int .i64 x_89.ticks)], 59), some (g_8f, [v_8l, v_8m, v_8o], 70), e_8n, e_8p, e_8i] ⟨g_8f, [some (g_8f, [v_8l, v_8m, v_8o], 70), e_8n, e_8p], v_8h, e_8i, rfl, ⟨v_8l, v_8m, e_8n, v_8o, e_8p, rfl, r_8q, o_8r, o_8s⟩, o_8k⟩ (hp.lendL [0, 1, 2, 3, 4] (by decide)) _ q_8x).mono ?_)
                rintro _ w_8y ⟨I_8z, F_90, hv, hq22726, q_91⟩
                replace hv := hv.symm
                subst hv
                obtain ⟨g_92, E_93, v_94, e_95, rfl, q_96, o_97⟩ := q_91
                obtain ⟨v_98, v_99, e_9a, v_9b, e_9c, rfl, r_9d, o_9e, o_9f⟩ := q_96
                have hs := hq22726.st
                have hp := hp.backL [0, 1, 2, 3, 4] [] (by decide) hq22726
                refine sel_of (fun hc => ?_) (fun hc => ?_)
                ·
                  have q_8u := cond_t q_8u hc
                  refine sel_of (fun hc => ?_) (fun hc => ?_)
                  ·
                    have q_8u := cond_t q_8u hc
                    obtain ⟨⟨x_9g, x_9h⟩, q_9i, q_8u⟩ := bind_some q_8u
                    refine ev_call rfl rfl C14 (((mission_Mission_Ticks_ok n) _ _  (Mission.mk (Runner.mk x_8w.run.nodes x_8w.run.counters x_8w.run.active) x_8w.done x_8w.status x_8w.ticks) g_46 [some (g_46, [(.pointer (some ⟨g_92, 0, none⟩)), v_94, (.int .i64 x_8w.status), (.int .i64 x_8w.ticks)], 59), some (g_92, [v_98, v_99, v_9b], 70), e_9a, e_9c, e_95] ⟨g_92, [some (g_92, [v_98, v_99, v_9b], 70), e_9a, e_9c], v_94, e_95, rfl, ⟨v_98, v_99, e_9a, v_9b, e_9c, rfl, r_9d, o_9e, o_9f⟩, o_97⟩ (hp.lendL [0, 1, 2, 3, 4] (by decide)) _ q_9i).mono ?_)
                    rintro _ w_9j ⟨I_9k, F_9l, hv, hq22748, q_9m⟩
                    replace hv := hv.symm
                    subst hv
                    obtain ⟨g_9n, E_9o, v_9p, e_9q, rfl, q_9r, o_9s⟩ := q_9m
                    obtain ⟨v_9t, v_9u, e_9v, v_9w, e_9x, rfl, r_9y, o_9z, o_a0⟩ := q_9r
                    have hs := hq22748.st
                    have hp := hp.backL [0, 1, 2, 3, 4] [] (by decide) hq22748
                    refine ev0 (rn_max rfl rfl rfl) ?_
                    obtain rfl := Option.some.inj q_8u
                    have hp := hp.sel [] (by decide)
                    exact ⟨((decide (x_9g ≤ (if 1 > x_1v then 1 else x_1v))), I_9k), (.c rfl .n), rfl, hp⟩
                  ·
                    have q_8u := cond_f q_8u hc
                    obtain rfl := Option.some.inj q_8u
                    have hp := hp.sel [] (by decide)
                    exact ⟨(false, I_8z), (.c rfl .n), rfl, hp⟩
                ·
                  have q_8u := cond_f q_8u hc
                  obtain ⟨⟨x_a1, x_a2⟩, q_a3, q_8u⟩ := bind_some q_8u
                  refine ev_call rfl rfl C15 (((mission_Mission_Status_ok n) _ _  (Mission.mk (Runner.mk x_8w.run.nodes x_8w.run.counters x_8w.run.active) x_8w.done x_8w.status x_8w.ticks) g_46 [some (g_46, [(.pointer (some ⟨g_92, 0, none⟩)), v_94, (.int .i64 x_8w.status), (.int .i64 x_8w.ticks)], 59), some (g_92, [v_98, v_99, v_9b], 70), e_9a, e_9c, e_95] ⟨g_92, [some (g_92, [v_98, v_99, v_9b], 70), e_9a, e_9c], v_94, e_95, rfl, ⟨v_98, v_99, e_9a, v_9b, e_9c, rfl, r_9d, o_9e, o_9f⟩, o_97⟩ (hp.lendL [0, 1, 2, 3, 4] (by decide)) _ q_a3).mono ?_)
                  rintro _ w_a4 ⟨I_a5, F_a6, hv, hq22770, q_a7⟩
                  replace hv := hv.symm
                  subst hv
                  obtain ⟨g_a8, E_a9, v_aa, e_ab, rfl, q_ac, o_ad⟩ := q_a7
                  obtain ⟨v_ae, v_af, e_ag, v_ah, e_ai, rfl, r_aj, o_ak, o_al⟩ := q_ac
                  have hs := hq22770.st
                  have hp := hp.backL [0, 1, 2, 3, 4] [] (by decide) hq22770
                  refine sel_of (fun hc => ?_) (fun hc => ?_)
                  ·
                    have q_8u := cond_t q_8u hc
                    refine sel_of (fun hc => ?_) (fun hc => ?_)
                    ·
                      have q_8u := cond_t q_8u hc
                      obtain ⟨⟨x_am, x_an⟩, q_ao, q_8u⟩ := bind_some q_8u
                      refine ev_call rfl rfl C14 (((mission_Mission_Ticks_ok n) _ _  (Mission.mk (Runner.mk x_a2.run.nodes x_a2.run.counters x_a2.run.active) x_a2.done x_a2.status x_a2.ticks) g_46 [some (g_46, [(.pointer (some ⟨g_a8, 0, none⟩)), v_aa, (.int .i64 x_a2.status), (.int .i64 x_a2.ticks)], 59), some (g_a8, [v_ae, v_af, v_ah], 70), e_ag, e_ai, e_ab] ⟨g_a8, [some (g_a8, [v_ae, v_af, v_ah], 70), e_ag, e_ai], v_aa, e_ab, rfl, ⟨v_ae, v_af, e_ag, v_ah, e_ai, rfl, r_aj, o_ak, o_al⟩, o_ad⟩ (hp.lendL [0, 1, 2, 3, 4] (by decide)) _ q_ao).mono ?_)
                      rintro _ w_ap ⟨I_aq, F_ar, hv, hq22792, q_as⟩
                      replace hv := hv.symm
                      subst hv
                      obtain ⟨g_at, E_au, v_av, e_aw, rfl, q_ax, o_ay⟩ := q_as
                      obtain ⟨v_az, v_b0, e_b1, v_b2, e_b3, rfl, r_b4, o_b5, o_b6⟩ := q_ax
                      have hs := hq22792.st
                      have hp := hp.backL [0, 1, 2, 3, 4] [] (by decide) hq22792
                      refine ev0 (rn_max rfl rfl rfl) ?_
                      obtain rfl := Option.some.inj q_8u
                      have hp := hp.sel [] (by decide)
                      exact ⟨((decide (x_am ≤ (if 1 > x_1v then 1 else x_1v))), I_aq), (.c rfl .n), rfl, hp⟩
                    ·
                      have q_8u := cond_f q_8u hc
                      obtain rfl := Option.some.inj q_8u
                      have hp := hp.sel [] (by decide)
                      exact ⟨(false, I_a5), (.c rfl .n), rfl, hp⟩
                  ·
                    have q_8u := cond_f q_8u hc
                    obtain rfl := Option.some.inj q_8u
                    have hp := hp.sel [] (by decide)
                    exact ⟨(false, I_a5), (.c rfl .n), rfl, hp⟩
              ·
                rintro ⟨x_b7, I_b8⟩ w_b9 ⟨hy, hp⟩
                replace hy := hy.symm
                subst hy
                apply go
                obtain rfl := Option.some.inj h
                exact ⟨rfl, hp.ch⟩

end Go.Proofs.Ytkhmdpekfcahkaa
