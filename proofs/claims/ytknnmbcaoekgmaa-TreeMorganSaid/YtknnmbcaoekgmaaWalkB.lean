/-
  Each function of the program computes the plain function of its name.
-/
import Derived.Test.YtknnmbcaoekgmaaFactsA
import Derived.Test.YtknnmbcaoekgmaaWalkA
namespace Go.Proofs.Ytknnmbcaoekgmaa
open Go Go.Proofs.Ytknnmbcaoekgmaa.Gw Go.RowKit
set_option linter.unusedVariables false
attribute [local irreducible] Ev EvQ EvS EvH
def law41_TreeMorgan_S (f : (List Node) → (List Input) → Bool → Option Bool) : Prop := ∀ (w0 : World) (I0 : Nat → Prop) (x_0 : (List Node)) (v_1 : Value) (r_2 : RepS dNode w0 I0 v_1 x_0) (x_3 : (List Input)) (v_4 : Value) (r_5 : RepS dInput w0 I0 v_4 x_3) (x_6 : Bool) (hI : ∀ g, I0 g → g < w0.heap.size) (r : Bool), f x_0 x_3 x_6 = some r →
    Ret Try.prog 5 #[v_1, v_4, (.bool x_6)] w0 fun v w1 => v = (.bool r) ∧ Ch [] w0 w1
set_option maxHeartbeats 6400000 in
theorem law41_TreeMorgan_ok (n : Nat) : law41_TreeMorgan_S (law41_TreeMorgan n) := by
  intro w0 I0 x_0 v_1 r_2 x_3 v_4 r_5 x_6 hI r h
  unfold law41_TreeMorgan at h
  refine enter Try.func5 rfl (Nat.le_of_ble_eq_true rfl) ?_
  have hp : Hp ⟨w0, I0, []⟩ I0 [] w0 := Hp.start hI
  apply go
  apply go
  apply go
  apply go
  obtain ⟨y_7, q_8, h⟩ := bind_some h
  refine W.cut (γ := Int) (fun g => [(0, v_1), (1, v_4), (2, (.bool x_6)), (7, (.int .i64 (g)))]) (fun g w' => y_7 = (g) ∧ Hp ⟨w0, I0, []⟩ I0 [] w' ∧ RepS dNode w' I0 v_1 x_0 ∧ RepS dInput w' I0 v_4 x_3) ?_ ?_
  ·
    apply go
    apply go
    apply go
    refine W.loop q_8 (γ := Unit) (fun s _ => [(0, v_1), (1, v_4), (2, (.bool x_6)), (7, (.int .i64 (s.1))), (8, (.int .i64 (s.2)))]) (fun s _ w' => Hp ⟨w0, I0, []⟩ I0 [] w' ∧ RepS dNode w' I0 v_1 x_0 ∧ RepS dInput w' I0 v_4 x_3) () (.c rfl (.c rfl (.c rfl (.c rfl (.c rfl .n))))) ⟨hp, r_2, r_5⟩ ?_
    rintro ⟨x_9, x_a⟩ ⟨⟩ w_b y_c ⟨hp, r_2, r_5⟩ q_d q_e
    unfold law41_TreeMorgan_L1 at q_d
    apply go
    obtain ⟨y_f, q_g, q_d⟩ := bind_some q_d
    refine W.cut (γ := Bool) (fun g => [(0, v_1), (1, v_4), (2, (.bool x_6)), (7, (.int .i64 x_9)), (8, (.int .i64 x_a)), (29, (.bool (g)))]) (fun g w' => y_f = (g) ∧ w_b = w') ?_ ?_
    ·
      apply go
      refine ev0 (rn_len rfl rfl Try.underlying22 r_2) ?_
      refine sel_of (fun hc => ?_) (fun hc => ?_)
      ·
        have q_g := cond_t q_g hc
        obtain rfl := Option.some.inj q_g
        exact ⟨(decide (x_9 ≤ 64)), (.c rfl (.c rfl (.c rfl (.c rfl (.c rfl (.c rfl .n)))))), rfl, rfl⟩
      ·
        have q_g := cond_f q_g hc
        obtain rfl := Option.some.inj q_g
        exact ⟨false, (.c rfl (.c rfl (.c rfl (.c rfl (.c rfl (.c rfl .n)))))), rfl, rfl⟩
    ·
      rintro x_h _ ⟨hy, rfl⟩
      replace hy := hy.symm
      subst hy
      apply go
      refine sel_of (fun hc => ?_) (fun hc => ?_)
      ·
        have q_d := cond_t q_d hc
        apply go
        apply go
        apply go
        apply go
        obtain ⟨x_i, q_j, q_d⟩ := bind_some q_d
        refine ev_index rfl rfl rfl Try.underlying22 T24 r_2 q_j ?_
        intro p_k c_l d_m a_n
        obtain ⟨v_o, rfl, r_p⟩ := dNode_o d_m
        refine ev (rn_load rfl rfl (run_loadVarA T24 rfl a_n)) ?_
        obtain ⟨x_q, q_r, q_d⟩ := bind_some q_d
        refine ev_call rfl rfl C11 (((ref41_Size_ok n) _ _  (Node.mk x_i.Kind x_i.Name x_i.Count x_i.Kids) v_o r_p hp.imm _ q_r).mono ?_)
        rintro _ w_s ⟨rfl, hc⟩
        have hs := hp.stp hc
        replace hp := hp.ext hc
        replace r_2 := r_2.step hs
        replace r_5 := r_5.step hs
        apply go
        exact ⟨_, (Option.some.inj q_d).symm, (), (.c rfl (.c rfl (.c rfl (.c rfl (.c rfl .n))))), ⟨hp, r_2, r_5⟩⟩
      ·
        have q_d := cond_f q_d hc
        apply go
        have q_t := congrArg some (q_e _ (Option.some.inj q_d).symm)
        obtain rfl := Option.some.inj q_t
        exact ⟨x_9, (.c rfl (.c rfl (.c rfl (.c rfl .n)))), rfl, hp, r_2, r_5⟩
  ·
    rintro x_u w_v ⟨hy, hp, r_2, r_5⟩
    replace hy := hy.symm
    subst hy
    apply go
    obtain ⟨y_w, q_x, h⟩ := bind_some h
    refine W.cut (γ := Bool) (fun g => [(0, v_1), (1, v_4), (2, (.bool x_6)), (50, (.bool (g)))]) (fun g w' => y_w = (g) ∧ Hp ⟨w0, I0, []⟩ I0 [] w' ∧ RepS dNode w' I0 v_1 x_0 ∧ RepS dInput w' I0 v_4 x_3) ?_ ?_
    ·
      apply go
      obtain ⟨x_y, q_z, q_x⟩ := bind_some q_x
      refine ev_call rfl rfl C9 (((law41_awake_ok n) _ _   hp.imm _ q_z).mono ?_)
      rintro _ w_10 ⟨rfl, hc⟩
      have hs := hp.stp hc
      replace hp := hp.ext hc
      replace r_2 := r_2.step hs
      replace r_5 := r_5.step hs
      refine sel_of (fun hc => ?_) (fun hc => ?_)
      ·
        have q_x := cond_t q_x hc
        obtain rfl := Option.some.inj q_x
        exact ⟨true, (.c rfl (.c rfl (.c rfl (.c rfl .n)))), rfl, hp, r_2, r_5⟩
      ·
        have q_x := cond_f q_x hc
        refine sel_of (fun hc => ?_) (fun hc => ?_)
        ·
          have q_x := cond_t q_x hc
          obtain rfl := Option.some.inj q_x
          exact ⟨true, (.c rfl (.c rfl (.c rfl (.c rfl .n)))), rfl, hp, r_2, r_5⟩
        ·
          have q_x := cond_f q_x hc
          obtain ⟨x_11, q_12, q_x⟩ := bind_some q_x
          refine ev_call rfl rfl C16 (((law41_short_ok n) _ _  x_3 v_4 r_5 hp.imm _ q_12).mono ?_)
          rintro _ w_13 ⟨rfl, hc⟩
          have hs := hp.stp hc
          replace hp := hp.ext hc
          replace r_2 := r_2.step hs
          replace r_5 := r_5.step hs
          obtain rfl := Option.some.inj q_x
          exact ⟨(!x_11), (.c rfl (.c rfl (.c rfl (.c rfl .n)))), rfl, hp, r_2, r_5⟩
    ·
      rintro x_14 w_15 ⟨hy, hp, r_2, r_5⟩
      replace hy := hy.symm
      subst hy
      apply go
      refine sel_of (fun hc => ?_) (fun hc => ?_)
      ·
        have h := cond_t h hc
        apply go
        apply go
        obtain ⟨x_16, q_17, h⟩ := bind_some h
        refine ev_call rfl rfl C9 (((law41_awake_ok n) _ _   hp.imm _ q_17).mono ?_)
        rintro _ w_18 ⟨rfl, hc⟩
        have hs := hp.stp hc
        replace hp := hp.ext hc
        apply go
        obtain rfl := Option.some.inj h
        exact ⟨rfl, hp.ch⟩
      ·
        have h := cond_f h hc
        apply go
        apply go
        apply go
        obtain ⟨y_19, q_1a, h⟩ := bind_some h
        refine W.cut (γ := (Int × Int)) (fun g => [(0, v_1), (1, v_4), (9, (.int .i64 (g.1))), (10, (.int .i64 (g.2)))]) (fun g w' => y_19 = ((g.1), (g.2)) ∧ w_15 = w') ?_ ?_
        ·
          apply go
          apply go
          apply go
          refine sel_of (fun hc => ?_) (fun hc => ?_)
          ·
            have q_1a := cond_t q_1a hc
            apply go
            obtain rfl := Option.some.inj q_1a
            exact ⟨(4, 3), (.c rfl (.c rfl (.c rfl (.c rfl .n)))), rfl, rfl⟩
          ·
            have q_1a := cond_f q_1a hc
            apply go
            obtain rfl := Option.some.inj q_1a
            exact ⟨(3, 4), (.c rfl (.c rfl (.c rfl (.c rfl .n)))), rfl, rfl⟩
        ·
          rintro ⟨x_1b, x_1c⟩ _ ⟨hy, rfl⟩
          replace hy := hy.symm
          subst hy
          apply go
          apply go
          obtain ⟨A_1d, m_1e, m_1f, rfl⟩ := r_2.isSl
          refine ev0 (fun w => rn_build (cs := [(.int .i64 x_1b), (.int .i64 0), (.int .i64 0), (.slice A_1d m_1e m_1f)]) rfl rfl T24 PL24 rfl) ?_
          refine ev_litN (d := dNode) (xs := [(Node.mk x_1b 0 0 x_0)]) (cs := [(.int .i64 x_1b), (.int .i64 0), (.int .i64 0), (.slice A_1d m_1e m_1f)]) hp rfl rfl Try.underlying22 T24 (by decide) rfl rfl (Elems.cons (d := dNode) (xs := _) (dNode_m (x := (Node.mk x_1b 0 0 x_0)) r_2) (Elems.nil _ _ _ _)) ?_
          intro v_1g I_1h w_1i hp hs r_1j
          replace r_2 := r_2.step hs
          replace r_5 := r_5.step hs
          obtain ⟨A_1k, m_1l, m_1m, rfl⟩ := r_1j.isSl
          refine ev0 (fun w => rn_build (cs := [(.int .i64 6), (.int .i64 0), (.int .i64 0), (.slice A_1k m_1l m_1m)]) rfl rfl T24 PL24 rfl) ?_
          obtain ⟨⟨x_1n, x_1o⟩, q_1p, h⟩ := bind_some h
          refine ev_call rfl rfl C14 (((tree_New_ok n) _ _  (Node.mk 6 0 0 [(Node.mk x_1b 0 0 x_0)]) (.slice A_1k m_1l m_1m) r_1j hp.imm _ q_1p).mono ?_)
          rintro _ w_1q ⟨I_1r, v_1s, F_1t, hv, hq12318, q_1u⟩
          replace hv := hv.symm
          subst hv
          rcases x_1n with _ | x_1v
          ·
            obtain ⟨rfl, rfl⟩ := q_1u
            have hs := hq12318.st
            have hp := hp.join0 hq12318
            replace r_2 := r_2.step hs
            replace r_5 := r_5.step hs
            apply go
            apply go
            obtain ⟨x_1w, q_1x, h⟩ := bind_some h
            refine ev_call rfl rfl C20 (((law41_inverted_ok n) _ _  x_0 (.slice A_1d m_1e m_1f) r_2 hp.imm _ q_1x).mono ?_)
            rintro _ w_1y ⟨I_1z, v_20, hv, hq, r_21⟩
            replace hv := hv.symm
            subst hv
            have hs := hq.st
            have hp := hp.join0 hq
            replace r_5 := r_5.step hs
            obtain ⟨A_22, m_23, m_24, rfl⟩ := r_21.isSl
            refine ev0 (fun w => rn_build (cs := [(.int .i64 x_1c), (.int .i64 0), (.int .i64 0), (.slice A_22 m_23 m_24)]) rfl rfl T24 PL24 rfl) ?_
            obtain ⟨⟨x_25, x_26⟩, q_27, h⟩ := bind_some h
            refine ev_call rfl rfl C14 (((tree_New_ok n) _ _  (Node.mk x_1c 0 0 x_1w) (.slice A_22 m_23 m_24) r_21 hp.imm _ q_27).mono ?_)
            rintro _ w_28 ⟨I_29, v_2a, F_2b, hv, hq12338, q_2c⟩
            replace hv := hv.symm
            subst hv
            rcases x_25 with _ | x_2d
            ·
              obtain ⟨rfl, rfl⟩ := q_2c
              have hs := hq12338.st
              have hp := hp.join0 hq12338
              replace r_5 := r_5.step hs
              apply go
              obtain ⟨y_2e, q_2f, h⟩ := bind_some h
              refine W.cut (γ := Bool) (fun g => [(1, v_4), (11, (.pointer none)), (12, (.int .i64 x_1o)), (13, (.pointer none)), (14, (.int .i64 x_26)), (78, (.bool (g)))]) (fun g w' => y_2e = (g) ∧ w_28 = w') ?_ ?_
              ·
                apply go
                refine sel_of (fun hc => ?_) (fun hc => ?_)
                ·
                  have q_2f := cond_t q_2f hc
                  obtain rfl := Option.some.inj q_2f
                  exact ⟨true, (.c rfl (.c rfl (.c rfl (.c rfl (.c rfl (.c rfl .n)))))), rfl, rfl⟩
                ·
                  have q_2f := cond_f q_2f hc
                  obtain rfl := Option.some.inj q_2f
                  exact ⟨(x_1o != 0), (.c rfl (.c rfl (.c rfl (.c rfl (.c rfl (.c rfl .n)))))), rfl, rfl⟩
              ·
                rintro x_2g _ ⟨hy, rfl⟩
                replace hy := hy.symm
                subst hy
                apply go
                refine sel_of (fun hc => ?_) (fun hc => ?_)
                ·
                  have h := cond_t h hc
                  obtain ⟨y_2h, q_2i, h⟩ := bind_some h
                  refine W.cut (γ := Bool) (fun g => [(6, (.bool (g)))]) (fun g w' => y_2h = (g) ∧ w_28 = w') ?_ ?_
                  ·
                    apply go
                    refine sel_of (fun hc => ?_) (fun hc => ?_)
                    ·
                      have q_2i := cond_t q_2i hc
                      refine ev0 (rn_eqNilP rfl rfl rfl Try.underlying28 (b := true) rfl) ?_
                      refine ev0 (rn_eqNilP rfl rfl rfl Try.underlying28 (b := true) rfl) ?_
                      obtain rfl := Option.some.inj q_2i
                      exact ⟨true, (.c rfl .n), rfl, rfl⟩
                    ·
                      have q_2i := cond_f q_2i hc
                      obtain rfl := Option.some.inj q_2i
                      exact ⟨false, (.c rfl .n), rfl, rfl⟩
                  ·
                    rintro x_2j _ ⟨hy, rfl⟩
                    replace hy := hy.symm
                    subst hy
                    apply go
                    obtain rfl := Option.some.inj h
                    exact ⟨rfl, hp.ch⟩
                ·
                  have h := cond_f h hc
                  apply go
                  obtain ⟨y_2k, q_2l, h⟩ := bind_some h
                  refine W.cut (γ := (Nat → Prop)) (fun g => []) (fun g w' => y_2k = .go () ∧ Hp ⟨w0, I0, []⟩ (g) [] w') ?_ ?_
                  ·
                    apply go
                    apply go
                    apply go
                    refine W.loop q_2l (γ := (Nat → Prop)) (fun s g => [(1, v_4), (11, (.pointer none)), (13, (.pointer none)), (15, (.int .i64 (s)))]) (fun s g w' => Hp ⟨w0, I0, []⟩ (g) [] w' ∧ RepS dInput w' (g) v_4 x_3) I_29 (.c rfl (.c rfl (.c rfl (.c rfl .n)))) ⟨hp, r_5⟩ ?_
                    rintro x_2m I_2n w_2o y_2p ⟨hp, r_5⟩ q_2q q_2r
                    unfold law41_TreeMorgan_L3 at q_2q
                    apply go
                    apply go
                    apply go
                    refine ev0 (rn_len rfl rfl Try.underlying32 r_5) ?_
                    apply go
                    refine sel_of (fun hc => ?_) (fun hc => ?_)
                    ·
                      have q_2q := cond_t q_2q hc
                      apply go
                      apply go
                      apply go
                      apply go
                      have hs := hp.stp (Ch.drew [] w_2o)
                      have hp := hp.drew
                      replace r_5 := r_5.step hs
                      refine W.held [(0, true), (1, true), (2, true), (3, true), (4, true), (5, true), (6, true), (7, true), (8, true), (9, true), (10, true), (11, false), (12, true), (13, true), (14, true), (15, true), (16, true), (17, true), (18, true)] (Stp I_2n w_2o.drew I_2n) MX (by kernel_rfl) (Stp.refl _ _) ?_
                      have hz := Stp.refl I_2n w_2o.drew
                      obtain ⟨x_2s, q_2t, q_2q⟩ := bind_some q_2q
                      refine evh_index rfl rfl rfl Try.underlying32 T42 r_5 q_2t ?_
                      intro p_2u c_2v d_2w a_2x
                      obtain ⟨v_2y, v_2z, rfl, r_30, r_31⟩ := dInput_o d_2w
                      refine evh0 (rn_field rfl rfl FO42_0) ?_
                      refine evh (fun w' hw => rn_load rfl rfl (run_loadVar1 T39 ((a_2x.step hw).2 0 _ rfl))) ?_
                      obtain ⟨x_32, q_33, q_2q⟩ := bind_some q_2q
                      refine evh_index rfl rfl rfl Try.underlying32 T42 r_5 q_33 ?_
                      intro p_34 c_35 d_36 a_37
                      obtain ⟨v_38, v_39, rfl, r_3a, r_3b⟩ := dInput_o d_36
                      refine evh0 (rn_field rfl rfl FO42_1) ?_
                      refine evh (fun w' hw => rn_load rfl rfl (run_loadVar1 T40 ((a_37.step hw).2 1 _ rfl))) ?_
                      obtain ⟨⟨x_3c, x_3d, x_3e⟩, q_3f, q_2q⟩ := bind_some q_2q
                      refine ev_call rfl rfl C21 (((tree_Runner_Ticknil_ok n) _ _  x_2s.Actions v_2y r_30 x_32.Tests v_39 r_3b hp.imm _ q_3f).mono ?_)
                      rintro _ w_3g ⟨I_3h, v_3i, v_3j, hv, hq, r_3k, r_3l⟩
                      replace hv := hv.symm
                      subst hv
                      have hs := hq.st
                      have hp := hp.join0 hq
                      replace hz := hz.trans hs
                      replace r_5 := r_5.step hs
                      refine ⟨Stp I_3h w_3g I_3h, Stp.refl _ _, fun x hx => hz.held hx, ?_⟩
                      have hz := Stp.refl I_3h w_3g
                      apply go
                      have hs := hp.stp (Ch.drew [] w_3g)
                      have hp := hp.drew
                      replace r_5 := r_5.step hs
                      replace r_3k := r_3k.step hs
                      replace r_3l := r_3l.step hs
                      refine W.held [(0, true), (1, true), (2, true), (3, true), (4, true), (5, true), (6, true), (7, true), (8, true), (9, true), (10, true), (11, false), (12, true), (13, true), (14, true), (15, true), (16, true), (17, true), (18, true)] (Stp I_3h w_3g.drew I_3h) MX (by kernel_rfl) (Stp.refl _ _) ?_
                      have hz := Stp.refl I_3h w_3g.drew
                      obtain ⟨x_3m, q_3n, q_2q⟩ := bind_some q_2q
                      refine evh_index rfl rfl rfl Try.underlying32 T42 r_5 q_3n ?_
                      intro p_3o c_3p d_3q a_3r
                      obtain ⟨v_3s, v_3t, rfl, r_3u, r_3v⟩ := dInput_o d_3q
                      refine evh0 (rn_field rfl rfl FO42_0) ?_
                      refine evh (fun w' hw => rn_load rfl rfl (run_loadVar1 T39 ((a_3r.step hw).2 0 _ rfl))) ?_
                      obtain ⟨x_3w, q_3x, q_2q⟩ := bind_some q_2q
                      refine evh_index rfl rfl rfl Try.underlying32 T42 r_5 q_3x ?_
                      intro p_3y c_3z d_40 a_41
                      obtain ⟨v_42, v_43, rfl, r_44, r_45⟩ := dInput_o d_40
                      refine evh0 (rn_field rfl rfl FO42_1) ?_
                      refine evh (fun w' hw => rn_load rfl rfl (run_loadVar1 T40 ((a_41.step hw).2 1 _ rfl))) ?_
                      obtain ⟨⟨x_46, x_47, x_48⟩, q_49, q_2q⟩ := bind_some q_2q
                      refine ev_call rfl rfl C21 (((tree_Runner_Ticknil_ok n) _ _  x_3m.Actions v_3s r_3u x_3w.Tests v_43 r_45 hp.imm _ q_49).mono ?_)
                      rintro _ w_4a ⟨I_4b, v_4c, v_4d, hv, hq, r_4e, r_4f⟩
                      replace hv := hv.symm
                      subst hv
                      have hs := hq.st
                      have hp := hp.join0 hq
                      replace hz := hz.trans hs
                      replace r_5 := r_5.step hs
                      replace r_3k := r_3k.step hs
                      replace r_3l := r_3l.step hs
                      refine ⟨Stp I_4b w_4a I_4b, Stp.refl _ _, fun x hx => hz.held hx, ?_⟩
                      have hz := Stp.refl I_4b w_4a
                      obtain ⟨y_4g, q_4h, q_2q⟩ := bind_some q_2q
                      refine W.cut (γ := (Bool × (Nat → Prop))) (fun g => [(1, v_4), (11, (.pointer none)), (13, (.pointer none)), (15, (.int .i64 x_2m)), (153, (.bool (g.1)))]) (fun g w' => y_4g = (g.1) ∧ Hp ⟨w0, I0, []⟩ (g.2) [] w' ∧ RepS dInput w' (g.2) v_4 x_3) ?_ ?_
                      ·
                        apply go
                        refine sel_of (fun hc => ?_) (fun hc => ?_)
                        ·
                          have q_4h := cond_t q_4h hc
                          obtain rfl := Option.some.inj q_4h
                          exact ⟨(true, I_4b), (.c rfl (.c rfl (.c rfl (.c rfl (.c rfl .n))))), rfl, hp, r_5⟩
                        ·
                          have q_4h := cond_f q_4h hc
                          refine ev0 (rn_len rfl rfl Try.underlying39 r_3k) ?_
                          refine ev0 (rn_len rfl rfl Try.underlying39 r_4e) ?_
                          refine sel_of (fun hc => ?_) (fun hc => ?_)
                          ·
                            have q_4h := cond_t q_4h hc
                            obtain rfl := Option.some.inj q_4h
                            exact ⟨(true, I_4b), (.c rfl (.c rfl (.c rfl (.c rfl (.c rfl .n))))), rfl, hp, r_5⟩
                          ·
                            have q_4h := cond_f q_4h hc
                            refine ev0 (rn_len rfl rfl Try.underlying39 r_3l) ?_
                            refine ev0 (rn_len rfl rfl Try.underlying39 r_4f) ?_
                            refine sel_of (fun hc => ?_) (fun hc => ?_)
                            ·
                              have q_4h := cond_t q_4h hc
                              obtain rfl := Option.some.inj q_4h
                              exact ⟨(true, I_4b), (.c rfl (.c rfl (.c rfl (.c rfl (.c rfl .n))))), rfl, hp, r_5⟩
                            ·
                              have q_4h := cond_f q_4h hc
                              obtain ⟨x_4i, q_4j, q_4h⟩ := bind_some q_4h
                              refine ev_call rfl rfl C22 (((tree_Runner_Activenil_ok n) _ _   hp.imm _ q_4j).mono ?_)
                              rintro _ w_4k ⟨I_4l, v_4m, hv, hq, r_4n⟩
                              replace hv := hv.symm
                              subst hv
                              have hs := hq.st
                              have hp := hp.join0 hq
                              replace r_5 := r_5.step hs
                              replace r_3k := r_3k.step hs
                              replace r_4e := r_4e.step hs
                              replace r_3l := r_3l.step hs
                              replace r_4f := r_4f.step hs
                              refine ev0 (rn_len rfl rfl Try.underlying39 r_4n) ?_
                              obtain ⟨x_4o, q_4p, q_4h⟩ := bind_some q_4h
                              refine ev_call rfl rfl C22 (((tree_Runner_Activenil_ok n) _ _   hp.imm _ q_4p).mono ?_)
                              rintro _ w_4q ⟨I_4r, v_4s, hv, hq, r_4t⟩
                              replace hv := hv.symm
                              subst hv
                              have hs := hq.st
                              have hp := hp.join0 hq
                              replace r_5 := r_5.step hs
                              replace r_3k := r_3k.step hs
                              replace r_4e := r_4e.step hs
                              replace r_3l := r_3l.step hs
                              replace r_4f := r_4f.step hs
                              replace r_4n := r_4n.step hs
                              refine ev0 (rn_len rfl rfl Try.underlying39 r_4t) ?_
                              obtain rfl := Option.some.inj q_4h
                              exact ⟨(((x_4i.length : Int) != (x_4o.length : Int)), I_4r), (.c rfl (.c rfl (.c rfl (.c rfl (.c rfl .n))))), rfl, hp, r_5⟩
                      ·
                        rintro ⟨x_4u, I_4v⟩ w_4w ⟨hy, hp, r_5⟩
                        replace hy := hy.symm
                        subst hy
                        apply go
                        refine sel_of (fun hc => ?_) (fun hc => ?_)
                        ·
                          have q_2q := cond_t q_2q hc
                          apply go
                          apply go
                          apply go
                          have q_4x := congrArg some (q_2r _ (Option.some.inj q_2q).symm)
                          obtain rfl := Option.some.inj q_4x
                          obtain rfl := Option.some.inj h
                          exact ⟨rfl, hp.ch⟩
                        ·
                          have q_2q := cond_f q_2q hc
                          apply go
                          apply go
                          exact ⟨_, (Option.some.inj q_2q).symm, I_4v, (.c rfl (.c rfl (.c rfl (.c rfl .n)))), ⟨hp, r_5⟩⟩
                    ·
                      have q_2q := cond_f q_2q hc
                      apply go
                      have q_4y := congrArg some (q_2r _ (Option.some.inj q_2q).symm)
                      obtain rfl := Option.some.inj q_4y
                      exact ⟨I_2n, .n, rfl, hp⟩
                  ·
                    rintro I_4z w_50 ⟨hy, hp⟩
                    replace hy := hy.symm
                    subst hy
                    apply go
                    apply go
                    apply go
                    obtain rfl := Option.some.inj h
                    exact ⟨rfl, hp.ch⟩
            ·
              obtain ⟨g_51, rfl, v_52, v_53, e_54, v_55, e_56, rfl, f_57, o_58, o_59⟩ := q_2c
              have r_5a := f_57.imm
              have hs := hq12338.st
              have hp := hp.join0 hq12338
              replace r_5 := r_5.step hs
              apply go
              obtain ⟨y_5b, q_5c, h⟩ := bind_some h
              refine W.cut (γ := Bool) (fun g => [(1, v_4), (11, (.pointer none)), (12, (.int .i64 x_1o)), (13, (.pointer (some ⟨g_51, 0, none⟩))), (14, (.int .i64 x_26)), (78, (.bool (g)))]) (fun g w' => y_5b = (g) ∧ w_28 = w') ?_ ?_
              ·
                apply go
                refine sel_of (fun hc => ?_) (fun hc => ?_)
                ·
                  have q_5c := cond_t q_5c hc
                  obtain rfl := Option.some.inj q_5c
                  exact ⟨true, (.c rfl (.c rfl (.c rfl (.c rfl (.c rfl (.c rfl .n)))))), rfl, rfl⟩
                ·
                  have q_5c := cond_f q_5c hc
                  obtain rfl := Option.some.inj q_5c
                  exact ⟨(x_1o != 0), (.c rfl (.c rfl (.c rfl (.c rfl (.c rfl (.c rfl .n)))))), rfl, rfl⟩
              ·
                rintro x_5d _ ⟨hy, rfl⟩
                replace hy := hy.symm
                subst hy
                apply go
                refine sel_of (fun hc => ?_) (fun hc => ?_)
                ·
                  have h := cond_t h hc
                  obtain ⟨y_5e, q_5f, h⟩ := bind_some h
                  refine W.cut (γ := Unit) (fun _ => [(6, (.bool false))]) (fun _ w' => y_5e = () ∧ w_28 = w') ?_ ?_
                  ·
                    apply go
                    refine sel_of (fun hc => ?_) (fun hc => ?_)
                    ·
                      have q_5f := cond_t q_5f hc
                      refine ev0 (rn_eqNilP rfl rfl rfl Try.underlying28 (b := true) rfl) ?_
                      refine ev0 (rn_eqNilP rfl rfl rfl Try.underlying28 (b := false) rfl) ?_
                      obtain rfl := Option.some.inj q_5f
                      exact ⟨(), (.c rfl .n), rfl, rfl⟩
                    ·
                      have q_5f := cond_f q_5f hc
                      obtain rfl := Option.some.inj q_5f
                      exact ⟨(), (.c rfl .n), rfl, rfl⟩
                  ·
                    rintro ⟨⟩ _ ⟨hy, rfl⟩
                    replace hy := hy.symm
                    subst hy
                    apply go
                    obtain rfl := Option.some.inj h
                    exact ⟨rfl, hp.ch⟩
                ·
                  have h := cond_f h hc
                  apply go
                  obtain ⟨y_5g, q_5h, h⟩ := bind_some h
                  refine W.cut (γ := (Nat → Prop)) (fun g => []) (fun g w' => y_5g = .go () ∧ Hp ⟨w0, I0, []⟩ (g) [] w') ?_ ?_
                  ·
                    apply go
                    apply go
                    apply go
                    have hp := hp.perm [1, 2, 0] (by decide)
                    refine W.loop q_5h (γ := (Value × Value × Ent × Value × Ent × (Nat → Prop))) (fun s g => [(1, v_4), (11, (.pointer none)), (13, (.pointer (some ⟨g_51, 0, none⟩))), (15, (.int .i64 (s.2.2.2)))]) (fun s g w' => Hp ⟨w0, I0, []⟩ (g.2.2.2.2.2) [(g.2.2.1), (g.2.2.2.2.1), some (g_51, [(g.1), (g.2.1), (g.2.2.2.1)], 61)] w' ∧ RepS dInput w' (g.2.2.2.2.2) v_4 x_3 ∧ RepS dNode_2 w' (g.2.2.2.2.2) (g.1) (s.1) ∧ OwnS (dI .i64) 3 w' (g.2.2.2.2.2) (g.2.1) (g.2.2.1) (s.2.1) ∧ OwnS dB 4 w' (g.2.2.2.2.2) (g.2.2.2.1) (g.2.2.2.2.1) (s.2.2.1)) (v_52, v_53, e_54, v_55, e_56, I_29) (.c rfl (.c rfl (.c rfl (.c rfl .n)))) ⟨hp, r_5, r_5a, o_58, o_59⟩ ?_
                    rintro ⟨x_5i, x_5j, x_5k, x_5l⟩ ⟨v_5m, v_5n, e_5o, v_5p, e_5q, I_5r⟩ w_5s y_5t ⟨hp, r_5, r_5u, o_5v, o_5w⟩ q_5x q_5y
                    unfold law41_TreeMorgan_L5 at q_5x
                    apply go
                    apply go
                    apply go
                    refine ev0 (rn_len rfl rfl Try.underlying32 r_5) ?_
                    apply go
                    refine sel_of (fun hc => ?_) (fun hc => ?_)
                    ·
                      have q_5x := cond_t q_5x hc
                      apply go
                      apply go
                      apply go
                      apply go
                      have hs := hp.stp (Ch.drew [] w_5s)
                      have hp := hp.drew
                      replace r_5 := r_5.step hs
                      replace r_5u := r_5u.step hs
                      replace o_5v := o_5v.step hs
                      replace o_5w := o_5w.step hs
                      refine W.held [(0, true), (1, true), (2, true), (3, true), (4, true), (5, true), (6, true), (7, true), (8, true), (9, true), (10, true), (11, false), (12, true), (13, true), (14, true), (15, true), (16, true), (17, true), (18, true)] (Stp I_5r w_5s.drew I_5r) MX (by kernel_rfl) (Stp.refl _ _) ?_
                      have hz := Stp.refl I_5r w_5s.drew
                      obtain ⟨x_5z, q_60, q_5x⟩ := bind_some q_5x
                      refine evh_index rfl rfl rfl Try.underlying32 T42 r_5 q_60 ?_
                      intro p_61 c_62 d_63 a_64
                      obtain ⟨v_65, v_66, rfl, r_67, r_68⟩ := dInput_o d_63
                      refine evh0 (rn_field rfl rfl FO42_0) ?_
                      refine evh (fun w' hw => rn_load rfl rfl (run_loadVar1 T39 ((a_64.step hw).2 0 _ rfl))) ?_
                      obtain ⟨x_69, q_6a, q_5x⟩ := bind_some q_5x
                      refine evh_index rfl rfl rfl Try.underlying32 T42 r_5 q_6a ?_
                      intro p_6b c_6c d_6d a_6e
                      obtain ⟨v_6f, v_6g, rfl, r_6h, r_6i⟩ := dInput_o d_6d
                      refine evh0 (rn_field rfl rfl FO42_1) ?_
                      refine evh (fun w' hw => rn_load rfl rfl (run_loadVar1 T40 ((a_6e.step hw).2 1 _ rfl))) ?_
                      obtain ⟨⟨x_6j, x_6k, x_6l⟩, q_6m, q_5x⟩ := bind_some q_5x
                      refine ev_call rfl rfl C21 (((tree_Runner_Ticknil_ok n) _ _  x_5z.Actions v_65 r_67 x_69.Tests v_6g r_6i hp.imm _ q_6m).mono ?_)
                      rintro _ w_6n ⟨I_6o, v_6p, v_6q, hv, hq, r_6r, r_6s⟩
                      replace hv := hv.symm
                      subst hv
                      have hs := hq.st
                      have hp := hp.join0 hq
                      replace hz := hz.trans hs
                      replace r_5 := r_5.step hs
                      replace r_5u := r_5u.step hs
                      replace o_5v := o_5v.step hs
                      replace o_5w := o_5w.step hs
                      refine ⟨Stp I_6o w_6n I_6o, Stp.refl _ _, fun x hx => hz.held hx, ?_⟩
                      have hz := Stp.refl I_6o w_6n
                      apply go
                      have hs := hp.stp (Ch.drew [] w_6n)
                      have hp := hp.drew
                      replace r_5 := r_5.step hs
                      replace r_6r := r_6r.step hs
                      replace r_6s := r_6s.step hs
                      replace r_5u := r_5u.step hs
                      replace o_5v := o_5v.step hs
                      replace o_5w := o_5w.step hs
                      refine W.held [(0, true), (1, true), (2, true), (3, true), (4, true), (5, true), (6, true), (7, true), (8, true), (9, true), (10, true), (11, false), (12, true), (13, true), (14, true), (15, true), (16, true), (17, true), (18, true)] (Stp I_6o w_6n.drew I_6o) MX (by kernel_rfl) (Stp.refl _ _) ?_
                      have hz := Stp.refl I_6o w_6n.drew
                      obtain ⟨x_6t, q_6u, q_5x⟩ := bind_some q_5x
                      refine evh_index rfl rfl rfl Try.underlying32 T42 r_5 q_6u ?_
                      intro p_6v c_6w d_6x a_6y
                      obtain ⟨v_6z, v_70, rfl, r_71, r_72⟩ := dInput_o d_6x
                      refine evh0 (rn_field rfl rfl FO42_0) ?_
                      refine evh (fun w' hw => rn_load rfl rfl (run_loadVar1 T39 ((a_6y.step hw).2 0 _ rfl))) ?_
                      obtain ⟨x_73, q_74, q_5x⟩ := bind_some q_5x
                      refine evh_index rfl rfl rfl Try.underlying32 T42 r_5 q_74 ?_
                      intro p_75 c_76 d_77 a_78
                      obtain ⟨v_79, v_7a, rfl, r_7b, r_7c⟩ := dInput_o d_77
                      refine evh0 (rn_field rfl rfl FO42_1) ?_
                      refine evh (fun w' hw => rn_load rfl rfl (run_loadVar1 T40 ((a_78.step hw).2 1 _ rfl))) ?_
                      obtain ⟨⟨x_7d, x_7e, x_7f, x_7g⟩, q_7h, q_5x⟩ := bind_some q_5x
                      refine ev_call rfl rfl C21 (((tree_Runner_Tick_ok n) _ _  (Runner.mk x_5i x_5j x_5k) g_51 [some (g_51, [v_5m, v_5n, v_5p], 61), e_5o, e_5q] ⟨v_5m, v_5n, e_5o, v_5p, e_5q, rfl, r_5u, o_5v, o_5w⟩ x_6t.Actions v_6z r_71 x_73.Tests v_7a r_7c (hp.lendL [2, 0, 1] (by decide)) _ q_7h).mono ?_)
                      rintro _ w_7i ⟨I_7j, v_7k, v_7l, F_7m, hv, hq14520, r_7n, r_7o, q_7p⟩
                      replace hv := hv.symm
                      subst hv
                      obtain ⟨v_7q, v_7r, e_7s, v_7t, e_7u, rfl, r_7v, o_7w, o_7x⟩ := q_7p
                      have hs := hq14520.st
                      have hp := hp.backL [2, 0, 1] [] (by decide) hq14520
                      replace hz := hz.trans hs
                      replace r_5 := r_5.step hs
                      replace r_6r := r_6r.step hs
                      replace r_6s := r_6s.step hs
                      refine ⟨Stp I_7j w_7i I_7j, Stp.refl _ _, fun x hx => hz.held hx, ?_⟩
                      have hz := Stp.refl I_7j w_7i
                      obtain ⟨y_7y, q_7z, q_5x⟩ := bind_some q_5x
                      refine W.cut (γ := ((List Node_2) × (List Int) × (List Bool) × Bool × Value × Value × Ent × Value × Ent × (Nat → Prop))) (fun g => [(1, v_4), (11, (.pointer none)), (13, (.pointer (some ⟨g_51, 0, none⟩))), (15, (.int .i64 x_5l)), (153, (.bool (g.2.2.2.1)))]) (fun g w' => y_7y = ((g.1), (g.2.1), (g.2.2.1), (g.2.2.2.1)) ∧ Hp ⟨w0, I0, []⟩ (g.2.2.2.2.2.2.2.2.2) [(g.2.2.2.2.2.2.1), (g.2.2.2.2.2.2.2.2.1), some (g_51, [(g.2.2.2.2.1), (g.2.2.2.2.2.1), (g.2.2.2.2.2.2.2.1)], 61)] w' ∧ RepS dInput w' (g.2.2.2.2.2.2.2.2.2) v_4 x_3 ∧ RepS dNode_2 w' (g.2.2.2.2.2.2.2.2.2) (g.2.2.2.2.1) (g.1) ∧ OwnS (dI .i64) 3 w' (g.2.2.2.2.2.2.2.2.2) (g.2.2.2.2.2.1) (g.2.2.2.2.2.2.1) (g.2.1) ∧ OwnS dB 4 w' (g.2.2.2.2.2.2.2.2.2) (g.2.2.2.2.2.2.2.1) (g.2.2.2.2.2.2.2.2.1) (g.2.2.1)) ?_ ?_
                      ·
                        apply go
                        refine sel_of (fun hc => ?_) (fun hc => ?_)
                        ·
                          have q_7z := cond_t q_7z hc
                          obtain rfl := Option.some.inj q_7z
                          have hp := hp.perm [1, 2, 0] (by decide)
                          exact ⟨(x_7g.nodes, x_7g.counters, x_7g.active, true, v_7q, v_7r, e_7s, v_7t, e_7u, I_7j), (.c rfl (.c rfl (.c rfl (.c rfl (.c rfl .n))))), rfl, hp, r_5, r_7v, o_7w, o_7x⟩
                        ·
                          have q_7z := cond_f q_7z hc
                          refine ev0 (rn_len rfl rfl Try.underlying39 r_6r) ?_
                          refine ev0 (rn_len rfl rfl Try.underlying39 r_7n) ?_
                          refine sel_of (fun hc => ?_) (fun hc => ?_)
                          ·
                            have q_7z := cond_t q_7z hc
                            obtain rfl := Option.some.inj q_7z
                            have hp := hp.perm [1, 2, 0] (by decide)
                            exact ⟨(x_7g.nodes, x_7g.counters, x_7g.active, true, v_7q, v_7r, e_7s, v_7t, e_7u, I_7j), (.c rfl (.c rfl (.c rfl (.c rfl (.c rfl .n))))), rfl, hp, r_5, r_7v, o_7w, o_7x⟩
                          ·
                            have q_7z := cond_f q_7z hc
                            refine ev0 (rn_len rfl rfl Try.underlying39 r_6s) ?_
                            refine ev0 (rn_len rfl rfl Try.underlying39 r_7o) ?_
                            refine sel_of (fun hc => ?_) (fun hc => ?_)
                            ·
                              have q_7z := cond_t q_7z hc
                              obtain rfl := Option.some.inj q_7z
                              have hp := hp.perm [1, 2, 0] (by decide)
                              exact ⟨(x_7g.nodes, x_7g.counters, x_7g.active, true, v_7q, v_7r, e_7s, v_7t, e_7u, I_7j), (.c rfl (.c rfl (.c rfl (.c rfl (.c rfl .n))))), rfl, hp, r_5, r_7v, o_7w, o_7x⟩
                            ·
                              have q_7z := cond_f q_7z hc
                              obtain ⟨x_80, q_81, q_7z⟩ := bind_some q_7z
                              refine ev_call rfl rfl C22 (((tree_Runner_Activenil_ok n) _ _   hp.imm _ q_81).mono ?_)
                              rintro _ w_82 ⟨I_83, v_84, hv, hq, r_85⟩
                              replace hv := hv.symm
                              subst hv
                              have hs := hq.st
                              have hp := hp.join0 hq
                              replace r_5 := r_5.step hs
                              replace r_6r := r_6r.step hs
                              replace r_7n := r_7n.step hs
                              replace r_6s := r_6s.step hs
                              replace r_7o := r_7o.step hs
                              replace r_7v := r_7v.step hs
                              replace o_7w := o_7w.step hs
                              replace o_7x := o_7x.step hs
                              refine ev0 (rn_len rfl rfl Try.underlying39 r_85) ?_
                              obtain ⟨⟨x_86, x_87⟩, q_88, q_7z⟩ := bind_some q_7z
                              refine ev_call rfl rfl C22 (((tree_Runner_Active_ok n) _ _  (Runner.mk x_7g.nodes x_7g.counters x_7g.active) g_51 [some (g_51, [v_7q, v_7r, v_7t], 61), e_7s, e_7u] ⟨v_7q, v_7r, e_7s, v_7t, e_7u, rfl, r_7v, o_7w, o_7x⟩ (hp.lendL [0, 1, 2] (by decide)) _ q_88).mono ?_)
                              rintro _ w_89 ⟨I_8a, v_8b, F_8c, hv, hq14584, r_8d, q_8e⟩
                              replace hv := hv.symm
                              subst hv
                              obtain ⟨v_8f, v_8g, e_8h, v_8i, e_8j, rfl, r_8k, o_8l, o_8m⟩ := q_8e
                              have hs := hq14584.st
                              have hp := hp.backL [0, 1, 2] [] (by decide) hq14584
                              replace r_5 := r_5.step hs
                              replace r_6r := r_6r.step hs
                              replace r_7n := r_7n.step hs
                              replace r_6s := r_6s.step hs
                              replace r_7o := r_7o.step hs
                              replace r_85 := r_85.step hs
                              refine ev0 (rn_len rfl rfl Try.underlying39 r_8d) ?_
                              obtain rfl := Option.some.inj q_7z
                              have hp := hp.perm [1, 2, 0] (by decide)
                              exact ⟨(x_87.nodes, x_87.counters, x_87.active, ((x_80.length : Int) != (x_86.length : Int)), v_8f, v_8g, e_8h, v_8i, e_8j, I_8a), (.c rfl (.c rfl (.c rfl (.c rfl (.c rfl .n))))), rfl, hp, r_5, r_8k, o_8l, o_8m⟩
                      ·
                        rintro ⟨x_8n, x_8o, x_8p, x_8q, v_8r, v_8s, e_8t, v_8u, e_8v, I_8w⟩ w_8x ⟨hy, hp, r_5, r_8y, o_8z, o_90⟩
                        replace hy := hy.symm
                        subst hy
                        apply go
                        refine sel_of (fun hc => ?_) (fun hc => ?_)
                        ·
                          have q_5x := cond_t q_5x hc
                          apply go
                          apply go
                          apply go
                          have q_91 := congrArg some (q_5y _ (Option.some.inj q_5x).symm)
                          obtain rfl := Option.some.inj q_91
                          obtain rfl := Option.some.inj h
                          exact ⟨rfl, hp.ch⟩
                        ·
                          have q_5x := cond_f q_5x hc
                          apply go
                          apply go
                          exact ⟨_, (Option.some.inj q_5x).symm, (v_8r, v_8s, e_8t, v_8u, e_8v, I_8w), (.c rfl (.c rfl (.c rfl (.c rfl .n)))), ⟨hp, r_5, r_8y, o_8z, o_90⟩⟩
                    ·
                      have q_5x := cond_f q_5x hc
                      apply go
                      have q_92 := congrArg some (q_5y _ (Option.some.inj q_5x).symm)
                      obtain rfl := Option.some.inj q_92
                      have hp := hp.sel [] (by decide)
                      exact ⟨I_5r, .n, rfl, hp⟩
                  ·
                    rintro I_93 w_94 ⟨hy, hp⟩
                    replace hy := hy.symm
                    subst hy
                    apply go
                    apply go
                    apply go
                    obtain rfl := Option.some.inj h
                    exact ⟨rfl, hp.ch⟩
          ·
            obtain ⟨g_95, rfl, v_96, v_97, e_98, v_99, e_9a, rfl, f_9b, o_9c, o_9d⟩ := q_1u
            have r_9e := f_9b.imm
            have hs := hq12318.st
            have hp := hp.join0 hq12318
            replace r_2 := r_2.step hs
            replace r_5 := r_5.step hs
            apply go
            apply go
            obtain ⟨x_9f, q_9g, h⟩ := bind_some h
            refine ev_call rfl rfl C20 (((law41_inverted_ok n) _ _  x_0 (.slice A_1d m_1e m_1f) r_2 hp.imm _ q_9g).mono ?_)
            rintro _ w_9h ⟨I_9i, v_9j, hv, hq, r_9k⟩
            replace hv := hv.symm
            subst hv
            have hs := hq.st
            have hp := hp.join0 hq
            replace r_5 := r_5.step hs
            replace r_9e := r_9e.step hs
            replace o_9c := o_9c.step hs
            replace o_9d := o_9d.step hs
            obtain ⟨A_9l, m_9m, m_9n, rfl⟩ := r_9k.isSl
            refine ev0 (fun w => rn_build (cs := [(.int .i64 x_1c), (.int .i64 0), (.int .i64 0), (.slice A_9l m_9m m_9n)]) rfl rfl T24 PL24 rfl) ?_
            obtain ⟨⟨x_9o, x_9p⟩, q_9q, h⟩ := bind_some h
            refine ev_call rfl rfl C14 (((tree_New_ok n) _ _  (Node.mk x_1c 0 0 x_9f) (.slice A_9l m_9m m_9n) r_9k hp.imm _ q_9q).mono ?_)
            rintro _ w_9r ⟨I_9s, v_9t, F_9u, hv, hq14623, q_9v⟩
            replace hv := hv.symm
            subst hv
            rcases x_9o with _ | x_9w
            ·
              obtain ⟨rfl, rfl⟩ := q_9v
              have hs := hq14623.st
              have hp := hp.join0 hq14623
              replace r_5 := r_5.step hs
              replace r_9e := r_9e.step hs
              replace o_9c := o_9c.step hs
              replace o_9d := o_9d.step hs
              apply go
              obtain ⟨y_9x, q_9y, h⟩ := bind_some h
              refine W.cut (γ := Bool) (fun g => [(1, v_4), (11, (.pointer (some ⟨g_95, 0, none⟩))), (12, (.int .i64 x_1o)), (13, (.pointer none)), (14, (.int .i64 x_9p)), (78, (.bool (g)))]) (fun g w' => y_9x = (g) ∧ w_9r = w') ?_ ?_
              ·
                apply go
                refine sel_of (fun hc => ?_) (fun hc => ?_)
                ·
                  have q_9y := cond_t q_9y hc
                  obtain rfl := Option.some.inj q_9y
                  exact ⟨true, (.c rfl (.c rfl (.c rfl (.c rfl (.c rfl (.c rfl .n)))))), rfl, rfl⟩
                ·
                  have q_9y := cond_f q_9y hc
                  obtain rfl := Option.some.inj q_9y
                  exact ⟨(x_1o != 0), (.c rfl (.c rfl (.c rfl (.c rfl (.c rfl (.c rfl .n)))))), rfl, rfl⟩
              ·
                rintro x_9z _ ⟨hy, rfl⟩
                replace hy := hy.symm
                subst hy
                apply go
                refine sel_of (fun hc => ?_) (fun hc => ?_)
                ·
                  have h := cond_t h hc
                  obtain ⟨y_a0, q_a1, h⟩ := bind_some h
                  refine W.cut (γ := Unit) (fun _ => [(6, (.bool false))]) (fun _ w' => y_a0 = () ∧ w_9r = w') ?_ ?_
                  ·
                    apply go
                    refine sel_of (fun hc => ?_) (fun hc => ?_)
                    ·
                      have q_a1 := cond_t q_a1 hc
                      refine ev0 (rn_eqNilP rfl rfl rfl Try.underlying28 (b := false) rfl) ?_
                      obtain rfl := Option.some.inj q_a1
                      exact ⟨(), (.c rfl .n), rfl, rfl⟩
                    ·
                      have q_a1 := cond_f q_a1 hc
                      obtain rfl := Option.some.inj q_a1
                      exact ⟨(), (.c rfl .n), rfl, rfl⟩
                  ·
                    rintro ⟨⟩ _ ⟨hy, rfl⟩
                    replace hy := hy.symm
                    subst hy
                    apply go
                    obtain rfl := Option.some.inj h
                    exact ⟨rfl, hp.ch⟩
                ·
                  have h := cond_f h hc
                  apply go
                  obtain ⟨y_a2, q_a3, h⟩ := bind_some h
                  refine W.cut (γ := (Nat → Prop)) (fun g => []) (fun g w' => y_a2 = .go () ∧ Hp ⟨w0, I0, []⟩ (g) [] w') ?_ ?_
                  ·
                    apply go
                    apply go
                    apply go
                    have hp := hp.perm [1, 2, 0] (by decide)
                    refine W.loop q_a3 (γ := (Value × Value × Ent × Value × Ent × (Nat → Prop))) (fun s g => [(1, v_4), (11, (.pointer (some ⟨g_95, 0, none⟩))), (13, (.pointer none)), (15, (.int .i64 (s.2.2.2)))]) (fun s g w' => Hp ⟨w0, I0, []⟩ (g.2.2.2.2.2) [(g.2.2.1), (g.2.2.2.2.1), some (g_95, [(g.1), (g.2.1), (g.2.2.2.1)], 61)] w' ∧ RepS dInput w' (g.2.2.2.2.2) v_4 x_3 ∧ RepS dNode_2 w' (g.2.2.2.2.2) (g.1) (s.1) ∧ OwnS (dI .i64) 3 w' (g.2.2.2.2.2) (g.2.1) (g.2.2.1) (s.2.1) ∧ OwnS dB 4 w' (g.2.2.2.2.2) (g.2.2.2.1) (g.2.2.2.2.1) (s.2.2.1)) (v_96, v_97, e_98, v_99, e_9a, I_9s) (.c rfl (.c rfl (.c rfl (.c rfl .n)))) ⟨hp, r_5, r_9e, o_9c, o_9d⟩ ?_
                    rintro ⟨x_a4, x_a5, x_a6, x_a7⟩ ⟨v_a8, v_a9, e_aa, v_ab, e_ac, I_ad⟩ w_ae y_af ⟨hp, r_5, r_ag, o_ah, o_ai⟩ q_aj q_ak
                    unfold law41_TreeMorgan_L7 at q_aj
                    apply go
                    apply go
                    apply go
                    refine ev0 (rn_len rfl rfl Try.underlying32 r_5) ?_
                    apply go
                    refine sel_of (fun hc => ?_) (fun hc => ?_)
                    ·
                      have q_aj := cond_t q_aj hc
                      apply go
                      apply go
                      apply go
                      apply go
                      have hs := hp.stp (Ch.drew [] w_ae)
                      have hp := hp.drew
                      replace r_5 := r_5.step hs
                      replace r_ag := r_ag.step hs
                      replace o_ah := o_ah.step hs
                      replace o_ai := o_ai.step hs
                      refine W.held [(0, true), (1, true), (2, true), (3, true), (4, true), (5, true), (6, true), (7, true), (8, true), (9, true), (10, true), (11, false), (12, true), (13, true), (14, true), (15, true), (16, true), (17, true), (18, true)] (Stp I_ad w_ae.drew I_ad) MX (by kernel_rfl) (Stp.refl _ _) ?_
                      have hz := Stp.refl I_ad w_ae.drew
                      obtain ⟨x_al, q_am, q_aj⟩ := bind_some q_aj
                      refine evh_index rfl rfl rfl Try.underlying32 T42 r_5 q_am ?_
                      intro p_an c_ao d_ap a_aq
                      obtain ⟨v_ar, v_as, rfl, r_at, r_au⟩ := dInput_o d_ap
                      refine evh0 (rn_field rfl rfl FO42_0) ?_
                      refine evh (fun w' hw => rn_load rfl rfl (run_loadVar1 T39 ((a_aq.step hw).2 0 _ rfl))) ?_
                      obtain ⟨x_av, q_aw, q_aj⟩ := bind_some q_aj
                      refine evh_index rfl rfl rfl Try.underlying32 T42 r_5 q_aw ?_
                      intro p_ax c_ay d_az a_b0
                      obtain ⟨v_b1, v_b2, rfl, r_b3, r_b4⟩ := dInput_o d_az
                      refine evh0 (rn_field rfl rfl FO42_1) ?_
                      refine evh (fun w' hw => rn_load rfl rfl (run_loadVar1 T40 ((a_b0.step hw).2 1 _ rfl))) ?_
                      obtain ⟨⟨x_b5, x_b6, x_b7, x_b8⟩, q_b9, q_aj⟩ := bind_some q_aj
                      refine ev_call rfl rfl C21 (((tree_Runner_Tick_ok n) _ _  (Runner.mk x_a4 x_a5 x_a6) g_95 [some (g_95, [v_a8, v_a9, v_ab], 61), e_aa, e_ac] ⟨v_a8, v_a9, e_aa, v_ab, e_ac, rfl, r_ag, o_ah, o_ai⟩ x_al.Actions v_ar r_at x_av.Tests v_b2 r_b4 (hp.lendL [2, 0, 1] (by decide)) _ q_b9).mono ?_)
                      rintro _ w_ba ⟨I_bb, v_bc, v_bd, F_be, hv, hq15811, r_bf, r_bg, q_bh⟩
                      replace hv := hv.symm
                      subst hv
                      obtain ⟨v_bi, v_bj, e_bk, v_bl, e_bm, rfl, r_bn, o_bo, o_bp⟩ := q_bh
                      have hs := hq15811.st
                      have hp := hp.backL [2, 0, 1] [] (by decide) hq15811
                      replace hz := hz.trans hs
                      replace r_5 := r_5.step hs
                      refine ⟨Stp I_bb w_ba I_bb, Stp.refl _ _, fun x hx => hz.held hx, ?_⟩
                      have hz := Stp.refl I_bb w_ba
                      apply go
                      have hs := hp.stp (Ch.drew [] w_ba)
                      have hp := hp.drew
                      replace r_5 := r_5.step hs
                      replace r_bf := r_bf.step hs
                      replace r_bg := r_bg.step hs
                      replace r_bn := r_bn.step hs
                      replace o_bo := o_bo.step hs
                      replace o_bp := o_bp.step hs
                      refine W.held [(0, true), (1, true), (2, true), (3, true), (4, true), (5, true), (6, true), (7, true), (8, true), (9, true), (10, true), (11, false), (12, true), (13, true), (14, true), (15, true), (16, true), (17, true), (18, true)] (Stp I_bb w_ba.drew I_bb) MX (by kernel_rfl) (Stp.refl _ _) ?_
                      have hz := Stp.refl I_bb w_ba.drew
                      obtain ⟨x_bq, q_br, q_aj⟩ := bind_some q_aj
                      refine evh_index rfl rfl rfl Try.underlying32 T42 r_5 q_br ?_
                      intro p_bs c_bt d_bu a_bv
                      obtain ⟨v_bw, v_bx, rfl, r_by, r_bz⟩ := dInput_o d_bu
                      refine evh0 (rn_field rfl rfl FO42_0) ?_
                      refine evh (fun w' hw => rn_load rfl rfl (run_loadVar1 T39 ((a_bv.step hw).2 0 _ rfl))) ?_
                      obtain ⟨x_c0, q_c1, q_aj⟩ := bind_some q_aj
                      refine evh_index rfl rfl rfl Try.underlying32 T42 r_5 q_c1 ?_
                      intro p_c2 c_c3 d_c4 a_c5
                      obtain ⟨v_c6, v_c7, rfl, r_c8, r_c9⟩ := dInput_o d_c4
                      refine evh0 (rn_field rfl rfl FO42_1) ?_
                      refine evh (fun w' hw => rn_load rfl rfl (run_loadVar1 T40 ((a_c5.step hw).2 1 _ rfl))) ?_
                      obtain ⟨⟨x_ca, x_cb, x_cc⟩, q_cd, q_aj⟩ := bind_some q_aj
                      refine ev_call rfl rfl C21 (((tree_Runner_Ticknil_ok n) _ _  x_bq.Actions v_bw r_by x_c0.Tests v_c7 r_c9 hp.imm _ q_cd).mono ?_)
                      rintro _ w_ce ⟨I_cf, v_cg, v_ch, hv, hq, r_ci, r_cj⟩
                      replace hv := hv.symm
                      subst hv
                      have hs := hq.st
                      have hp := hp.join0 hq
                      replace hz := hz.trans hs
                      replace r_5 := r_5.step hs
                      replace r_bf := r_bf.step hs
                      replace r_bg := r_bg.step hs
                      replace r_bn := r_bn.step hs
                      replace o_bo := o_bo.step hs
                      replace o_bp := o_bp.step hs
                      refine ⟨Stp I_cf w_ce I_cf, Stp.refl _ _, fun x hx => hz.held hx, ?_⟩
                      have hz := Stp.refl I_cf w_ce
                      obtain ⟨y_ck, q_cl, q_aj⟩ := bind_some q_aj
                      refine W.cut (γ := ((List Node_2) × (List Int) × (List Bool) × Bool × Value × Value × Ent × Value × Ent × (Nat → Prop))) (fun g => [(1, v_4), (11, (.pointer (some ⟨g_95, 0, none⟩))), (13, (.pointer none)), (15, (.int .i64 x_a7)), (153, (.bool (g.2.2.2.1)))]) (fun g w' => y_ck = ((g.1), (g.2.1), (g.2.2.1), (g.2.2.2.1)) ∧ Hp ⟨w0, I0, []⟩ (g.2.2.2.2.2.2.2.2.2) [(g.2.2.2.2.2.2.1), (g.2.2.2.2.2.2.2.2.1), some (g_95, [(g.2.2.2.2.1), (g.2.2.2.2.2.1), (g.2.2.2.2.2.2.2.1)], 61)] w' ∧ RepS dInput w' (g.2.2.2.2.2.2.2.2.2) v_4 x_3 ∧ RepS dNode_2 w' (g.2.2.2.2.2.2.2.2.2) (g.2.2.2.2.1) (g.1) ∧ OwnS (dI .i64) 3 w' (g.2.2.2.2.2.2.2.2.2) (g.2.2.2.2.2.1) (g.2.2.2.2.2.2.1) (g.2.1) ∧ OwnS dB 4 w' (g.2.2.2.2.2.2.2.2.2) (g.2.2.2.2.2.2.2.1) (g.2.2.2.2.2.2.2.2.1) (g.2.2.1)) ?_ ?_
                      ·
                        apply go
                        refine sel_of (fun hc => ?_) (fun hc => ?_)
                        ·
                          have q_cl := cond_t q_cl hc
                          obtain rfl := Option.some.inj q_cl
                          have hp := hp.perm [1, 2, 0] (by decide)
                          exact ⟨(x_b8.nodes, x_b8.counters, x_b8.active, true, v_bi, v_bj, e_bk, v_bl, e_bm, I_cf), (.c rfl (.c rfl (.c rfl (.c rfl (.c rfl .n))))), rfl, hp, r_5, r_bn, o_bo, o_bp⟩
                        ·
                          have q_cl := cond_f q_cl hc
                          refine ev0 (rn_len rfl rfl Try.underlying39 r_bf) ?_
                          refine ev0 (rn_len rfl rfl Try.underlying39 r_ci) ?_
                          refine sel_of (fun hc => ?_) (fun hc => ?_)
                          ·
                            have q_cl := cond_t q_cl hc
                            obtain rfl := Option.some.inj q_cl
                            have hp := hp.perm [1, 2, 0] (by decide)
                            exact ⟨(x_b8.nodes, x_b8.counters, x_b8.active, true, v_bi, v_bj, e_bk, v_bl, e_bm, I_cf), (.c rfl (.c rfl (.c rfl (.c rfl (.c rfl .n))))), rfl, hp, r_5, r_bn, o_bo, o_bp⟩
                          ·
                            have q_cl := cond_f q_cl hc
                            refine ev0 (rn_len rfl rfl Try.underlying39 r_bg) ?_
                            refine ev0 (rn_len rfl rfl Try.underlying39 r_cj) ?_
                            refine sel_of (fun hc => ?_) (fun hc => ?_)
                            ·
                              have q_cl := cond_t q_cl hc
                              obtain rfl := Option.some.inj q_cl
                              have hp := hp.perm [1, 2, 0] (by decide)
                              exact ⟨(x_b8.nodes, x_b8.counters, x_b8.active, true, v_bi, v_bj, e_bk, v_bl, e_bm, I_cf), (.c rfl (.c rfl (.c rfl (.c rfl (.c rfl .n))))), rfl, hp, r_5, r_bn, o_bo, o_bp⟩
                            ·
                              have q_cl := cond_f q_cl hc
                              obtain ⟨⟨x_cm, x_cn⟩, q_co, q_cl⟩ := bind_some q_cl
                              refine ev_call rfl rfl C22 (((tree_Runner_Active_ok n) _ _  (Runner.mk x_b8.nodes x_b8.counters x_b8.active) g_95 [some (g_95, [v_bi, v_bj, v_bl], 61), e_bk, e_bm] ⟨v_bi, v_bj, e_bk, v_bl, e_bm, rfl, r_bn, o_bo, o_bp⟩ (hp.lendL [0, 1, 2] (by decide)) _ q_co).mono ?_)
                              rintro _ w_cp ⟨I_cq, v_cr, F_cs, hv, hq15929, r_ct, q_cu⟩
                              replace hv := hv.symm
                              subst hv
                              obtain ⟨v_cv, v_cw, e_cx, v_cy, e_cz, rfl, r_d0, o_d1, o_d2⟩ := q_cu
                              have hs := hq15929.st
                              have hp := hp.backL [0, 1, 2] [] (by decide) hq15929
                              replace r_5 := r_5.step hs
                              replace r_bf := r_bf.step hs
                              replace r_ci := r_ci.step hs
                              replace r_bg := r_bg.step hs
                              replace r_cj := r_cj.step hs
                              refine ev0 (rn_len rfl rfl Try.underlying39 r_ct) ?_
                              obtain ⟨x_d3, q_d4, q_cl⟩ := bind_some q_cl
                              refine ev_call rfl rfl C22 (((tree_Runner_Activenil_ok n) _ _   hp.imm _ q_d4).mono ?_)
                              rintro _ w_d5 ⟨I_d6, v_d7, hv, hq, r_d8⟩
                              replace hv := hv.symm
                              subst hv
                              have hs := hq.st
                              have hp := hp.join0 hq
                              replace r_5 := r_5.step hs
                              replace r_bf := r_bf.step hs
                              replace r_ci := r_ci.step hs
                              replace r_bg := r_bg.step hs
                              replace r_cj := r_cj.step hs
                              replace r_ct := r_ct.step hs
                              replace r_d0 := r_d0.step hs
                              replace o_d1 := o_d1.step hs
                              replace o_d2 := o_d2.step hs
                              refine ev0 (rn_len rfl rfl Try.underlying39 r_d8) ?_
                              obtain rfl := Option.some.inj q_cl
                              have hp := hp.perm [1, 2, 0] (by decide)
                              exact ⟨(x_cn.nodes, x_cn.counters, x_cn.active, ((x_cm.length : Int) != (x_d3.length : Int)), v_cv, v_cw, e_cx, v_cy, e_cz, I_d6), (.c rfl (.c rfl (.c rfl (.c rfl (.c rfl .n))))), rfl, hp, r_5, r_d0, o_d1, o_d2⟩
                      ·
                        rintro ⟨x_d9, x_da, x_db, x_dc, v_dd, v_de, e_df, v_dg, e_dh, I_di⟩ w_dj ⟨hy, hp, r_5, r_dk, o_dl, o_dm⟩
                        replace hy := hy.symm
                        subst hy
                        apply go
                        refine sel_of (fun hc => ?_) (fun hc => ?_)
                        ·
                          have q_aj := cond_t q_aj hc
                          apply go
                          apply go
                          apply go
                          have q_dn := congrArg some (q_ak _ (Option.some.inj q_aj).symm)
                          obtain rfl := Option.some.inj q_dn
                          obtain rfl := Option.some.inj h
                          exact ⟨rfl, hp.ch⟩
                        ·
                          have q_aj := cond_f q_aj hc
                          apply go
                          apply go
                          exact ⟨_, (Option.some.inj q_aj).symm, (v_dd, v_de, e_df, v_dg, e_dh, I_di), (.c rfl (.c rfl (.c rfl (.c rfl .n)))), ⟨hp, r_5, r_dk, o_dl, o_dm⟩⟩
                    ·
                      have q_aj := cond_f q_aj hc
                      apply go
                      have q_do := congrArg some (q_ak _ (Option.some.inj q_aj).symm)
                      obtain rfl := Option.some.inj q_do
                      have hp := hp.sel [] (by decide)
                      exact ⟨I_ad, .n, rfl, hp⟩
                  ·
                    rintro I_dp w_dq ⟨hy, hp⟩
                    replace hy := hy.symm
                    subst hy
                    apply go
                    apply go
                    apply go
                    obtain rfl := Option.some.inj h
                    exact ⟨rfl, hp.ch⟩
            ·
              obtain ⟨g_dr, rfl, v_ds, v_dt, e_du, v_dv, e_dw, rfl, f_dx, o_dy, o_dz⟩ := q_9v
              have r_e0 := f_dx.imm
              have hs := hq14623.st
              have hp := hp.join0 hq14623
              replace r_5 := r_5.step hs
              replace r_9e := r_9e.step hs
              replace o_9c := o_9c.step hs
              replace o_9d := o_9d.step hs
              apply go
              obtain ⟨y_e1, q_e2, h⟩ := bind_some h
              refine W.cut (γ := Bool) (fun g => [(1, v_4), (11, (.pointer (some ⟨g_95, 0, none⟩))), (12, (.int .i64 x_1o)), (13, (.pointer (some ⟨g_dr, 0, none⟩))), (14, (.int .i64 x_9p)), (78, (.bool (g)))]) (fun g w' => y_e1 = (g) ∧ w_9r = w') ?_ ?_
              ·
                apply go
                refine sel_of (fun hc => ?_) (fun hc => ?_)
                ·
                  have q_e2 := cond_t q_e2 hc
                  obtain rfl := Option.some.inj q_e2
                  exact ⟨true, (.c rfl (.c rfl (.c rfl (.c rfl (.c rfl (.c rfl .n)))))), rfl, rfl⟩
                ·
                  have q_e2 := cond_f q_e2 hc
                  obtain rfl := Option.some.inj q_e2
                  exact ⟨(x_1o != 0), (.c rfl (.c rfl (.c rfl (.c rfl (.c rfl (.c rfl .n)))))), rfl, rfl⟩
              ·
                rintro x_e3 _ ⟨hy, rfl⟩
                replace hy := hy.symm
                subst hy
                apply go
                refine sel_of (fun hc => ?_) (fun hc => ?_)
                ·
                  have h := cond_t h hc
                  obtain ⟨y_e4, q_e5, h⟩ := bind_some h
                  refine W.cut (γ := Unit) (fun _ => [(6, (.bool false))]) (fun _ w' => y_e4 = () ∧ w_9r = w') ?_ ?_
                  ·
                    apply go
                    refine sel_of (fun hc => ?_) (fun hc => ?_)
                    ·
                      have q_e5 := cond_t q_e5 hc
                      refine ev0 (rn_eqNilP rfl rfl rfl Try.underlying28 (b := false) rfl) ?_
                      obtain rfl := Option.some.inj q_e5
                      exact ⟨(), (.c rfl .n), rfl, rfl⟩
                    ·
                      have q_e5 := cond_f q_e5 hc
                      obtain rfl := Option.some.inj q_e5
                      exact ⟨(), (.c rfl .n), rfl, rfl⟩
                  ·
                    rintro ⟨⟩ _ ⟨hy, rfl⟩
                    replace hy := hy.symm
                    subst hy
                    apply go
                    obtain rfl := Option.some.inj h
                    exact ⟨rfl, hp.ch⟩
                ·
                  have h := cond_f h hc
                  apply go
                  obtain ⟨y_e6, q_e7, h⟩ := bind_some h
                  refine W.cut (γ := (Nat → Prop)) (fun g => []) (fun g w' => y_e6 = .go () ∧ Hp ⟨w0, I0, []⟩ (g) [] w') ?_ ?_
                  ·
                    apply go
                    apply go
                    apply go
                    have hp := hp.perm [4, 5, 3, 1, 2, 0] (by decide)
                    refine W.loop q_e7 (γ := (Value × Value × Ent × Value × Ent × Value × Value × Ent × Value × Ent × (Nat → Prop))) (fun s g => [(1, v_4), (11, (.pointer (some ⟨g_95, 0, none⟩))), (13, (.pointer (some ⟨g_dr, 0, none⟩))), (15, (.int .i64 (s.2.2.2.2.2.2)))]) (fun s g w' => Hp ⟨w0, I0, []⟩ (g.2.2.2.2.2.2.2.2.2.2) [(g.2.2.1), (g.2.2.2.2.1), some (g_95, [(g.1), (g.2.1), (g.2.2.2.1)], 61), (g.2.2.2.2.2.2.2.1), (g.2.2.2.2.2.2.2.2.2.1), some (g_dr, [(g.2.2.2.2.2.1), (g.2.2.2.2.2.2.1), (g.2.2.2.2.2.2.2.2.1)], 61)] w' ∧ RepS dInput w' (g.2.2.2.2.2.2.2.2.2.2) v_4 x_3 ∧ RepS dNode_2 w' (g.2.2.2.2.2.2.2.2.2.2) (g.1) (s.1) ∧ OwnS (dI .i64) 3 w' (g.2.2.2.2.2.2.2.2.2.2) (g.2.1) (g.2.2.1) (s.2.1) ∧ OwnS dB 4 w' (g.2.2.2.2.2.2.2.2.2.2) (g.2.2.2.1) (g.2.2.2.2.1) (s.2.2.1) ∧ RepS dNode_2 w' (g.2.2.2.2.2.2.2.2.2.2) (g.2.2.2.2.2.1) (s.2.2.2.1) ∧ OwnS (dI .i64) 3 w' (g.2.2.2.2.2.2.2.2.2.2) (g.2.2.2.2.2.2.1) (g.2.2.2.2.2.2.2.1) (s.2.2.2.2.1) ∧ OwnS dB 4 w' (g.2.2.2.2.2.2.2.2.2.2) (g.2.2.2.2.2.2.2.2.1) (g.2.2.2.2.2.2.2.2.2.1) (s.2.2.2.2.2.1)) (v_96, v_97, e_98, v_99, e_9a, v_ds, v_dt, e_du, v_dv, e_dw, I_9s) (.c rfl (.c rfl (.c rfl (.c rfl .n)))) ⟨hp, r_5, r_9e, o_9c, o_9d, r_e0, o_dy, o_dz⟩ ?_
                    rintro ⟨x_e8, x_e9, x_ea, x_eb, x_ec, x_ed, x_ee⟩ ⟨v_ef, v_eg, e_eh, v_ei, e_ej, v_ek, v_el, e_em, v_en, e_eo, I_ep⟩ w_eq y_er ⟨hp, r_5, r_es, o_et, o_eu, r_ev, o_ew, o_ex⟩ q_ey q_ez
                    unfold law41_TreeMorgan_L9 at q_ey
                    apply go
                    apply go
                    apply go
                    refine ev0 (rn_len rfl rfl Try.underlying32 r_5) ?_
                    apply go
                    refine sel_of (fun hc => ?_) (fun hc => ?_)
                    ·
                      have q_ey := cond_t q_ey hc
                      apply go
                      apply go
                      apply go
                      apply go
                      have hs := hp.stp (Ch.drew [] w_eq)
                      have hp := hp.drew
                      replace r_5 := r_5.step hs
                      replace r_es := r_es.step hs
                      replace o_et := o_et.step hs
                      replace o_eu := o_eu.step hs
                      replace r_ev := r_ev.step hs
                      replace o_ew := o_ew.step hs
                      replace o_ex := o_ex.step hs
                      refine W.held [(0, true), (1, true), (2, true), (3, true), (4, true), (5, true), (6, true), (7, true), (8, true), (9, true), (10, true), (11, false), (12, true), (13, true), (14, true), (15, true), (16, true), (17, true), (18, true)] (Stp I_ep w_eq.drew I_ep) MX (by kernel_rfl) (Stp.refl _ _) ?_
                      have hz := Stp.refl I_ep w_eq.drew
                      obtain ⟨x_f0, q_f1, q_ey⟩ := bind_some q_ey
                      refine evh_index rfl rfl rfl Try.underlying32 T42 r_5 q_f1 ?_
                      intro p_f2 c_f3 d_f4 a_f5
                      obtain ⟨v_f6, v_f7, rfl, r_f8, r_f9⟩ := dInput_o d_f4
                      refine evh0 (rn_field rfl rfl FO42_0) ?_
                      refine evh (fun w' hw => rn_load rfl rfl (run_loadVar1 T39 ((a_f5.step hw).2 0 _ rfl))) ?_
                      obtain ⟨x_fa, q_fb, q_ey⟩ := bind_some q_ey
                      refine evh_index rfl rfl rfl Try.underlying32 T42 r_5 q_fb ?_
                      intro p_fc c_fd d_fe a_ff
                      obtain ⟨v_fg, v_fh, rfl, r_fi, r_fj⟩ := dInput_o d_fe
                      refine evh0 (rn_field rfl rfl FO42_1) ?_
                      refine evh (fun w' hw => rn_load rfl rfl (run_loadVar1 T40 ((a_ff.step hw).2 1 _ rfl))) ?_
                      obtain ⟨⟨x_fk, x_fl, x_fm, x_fn⟩, q_fo, q_ey⟩ := bind_some q_ey
                      refine ev_call rfl rfl C21 (((tree_Runner_Tick_ok n) _ _  (Runner.mk x_e8 x_e9 x_ea) g_95 [some (g_95, [v_ef, v_eg, v_ei], 61), e_eh, e_ej] ⟨v_ef, v_eg, e_eh, v_ei, e_ej, rfl, r_es, o_et, o_eu⟩ x_f0.Actions v_f6 r_f8 x_fa.Tests v_fh r_fj (hp.lendL [2, 0, 1] (by decide)) _ q_fo).mono ?_)
                      rintro _ w_fp ⟨I_fq, v_fr, v_fs, F_ft, hv, hq17481, r_fu, r_fv, q_fw⟩
                      replace hv := hv.symm
                      subst hv
                      obtain ⟨v_fx, v_fy, e_fz, v_g0, e_g1, rfl, r_g2, o_g3, o_g4⟩ := q_fw
                      have hs := hq17481.st
                      have hp := hp.backL [2, 0, 1] [3, 4, 5] (by decide) hq17481
                      replace hz := hz.trans hs
                      replace r_5 := r_5.step hs
                      replace r_ev := r_ev.step hs
                      replace o_ew := o_ew.step hs
                      replace o_ex := o_ex.step hs
                      refine ⟨Stp I_fq w_fp I_fq, Stp.refl _ _, fun x hx => hz.held hx, ?_⟩
                      have hz := Stp.refl I_fq w_fp
                      apply go
                      have hs := hp.stp (Ch.drew [] w_fp)
                      have hp := hp.drew
                      replace r_5 := r_5.step hs
                      replace r_fu := r_fu.step hs
                      replace r_fv := r_fv.step hs
                      replace r_g2 := r_g2.step hs
                      replace o_g3 := o_g3.step hs
                      replace o_g4 := o_g4.step hs
                      replace r_ev := r_ev.step hs
                      replace o_ew := o_ew.step hs
                      replace o_ex := o_ex.step hs
                      refine W.held [(0, true), (1, true), (2, true), (3, true), (4, true), (5, true), (6, true), (7, true), (8, true), (9, true), (10, true), (11, false), (12, true), (13, true), (14, true), (15, true), (16, true), (17, true), (18, true)] (Stp I_fq w_fp.drew I_fq) MX (by kernel_rfl) (Stp.refl _ _) ?_
                      have hz := Stp.refl I_fq w_fp.drew
                      obtain ⟨x_g5, q_g6, q_ey⟩ := bind_some q_ey
                      refine evh_index rfl rfl rfl Try.underlying32 T42 r_5 q_g6 ?_
                      intro p_g7 c_g8 d_g9 a_ga
                      obtain ⟨v_gb, v_gc, rfl, r_gd, r_ge⟩ := dInput_o d_g9
                      refine evh0 (rn_field rfl rfl FO42_0) ?_
                      refine evh (fun w' hw => rn_load rfl rfl (run_loadVar1 T39 ((a_ga.step hw).2 0 _ rfl))) ?_
                      obtain ⟨x_gf, q_gg, q_ey⟩ := bind_some q_ey
                      refine evh_index rfl rfl rfl Try.underlying32 T42 r_5 q_gg ?_
                      intro p_gh c_gi d_gj a_gk
                      obtain ⟨v_gl, v_gm, rfl, r_gn, r_go⟩ := dInput_o d_gj
                      refine evh0 (rn_field rfl rfl FO42_1) ?_
                      refine evh (fun w' hw => rn_load rfl rfl (run_loadVar1 T40 ((a_gk.step hw).2 1 _ rfl))) ?_
                      obtain ⟨⟨x_gp, x_gq, x_gr, x_gs⟩, q_gt, q_ey⟩ := bind_some q_ey
                      refine ev_call rfl rfl C21 (((tree_Runner_Tick_ok n) _ _  (Runner.mk x_eb x_ec x_ed) g_dr [some (g_dr, [v_ek, v_el, v_en], 61), e_em, e_eo] ⟨v_ek, v_el, e_em, v_en, e_eo, rfl, r_ev, o_ew, o_ex⟩ x_g5.Actions v_gb r_gd x_gf.Tests v_gm r_go (hp.lendL [5, 3, 4] (by decide)) _ q_gt).mono ?_)
                      rintro _ w_gu ⟨I_gv, v_gw, v_gx, F_gy, hv, hq17565, r_gz, r_h0, q_h1⟩
                      replace hv := hv.symm
                      subst hv
                      obtain ⟨v_h2, v_h3, e_h4, v_h5, e_h6, rfl, r_h7, o_h8, o_h9⟩ := q_h1
                      have hs := hq17565.st
                      have hp := hp.backL [5, 3, 4] [0, 1, 2] (by decide) hq17565
                      replace hz := hz.trans hs
                      replace r_5 := r_5.step hs
                      replace r_fu := r_fu.step hs
                      replace r_fv := r_fv.step hs
                      replace r_g2 := r_g2.step hs
                      replace o_g3 := o_g3.step hs
                      replace o_g4 := o_g4.step hs
                      refine ⟨Stp I_gv w_gu I_gv, Stp.refl _ _, fun x hx => hz.held hx, ?_⟩
                      have hz := Stp.refl I_gv w_gu
                      obtain ⟨y_ha, q_hb, q_ey⟩ := bind_some q_ey
                      refine W.cut (γ := ((List Node_2) × (List Int) × (List Bool) × (List Node_2) × (List Int) × (List Bool) × Bool × Value × Value × Ent × Value × Ent × Value × Value × Ent × Value × Ent × (Nat → Prop))) (fun g => [(1, v_4), (11, (.pointer (some ⟨g_95, 0, none⟩))), (13, (.pointer (some ⟨g_dr, 0, none⟩))), (15, (.int .i64 x_ee)), (153, (.bool (g.2.2.2.2.2.2.1)))]) (fun g w' => y_ha = ((g.1), (g.2.1), (g.2.2.1), (g.2.2.2.1), (g.2.2.2.2.1), (g.2.2.2.2.2.1), (g.2.2.2.2.2.2.1)) ∧ Hp ⟨w0, I0, []⟩ (g.2.2.2.2.2.2.2.2.2.2.2.2.2.2.2.2.2) [(g.2.2.2.2.2.2.2.2.2.1), (g.2.2.2.2.2.2.2.2.2.2.2.1), some (g_95, [(g.2.2.2.2.2.2.2.1), (g.2.2.2.2.2.2.2.2.1), (g.2.2.2.2.2.2.2.2.2.2.1)], 61), (g.2.2.2.2.2.2.2.2.2.2.2.2.2.2.1), (g.2.2.2.2.2.2.2.2.2.2.2.2.2.2.2.2.1), some (g_dr, [(g.2.2.2.2.2.2.2.2.2.2.2.2.1), (g.2.2.2.2.2.2.2.2.2.2.2.2.2.1), (g.2.2.2.2.2.2.2.2.2.2.2.2.2.2.2.1)], 61)] w' ∧ RepS dInput w' (g.2.2.2.2.2.2.2.2.2.2.2.2.2.2.2.2.2) v_4 x_3 ∧ RepS dNode_2 w' (g.2.2.2.2.2.2.2.2.2.2.2.2.2.2.2.2.2) (g.2.2.2.2.2.2.2.1) (g.1) ∧ OwnS (dI .i64) 3 w' (g.2.2.2.2.2.2.2.2.2.2.2.2.2.2.2.2.2) (g.2.2.2.2.2.2.2.2.1) (g.2.2.2.2.2.2.2.2.2.1) (g.2.1) ∧ OwnS dB 4 w' (g.2.2.2.2.2.2.2.2.2.2.2.2.2.2.2.2.2) (g.2.2.2.2.2.2.2.2.2.2.1) (g.2.2.2.2.2.2.2.2.2.2.2.1) (g.2.2.1) ∧ RepS dNode_2 w' (g.2.2.2.2.2.2.2.2.2.2.2.2.2.2.2.2.2) (g.2.2.2.2.2.2.2.2.2.2.2.2.1) (g.2.2.2.1) ∧ OwnS (dI .i64) 3 w' (g.2.2.2.2.2.2.2.2.2.2.2.2.2.2.2.2.2) (g.2.2.2.2.2.2.2.2.2.2.2.2.2.1) (g.2.2.2.2.2.2.2.2.2.2.2.2.2.2.1) (g.2.2.2.2.1) ∧ OwnS dB 4 w' (g.2.2.2.2.2.2.2.2.2.2.2.2.2.2.2.2.2) (g.2.2.2.2.2.2.2.2.2.2.2.2.2.2.2.1) (g.2.2.2.2.2.2.2.2.2.2.2.2.2.2.2.2.1) (g.2.2.2.2.2.1)) ?_ ?_
                      ·
                        apply go
                        refine sel_of (fun hc => ?_) (fun hc => ?_)
                        ·
                          have q_hb := cond_t q_hb hc
                          obtain rfl := Option.some.inj q_hb
                          have hp := hp.perm [4, 5, 3, 1, 2, 0] (by decide)
                          exact ⟨(x_fn.nodes, x_fn.counters, x_fn.active, x_gs.nodes, x_gs.counters, x_gs.active, true, v_fx, v_fy, e_fz, v_g0, e_g1, v_h2, v_h3, e_h4, v_h5, e_h6, I_gv), (.c rfl (.c rfl (.c rfl (.c rfl (.c rfl .n))))), rfl, hp, r_5, r_g2, o_g3, o_g4, r_h7, o_h8, o_h9⟩
                        ·
                          have q_hb := cond_f q_hb hc
                          refine ev0 (rn_len rfl rfl Try.underlying39 r_fu) ?_
                          refine ev0 (rn_len rfl rfl Try.underlying39 r_gz) ?_
                          refine sel_of (fun hc => ?_) (fun hc => ?_)
                          ·
                            have q_hb := cond_t q_hb hc
                            obtain rfl := Option.some.inj q_hb
                            have hp := hp.perm [4, 5, 3, 1, 2, 0] (by decide)
                            exact ⟨(x_fn.nodes, x_fn.counters, x_fn.active, x_gs.nodes, x_gs.counters, x_gs.active, true, v_fx, v_fy, e_fz, v_g0, e_g1, v_h2, v_h3, e_h4, v_h5, e_h6, I_gv), (.c rfl (.c rfl (.c rfl (.c rfl (.c rfl .n))))), rfl, hp, r_5, r_g2, o_g3, o_g4, r_h7, o_h8, o_h9⟩
                          ·
                            have q_hb := cond_f q_hb hc
                            refine ev0 (rn_len rfl rfl Try.underlying39 r_fv) ?_
                            refine ev0 (rn_len rfl rfl Try.underlying39 r_h0) ?_
                            refine sel_of (fun hc => ?_) (fun hc => ?_)
                            ·
                              have q_hb := cond_t q_hb hc
                              obtain rfl := Option.some.inj q_hb
                              have hp := hp.perm [4, 5, 3, 1, 2, 0] (by decide)
                              exact ⟨(x_fn.nodes, x_fn.counters, x_fn.active, x_gs.nodes, x_gs.counters, x_gs.active, true, v_fx, v_fy, e_fz, v_g0, e_g1, v_h2, v_h3, e_h4, v_h5, e_h6, I_gv), (.c rfl (.c rfl (.c rfl (.c rfl (.c rfl .n))))), rfl, hp, r_5, r_g2, o_g3, o_g4, r_h7, o_h8, o_h9⟩
                            ·
                              have q_hb := cond_f q_hb hc
                              obtain ⟨⟨x_hc, x_hd⟩, q_he, q_hb⟩ := bind_some q_hb
                              refine ev_call rfl rfl C22 (((tree_Runner_Active_ok n) _ _  (Runner.mk x_fn.nodes x_fn.counters x_fn.active) g_95 [some (g_95, [v_fx, v_fy, v_g0], 61), e_fz, e_g1] ⟨v_fx, v_fy, e_fz, v_g0, e_g1, rfl, r_g2, o_g3, o_g4⟩ (hp.lendL [3, 4, 5] (by decide)) _ q_he).mono ?_)
                              rintro _ w_hf ⟨I_hg, v_hh, F_hi, hv, hq17646, r_hj, q_hk⟩
                              replace hv := hv.symm
                              subst hv
                              obtain ⟨v_hl, v_hm, e_hn, v_ho, e_hp, rfl, r_hq, o_hr, o_hs⟩ := q_hk
                              have hs := hq17646.st
                              have hp := hp.backL [3, 4, 5] [0, 1, 2] (by decide) hq17646
                              replace r_5 := r_5.step hs
                              replace r_fu := r_fu.step hs
                              replace r_gz := r_gz.step hs
                              replace r_fv := r_fv.step hs
                              replace r_h0 := r_h0.step hs
                              replace r_h7 := r_h7.step hs
                              replace o_h8 := o_h8.step hs
                              replace o_h9 := o_h9.step hs
                              refine ev0 (rn_len rfl rfl Try.underlying39 r_hj) ?_
                              obtain ⟨⟨x_ht, x_hu⟩, q_hv, q_hb⟩ := bind_some q_hb
                              refine ev_call rfl rfl C22 (((tree_Runner_Active_ok n) _ _  (Runner.mk x_gs.nodes x_gs.counters x_gs.active) g_dr [some (g_dr, [v_h2, v_h3, v_h5], 61), e_h4, e_h6] ⟨v_h2, v_h3, e_h4, v_h5, e_h6, rfl, r_h7, o_h8, o_h9⟩ (hp.lendL [3, 4, 5] (by decide)) _ q_hv).mono ?_)
                              rintro _ w_hw ⟨I_hx, v_hy, F_hz, hv, hq17664, r_i0, q_i1⟩
                              replace hv := hv.symm
                              subst hv
                              obtain ⟨v_i2, v_i3, e_i4, v_i5, e_i6, rfl, r_i7, o_i8, o_i9⟩ := q_i1
                              have hs := hq17664.st
                              have hp := hp.backL [3, 4, 5] [0, 1, 2] (by decide) hq17664
                              replace r_5 := r_5.step hs
                              replace r_fu := r_fu.step hs
                              replace r_gz := r_gz.step hs
                              replace r_fv := r_fv.step hs
                              replace r_h0 := r_h0.step hs
                              replace r_hj := r_hj.step hs
                              replace r_hq := r_hq.step hs
                              replace o_hr := o_hr.step hs
                              replace o_hs := o_hs.step hs
                              refine ev0 (rn_len rfl rfl Try.underlying39 r_i0) ?_
                              obtain rfl := Option.some.inj q_hb
                              have hp := hp.perm [4, 5, 3, 1, 2, 0] (by decide)
                              exact ⟨(x_hd.nodes, x_hd.counters, x_hd.active, x_hu.nodes, x_hu.counters, x_hu.active, ((x_hc.length : Int) != (x_ht.length : Int)), v_hl, v_hm, e_hn, v_ho, e_hp, v_i2, v_i3, e_i4, v_i5, e_i6, I_hx), (.c rfl (.c rfl (.c rfl (.c rfl (.c rfl .n))))), rfl, hp, r_5, r_hq, o_hr, o_hs, r_i7, o_i8, o_i9⟩
                      ·
                        rintro ⟨x_ia, x_ib, x_ic, x_id, x_ie, x_if, x_ig, v_ih, v_ii, e_ij, v_ik, e_il, v_im, v_in, e_io, v_ip, e_iq, I_ir⟩ w_is ⟨hy, hp, r_5, r_it, o_iu, o_iv, r_iw, o_ix, o_iy⟩
                        replace hy := hy.symm
                        subst hy
                        apply go
                        refine sel_of (fun hc => ?_) (fun hc => ?_)
                        ·
                          have q_ey := cond_t q_ey hc
                          apply go
                          apply go
                          apply go
                          have q_iz := congrArg some (q_ez _ (Option.some.inj q_ey).symm)
                          obtain rfl := Option.some.inj q_iz
                          obtain rfl := Option.some.inj h
                          exact ⟨rfl, hp.ch⟩
                        ·
                          have q_ey := cond_f q_ey hc
                          apply go
                          apply go
                          exact ⟨_, (Option.some.inj q_ey).symm, (v_ih, v_ii, e_ij, v_ik, e_il, v_im, v_in, e_io, v_ip, e_iq, I_ir), (.c rfl (.c rfl (.c rfl (.c rfl .n)))), ⟨hp, r_5, r_it, o_iu, o_iv, r_iw, o_ix, o_iy⟩⟩
                    ·
                      have q_ey := cond_f q_ey hc
                      apply go
                      have q_j0 := congrArg some (q_ez _ (Option.some.inj q_ey).symm)
                      obtain rfl := Option.some.inj q_j0
                      have hp := hp.sel [] (by decide)
                      exact ⟨I_ep, .n, rfl, hp⟩
                  ·
                    rintro I_j1 w_j2 ⟨hy, hp⟩
                    replace hy := hy.symm
                    subst hy
                    apply go
                    apply go
                    apply go
                    obtain rfl := Option.some.inj h
                    exact ⟨rfl, hp.ch⟩

end Go.Proofs.Ytknnmbcaoekgmaa
