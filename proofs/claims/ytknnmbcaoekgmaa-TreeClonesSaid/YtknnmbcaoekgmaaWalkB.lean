/-
  Each function of the program computes the plain function of its name.
-/
import Derived.Test.YtknnmbcaoekgmaaFactsA
import Derived.Test.YtknnmbcaoekgmaaWalkA
namespace Go.Proofs.Ytknnmbcaoekgmaa
open Go Go.Proofs.Ytknnmbcaoekgmaa.Gw Go.RowKit
set_option linter.unusedVariables false
attribute [local irreducible] Ev EvQ EvS EvH
def ref41_Runner_tick_S (f : Runner_2 → Node → Int → (List Int) → (List Bool) → Option (Int × Runner_2)) : Prop := ∀ (w0 : World) (I0 : Nat → Prop) (x_0 : Runner_2) (g_1 : Nat) (E_2 : List Ent) (q_3 : qV w0 I0 g_1 E_2 x_0) (x_4 : Node) (v_5 : Value) (r_6 : RepS dNode w0 I0 v_5 x_4.Kids) (x_7 : Int) (x_8 : (List Int)) (v_9 : Value) (r_a : RepS (dI .i64) w0 I0 v_9 x_8) (x_b : (List Bool)) (v_c : Value) (r_d : RepS dB w0 I0 v_c x_b) (hp : Hp ⟨w0, I0, blks E_2⟩ I0 E_2 w0) (r : (Int × Runner_2)), f x_0 x_4 x_7 x_8 x_b = some r →
    Ret Try.prog 41 #[(.pointer (some ⟨g_1, 0, none⟩)), (.agg #[(.int .i64 x_4.Kind), (.int .i64 x_4.Name), (.int .i64 x_4.Count), v_5]), (.int .i64 x_7), v_9, v_c] w0 fun v w1 => ∃ (I1 : Nat → Prop) (u_e : List Ent), v = (.int .i64 r.1) ∧ Hp ⟨w0, I0, blks E_2⟩ I1 u_e w1 ∧ qV w1 I1 g_1 u_e r.2
theorem ref41_Runner_tick_F_ok (n : Nat) (self : Runner_2 → Node → Int → (List Int) → (List Bool) → Option (Int × Runner_2)) (ih : ref41_Runner_tick_S self) : ref41_Runner_tick_S (ref41_Runner_tick_F n self) := by
  intro w0 I0 x_0 g_1 E_2 q_3 x_4 v_5 r_6 x_7 x_8 v_9 r_a x_b v_c r_d hp r h
  unfold ref41_Runner_tick_F at h
  refine enter Try.func41 rfl (Nat.le_of_ble_eq_true rfl) ?_
  generalize blks E_2 = B at hp ⊢
  obtain ⟨v_e, c_f, c_g, c_h, v_i, e_j, rfl, r_k, r_l, r_m, r_n, o_o⟩ := q_3
  have hp : Hp ⟨w0, I0, B⟩ I0 [some (g_1, ((Value.int .i64 x_0.T.Kind) :: ((Value.int .i64 x_0.T.Name) :: ((Value.int .i64 x_0.T.Count) :: (v_e :: (c_f ++ (c_g ++ (c_h ++ (v_i :: [])))))))), 65), e_j] w0 := hp
  apply go
  apply go
  refine ev_boxI hp rfl rfl ?_
  intro p_p I_q w_r hp hs a_s
  replace r_a := r_a.step hs
  replace r_d := r_d.step hs
  replace r_6 := r_6.step hs
  replace r_k := r_k.step hs
  replace r_l := r_l.step hs
  replace r_m := r_m.step hs
  replace r_n := r_n.step hs
  replace o_o := o_o.step hs
  obtain ⟨y_t, q_u, h⟩ := bind_some h
  refine W.cut (γ := ((List Int) × Value × Ent × (Nat → Prop))) (fun g => [(0, (.pointer (some ⟨g_1, 0, none⟩))), (2, (.int .i64 x_7)), (3, v_9), (4, v_c), (6, (.pointer (some (p_p))))]) (fun g w' => y_t = (g.1) ∧ Hp ⟨w0, I0, B⟩ (g.2.2.2) [(g.2.2.1), some (g_1, ((Value.int .i64 x_0.T.Kind) :: ((Value.int .i64 x_0.T.Name) :: ((Value.int .i64 x_0.T.Count) :: (v_e :: (c_f ++ (c_g ++ (c_h ++ ((g.2.1) :: [])))))))), 65)] w' ∧ RepS dNode w' (g.2.2.2) v_e x_0.T.Kids ∧ (dA 64 (dI .i64)).rep w' (g.2.2.2) c_f x_0.Counters ∧ (dA 64 dB).rep w' (g.2.2.2) c_g x_0.On ∧ (dA 64 (dI .i64)).rep w' (g.2.2.2) c_h x_0.Status ∧ OwnS (dI .i64) 3 w' (g.2.2.2) (g.2.1) (g.2.2.1) (g.1) ∧ RepS (dI .i64) w' (g.2.2.2) v_9 x_8 ∧ RepS dB w' (g.2.2.2) v_c x_b ∧ RepS dNode w' (g.2.2.2) v_5 x_4.Kids ∧ At w' (g.2.2.2) p_p [(.int .i64 x_4.Kind), (.int .i64 x_4.Name), (.int .i64 x_4.Count), v_5]) ?_ ?_
  ·
    apply go
    apply go
    refine ev0 (rn_field rfl rfl FO24_0) ?_
    refine ev (rn_load rfl rfl (run_loadVar1 T3 (a_s.2 0 _ rfl))) ?_
    apply go
    refine sel_of (fun hc => ?_) (fun hc => ?_)
    ·
      have q_u := cond_t q_u hc
      apply go
      refine ev0 (rn_field rfl rfl FO65_4) ?_
      refine ev (rn_load rfl rfl (run_loadVar1 T39 (hp.cell (i := 0) (off := 196) rfl (show (((Value.int .i64 x_0.T.Kind) :: ((Value.int .i64 x_0.T.Name) :: ((Value.int .i64 x_0.T.Count) :: (v_e :: (c_f ++ (c_g ++ (c_h ++ (v_i :: [])))))))) : List Value)[196]? = some _ from (gt_cons (n := 195) (by omega) (gt_cons (n := 194) (by omega) (gt_cons (n := 193) (by omega) (gt_cons (n := 192) (by omega) (gt_skip (n := 128) (Desc.len _ r_l) (by show _ = 64 + _; omega) (gt_skip (n := 64) (Desc.len _ r_m) (by show _ = 64 + _; omega) (gt_skip (n := 0) (Desc.len _ r_n) (by show _ = 64 + _; omega) gt_here))))))))))) ?_
      refine ev_litN (d := (dI .i64)) (xs := [x_7]) (cs := [(.int .i64 x_7)]) hp rfl rfl Try.underlying39 T3 (by decide) rfl rfl (Elems.cons (d := (dI .i64)) (xs := _) rfl (Elems.nil _ _ _ _)) ?_
      intro v_v I_w w_x hp hs r_y
      replace r_a := r_a.step hs
      replace r_d := r_d.step hs
      replace a_s := a_s.step hs
      replace r_6 := r_6.step hs
      replace o_o := o_o.step hs
      replace r_k := r_k.step hs
      replace r_l := r_l.step hs
      replace r_m := r_m.step hs
      replace r_n := r_n.step hs
      obtain ⟨x_z, q_10, q_u⟩ := bind_some q_u
      refine ev_append hp (i := 1) rfl rfl rfl rfl Try.underlying39 T3 rfl rfl o_o r_y q_10 ?_
      rintro v_11 e_12 w_13 hp hs o_14
      replace r_a := r_a.step hs
      replace r_d := r_d.step hs
      replace a_s := a_s.step hs
      replace r_6 := r_6.step hs
      replace r_k := r_k.step hs
      replace r_l := r_l.step hs
      replace r_m := r_m.step hs
      replace r_n := r_n.step hs
      replace o_o := o_o.step hs
      refine ev0 (rn_field rfl rfl FO65_4) ?_
      refine ev_store1 hp (i := 0) (off := 196) rfl rfl rfl rfl T39 o_14.one (by simp only [List.length_cons, List.length_append, List.length_nil, Desc.len _ r_l, Desc.len _ r_m, Desc.len _ r_n]; exact Nat.le_of_ble_eq_true rfl) ?_
      intro w_15 hp hs
      replace hp := (show (((Value.int .i64 x_0.T.Kind) :: ((Value.int .i64 x_0.T.Name) :: ((Value.int .i64 x_0.T.Count) :: (v_e :: (c_f ++ (c_g ++ (c_h ++ (v_i :: [])))))))) : List Value).set 196 v_11 = ((Value.int .i64 x_0.T.Kind) :: ((Value.int .i64 x_0.T.Name) :: ((Value.int .i64 x_0.T.Count) :: (v_e :: (c_f ++ (c_g ++ (c_h ++ (v_11 :: [])))))))) from (st_cons (n := 195) (by omega) (st_cons (n := 194) (by omega) (st_cons (n := 193) (by omega) (st_cons (n := 192) (by omega) (st_skip (n := 128) (Desc.len _ r_l) (by show _ = 64 + _; omega) (st_skip (n := 64) (Desc.len _ r_m) (by show _ = 64 + _; omega) (st_skip (n := 0) (Desc.len _ r_n) (by show _ = 64 + _; omega) st_here1)))))))) ▸ hp
      replace r_a := r_a.step hs
      replace r_d := r_d.step hs
      replace a_s := a_s.step hs
      replace r_6 := r_6.step hs
      replace r_k := r_k.step hs
      replace r_l := r_l.step hs
      replace r_m := r_m.step hs
      replace r_n := r_n.step hs
      replace o_14 := o_14.step hs
      obtain rfl := Option.some.inj q_u
      have hp := hp.perm [1, 0] (by decide)
      exact ⟨(x_z, v_11, e_12, I_w), (.c rfl (.c rfl (.c rfl (.c rfl (.c rfl .n))))), rfl, hp, r_k, r_l, r_m, r_n, o_14, r_a, r_d, r_6, a_s⟩
    ·
      have q_u := cond_f q_u hc
      apply go
      obtain rfl := Option.some.inj q_u
      have hp := hp.perm [1, 0] (by decide)
      exact ⟨(x_0.Ticked, v_i, e_j, I_q), (.c rfl (.c rfl (.c rfl (.c rfl (.c rfl .n))))), rfl, hp, r_k, r_l, r_m, r_n, o_o, r_a, r_d, r_6, a_s⟩
  ·
    rintro ⟨x_16, v_17, e_18, I_19⟩ w_1a ⟨hy, hp, r_k, r_l, r_m, r_n, o_1b, r_a, r_d, r_6, a_s⟩
    replace hy := hy.symm
    subst hy
    apply go
    obtain ⟨y_1c, q_1d, h⟩ := bind_some h
    refine W.cut (γ := Bool) (fun g => [(0, (.pointer (some ⟨g_1, 0, none⟩))), (2, (.int .i64 x_7)), (3, v_9), (4, v_c), (6, (.pointer (some (p_p)))), (36, (.bool (g)))]) (fun g w' => y_1c = (g) ∧ w_1a = w') ?_ ?_
    ·
      apply go
      refine ev0 (rn_field rfl rfl FO24_0) ?_
      refine ev (rn_load rfl rfl (run_loadVar1 T3 (a_s.2 0 _ rfl))) ?_
      refine sel_of (fun hc => ?_) (fun hc => ?_)
      ·
        have q_1d := cond_t q_1d hc
        obtain rfl := Option.some.inj q_1d
        exact ⟨true, (.c rfl (.c rfl (.c rfl (.c rfl (.c rfl (.c rfl .n)))))), rfl, rfl⟩
      ·
        have q_1d := cond_f q_1d hc
        refine ev0 (rn_field rfl rfl FO24_0) ?_
        refine ev (rn_load rfl rfl (run_loadVar1 T3 (a_s.2 0 _ rfl))) ?_
        obtain rfl := Option.some.inj q_1d
        exact ⟨(x_4.Kind == 2), (.c rfl (.c rfl (.c rfl (.c rfl (.c rfl (.c rfl .n)))))), rfl, rfl⟩
    ·
      rintro x_1e _ ⟨hy, rfl⟩
      replace hy := hy.symm
      subst hy
      apply go
      refine sel_of (fun hc => ?_) (fun hc => ?_)
      ·
        have h := cond_t h hc
        apply go
        apply go
        refine ev (rn_load rfl rfl (run_loadVarA T24 rfl a_s)) ?_
        obtain ⟨x_1f, q_1g, h⟩ := bind_some h
        refine ev_call rfl rfl C48 (((ref41_leaf_ok n) _ _  (Node.mk x_4.Kind x_4.Name x_4.Count x_4.Kids) v_5 r_6 x_8 v_9 r_a x_b v_c r_d hp.imm _ q_1g).mono ?_)
        rintro _ w_1h ⟨rfl, hc⟩
        have hs := hp.stp hc
        replace hp := hp.ext hc
        replace r_k := r_k.step hs
        replace r_l := r_l.step hs
        replace r_m := r_m.step hs
        replace r_n := r_n.step hs
        replace o_1b := o_1b.step hs
        obtain ⟨⟨x_1i, x_1j⟩, q_1k, h⟩ := bind_some h
        refine ev_call rfl rfl C47 (((ref41_Runner_done_ok n) _ _  (Runner_2.mk (Node.mk x_0.T.Kind x_0.T.Name x_0.T.Count x_0.T.Kids) x_0.Counters x_0.On x_0.Status x_16) g_1 [some (g_1, ((Value.int .i64 x_0.T.Kind) :: ((Value.int .i64 x_0.T.Name) :: ((Value.int .i64 x_0.T.Count) :: (v_e :: (c_f ++ (c_g ++ (c_h ++ (v_17 :: [])))))))), 65), e_18] ⟨v_e, c_f, c_g, c_h, v_17, e_18, rfl, r_k, r_l, r_m, r_n, o_1b⟩ x_7 x_1f (hp.lendL [1, 0] (by decide)) _ q_1k).mono ?_)
        rintro _ w_1l ⟨I_1m, F_1n, hv, hq6873, q_1o⟩
        replace hv := hv.symm
        subst hv
        obtain ⟨v_1p, c_1q, c_1r, c_1s, v_1t, e_1u, rfl, r_1v, r_1w, r_1x, r_1y, o_1z⟩ := q_1o
        have hs := hq6873.st
        have hp := hp.backL [1, 0] [] (by decide) hq6873
        apply go
        obtain rfl := Option.some.inj h
        exact ⟨I_1m, [some (g_1, ((Value.int .i64 x_1j.T.Kind) :: ((Value.int .i64 x_1j.T.Name) :: ((Value.int .i64 x_1j.T.Count) :: (v_1p :: (c_1q ++ (c_1r ++ (c_1s ++ (v_1t :: [])))))))), 65), e_1u], rfl, hp, ⟨v_1p, c_1q, c_1r, c_1s, v_1t, e_1u, rfl, r_1v, r_1w, r_1x, r_1y, o_1z⟩⟩
      ·
        have h := cond_f h hc
        apply go
        apply go
        apply go
        apply go
        apply go
        obtain ⟨y_20, q_21, h⟩ := bind_some h
        refine W.cut (γ := (Int × Int × Int × (List Node) × (List Int) × (List Bool) × (List Int) × (List Int) × Int × Int × Int × Value × (List Value) × (List Value) × (List Value) × Value × Ent × (Nat → Prop))) (fun g => [(0, (.pointer (some ⟨g_1, 0, none⟩))), (2, (.int .i64 x_7)), (6, (.pointer (some (p_p)))), (12, (.int .i64 (g.2.2.2.2.2.2.2.2.1))), (13, (.int .i64 (g.2.2.2.2.2.2.2.2.2.1))), (14, (.int .i64 (g.2.2.2.2.2.2.2.2.2.2.1)))]) (fun g w' => y_20 = .go ((g.1), (g.2.1), (g.2.2.1), (g.2.2.2.1), (g.2.2.2.2.1), (g.2.2.2.2.2.1), (g.2.2.2.2.2.2.1), (g.2.2.2.2.2.2.2.1), (g.2.2.2.2.2.2.2.2.1), (g.2.2.2.2.2.2.2.2.2.1), (g.2.2.2.2.2.2.2.2.2.2.1)) ∧ Hp ⟨w0, I0, B⟩ (g.2.2.2.2.2.2.2.2.2.2.2.2.2.2.2.2.2) [(g.2.2.2.2.2.2.2.2.2.2.2.2.2.2.2.2.1), some (g_1, ((Value.int .i64 (g.1)) :: ((Value.int .i64 (g.2.1)) :: ((Value.int .i64 (g.2.2.1)) :: ((g.2.2.2.2.2.2.2.2.2.2.2.1) :: ((g.2.2.2.2.2.2.2.2.2.2.2.2.1) ++ ((g.2.2.2.2.2.2.2.2.2.2.2.2.2.1) ++ ((g.2.2.2.2.2.2.2.2.2.2.2.2.2.2.1) ++ ((g.2.2.2.2.2.2.2.2.2.2.2.2.2.2.2.1) :: [])))))))), 65)] w' ∧ RepS dNode w' (g.2.2.2.2.2.2.2.2.2.2.2.2.2.2.2.2.2) (g.2.2.2.2.2.2.2.2.2.2.2.1) (g.2.2.2.1) ∧ (dA 64 (dI .i64)).rep w' (g.2.2.2.2.2.2.2.2.2.2.2.2.2.2.2.2.2) (g.2.2.2.2.2.2.2.2.2.2.2.2.1) (g.2.2.2.2.1) ∧ (dA 64 dB).rep w' (g.2.2.2.2.2.2.2.2.2.2.2.2.2.2.2.2.2) (g.2.2.2.2.2.2.2.2.2.2.2.2.2.1) (g.2.2.2.2.2.1) ∧ (dA 64 (dI .i64)).rep w' (g.2.2.2.2.2.2.2.2.2.2.2.2.2.2.2.2.2) (g.2.2.2.2.2.2.2.2.2.2.2.2.2.2.1) (g.2.2.2.2.2.2.1) ∧ OwnS (dI .i64) 3 w' (g.2.2.2.2.2.2.2.2.2.2.2.2.2.2.2.2.2) (g.2.2.2.2.2.2.2.2.2.2.2.2.2.2.2.1) (g.2.2.2.2.2.2.2.2.2.2.2.2.2.2.2.2.1) (g.2.2.2.2.2.2.2.1) ∧ RepS dNode w' (g.2.2.2.2.2.2.2.2.2.2.2.2.2.2.2.2.2) v_5 x_4.Kids ∧ At w' (g.2.2.2.2.2.2.2.2.2.2.2.2.2.2.2.2.2) p_p [(.int .i64 x_4.Kind), (.int .i64 x_4.Name), (.int .i64 x_4.Count), v_5]) ?_ ?_
        ·
          apply go
          apply go
          apply go
          refine W.loop q_21 (γ := (Value × (List Value) × (List Value) × (List Value) × Value × Ent × (Nat → Prop))) (fun s g => [(0, (.pointer (some ⟨g_1, 0, none⟩))), (2, (.int .i64 x_7)), (3, v_9), (4, v_c), (6, (.pointer (some (p_p)))), (11, (.int .i64 (s.2.2.2.2.2.2.2.2.1))), (12, (.int .i64 (s.2.2.2.2.2.2.2.2.2.1))), (13, (.int .i64 (s.2.2.2.2.2.2.2.2.2.2.1))), (14, (.int .i64 (s.2.2.2.2.2.2.2.2.2.2.2.1))), (15, (.int .i64 (s.2.2.2.2.2.2.2.2.2.2.2.2)))]) (fun s g w' => Hp ⟨w0, I0, B⟩ (g.2.2.2.2.2.2) [(g.2.2.2.2.2.1), some (g_1, ((Value.int .i64 (s.1)) :: ((Value.int .i64 (s.2.1)) :: ((Value.int .i64 (s.2.2.1)) :: ((g.1) :: ((g.2.1) ++ ((g.2.2.1) ++ ((g.2.2.2.1) ++ ((g.2.2.2.2.1) :: [])))))))), 65)] w' ∧ RepS dNode w' (g.2.2.2.2.2.2) (g.1) (s.2.2.2.1) ∧ (dA 64 (dI .i64)).rep w' (g.2.2.2.2.2.2) (g.2.1) (s.2.2.2.2.1) ∧ (dA 64 dB).rep w' (g.2.2.2.2.2.2) (g.2.2.1) (s.2.2.2.2.2.1) ∧ (dA 64 (dI .i64)).rep w' (g.2.2.2.2.2.2) (g.2.2.2.1) (s.2.2.2.2.2.2.1) ∧ OwnS (dI .i64) 3 w' (g.2.2.2.2.2.2) (g.2.2.2.2.1) (g.2.2.2.2.2.1) (s.2.2.2.2.2.2.2.1) ∧ RepS (dI .i64) w' (g.2.2.2.2.2.2) v_9 x_8 ∧ RepS dB w' (g.2.2.2.2.2.2) v_c x_b ∧ RepS dNode w' (g.2.2.2.2.2.2) v_5 x_4.Kids ∧ At w' (g.2.2.2.2.2.2) p_p [(.int .i64 x_4.Kind), (.int .i64 x_4.Name), (.int .i64 x_4.Count), v_5]) (v_e, c_f, c_g, c_h, v_17, e_18, I_19) (.c rfl (.c rfl (.c rfl (.c rfl (.c rfl (.c rfl (.c rfl (.c rfl (.c rfl (.c rfl .n)))))))))) ⟨hp, r_k, r_l, r_m, r_n, o_1b, r_a, r_d, r_6, a_s⟩ ?_
          rintro ⟨x_22, x_23, x_24, x_25, x_26, x_27, x_28, x_29, x_2a, x_2b, x_2c, x_2d, x_2e⟩ ⟨v_2f, c_2g, c_2h, c_2i, v_2j, e_2k, I_2l⟩ w_2m y_2n ⟨hp, r_2o, r_2p, r_2q, r_2r, o_2s, r_a, r_d, r_6, a_s⟩ q_2t q_2u
          unfold ref41_Runner_tick_L1 at q_2t
          apply go
          apply go
          apply go
          refine ev0 (rn_field rfl rfl FO24_3) ?_
          refine ev (rn_load rfl rfl (run_loadVar1 T22 (a_s.2 3 _ rfl))) ?_
          refine ev0 (rn_len rfl rfl Try.underlying22 r_6) ?_
          apply go
          refine sel_of (fun hc => ?_) (fun hc => ?_)
          ·
            have q_2t := cond_t q_2t hc
            apply go
            apply go
            apply go
            apply go
            apply go
            refine ev0 (rn_field rfl rfl FO24_3) ?_
            refine ev (rn_load rfl rfl (run_loadVar1 T22 (a_s.2 3 _ rfl))) ?_
            obtain ⟨x_2v, q_2w, q_2t⟩ := bind_some q_2t
            refine ev_index rfl rfl rfl Try.underlying22 T24 r_6 q_2w ?_
            intro p_2x c_2y d_2z a_30
            obtain ⟨v_31, rfl, r_32⟩ := dNode_o d_2z
            refine ev (rn_load rfl rfl (run_loadVarA T24 rfl a_30)) ?_
            obtain ⟨⟨x_33, x_34⟩, q_35, q_2t⟩ := bind_some q_2t
            refine ev_call rfl rfl C41 ((ih _ _  (Runner_2.mk (Node.mk x_22 x_23 x_24 x_25) x_26 x_27 x_28 x_29) g_1 [some (g_1, ((Value.int .i64 x_22) :: ((Value.int .i64 x_23) :: ((Value.int .i64 x_24) :: (v_2f :: (c_2g ++ (c_2h ++ (c_2i ++ (v_2j :: [])))))))), 65), e_2k] ⟨v_2f, c_2g, c_2h, c_2i, v_2j, e_2k, rfl, r_2o, r_2p, r_2q, r_2r, o_2s⟩ (Node.mk x_2v.Kind x_2v.Name x_2v.Count x_2v.Kids) v_31 r_32 x_2a x_8 v_9 r_a x_b v_c r_d (hp.lendL [1, 0] (by decide)) _ q_35).mono ?_)
            rintro _ w_36 ⟨I_37, F_38, hv, hq7366, q_39⟩
            replace hv := hv.symm
            subst hv
            obtain ⟨v_3a, c_3b, c_3c, c_3d, v_3e, e_3f, rfl, r_3g, r_3h, r_3i, r_3j, o_3k⟩ := q_39
            have hs := hq7366.st
            have hp := hp.backL [1, 0] [] (by decide) hq7366
            replace r_a := r_a.step hs
            replace r_d := r_d.step hs
            replace a_s := a_s.step hs
            replace r_6 := r_6.step hs
            apply go
            apply go
            refine ev0 (rn_field rfl rfl FO24_3) ?_
            refine ev (rn_load rfl rfl (run_loadVar1 T22 (a_s.2 3 _ rfl))) ?_
            obtain ⟨x_3l, q_3m, q_2t⟩ := bind_some q_2t
            refine ev_index rfl rfl rfl Try.underlying22 T24 r_6 q_3m ?_
            intro p_3n c_3o d_3p a_3q
            obtain ⟨v_3r, rfl, r_3s⟩ := dNode_o d_3p
            refine ev (rn_load rfl rfl (run_loadVarA T24 rfl a_3q)) ?_
            obtain ⟨x_3t, q_3u, q_2t⟩ := bind_some q_2t
            refine ev_call rfl rfl C11 (((ref41_Size_ok n) _ _  (Node.mk x_3l.Kind x_3l.Name x_3l.Count x_3l.Kids) v_3r r_3s hp.imm _ q_3u).mono ?_)
            rintro _ w_3v ⟨rfl, hc⟩
            have hs := hp.stp hc
            replace hp := hp.ext hc
            replace r_a := r_a.step hs
            replace r_d := r_d.step hs
            replace a_s := a_s.step hs
            replace r_6 := r_6.step hs
            replace r_3g := r_3g.step hs
            replace r_3h := r_3h.step hs
            replace r_3i := r_3i.step hs
            replace r_3j := r_3j.step hs
            replace o_3k := o_3k.step hs
            obtain ⟨y_3w, q_3x, q_2t⟩ := bind_some q_2t
            refine W.cut (γ := Int) (fun g => [(0, (.pointer (some ⟨g_1, 0, none⟩))), (2, (.int .i64 x_7)), (3, v_9), (4, v_c), (6, (.pointer (some (p_p)))), (11, (.int .i64 (IntKind.i64.wrap (x_2a + x_3t)))), (12, (.int .i64 (g))), (13, (.int .i64 x_2c)), (14, (.int .i64 x_33)), (15, (.int .i64 x_2e))]) (fun g w' => y_3w = (g) ∧ w_3v = w') ?_ ?_
            ·
              apply go
              apply go
              apply go
              refine sel_of (fun hc => ?_) (fun hc => ?_)
              ·
                have q_3x := cond_t q_3x hc
                apply go
                obtain rfl := Option.some.inj q_3x
                exact ⟨(IntKind.i64.wrap (x_2b + 1)), (.c rfl (.c rfl (.c rfl (.c rfl (.c rfl (.c rfl (.c rfl (.c rfl (.c rfl (.c rfl .n)))))))))), rfl, rfl⟩
              ·
                have q_3x := cond_f q_3x hc
                apply go
                obtain rfl := Option.some.inj q_3x
                exact ⟨x_2b, (.c rfl (.c rfl (.c rfl (.c rfl (.c rfl (.c rfl (.c rfl (.c rfl (.c rfl (.c rfl .n)))))))))), rfl, rfl⟩
            ·
              rintro x_3y _ ⟨hy, rfl⟩
              replace hy := hy.symm
              subst hy
              obtain ⟨y_3z, q_40, q_2t⟩ := bind_some q_2t
              refine W.cut (γ := Int) (fun g => [(0, (.pointer (some ⟨g_1, 0, none⟩))), (2, (.int .i64 x_7)), (3, v_9), (4, v_c), (6, (.pointer (some (p_p)))), (11, (.int .i64 (IntKind.i64.wrap (x_2a + x_3t)))), (12, (.int .i64 x_3y)), (13, (.int .i64 (g))), (14, (.int .i64 x_33)), (15, (.int .i64 x_2e))]) (fun g w' => y_3z = (g) ∧ w_3v = w') ?_ ?_
              ·
                apply go
                apply go
                apply go
                refine sel_of (fun hc => ?_) (fun hc => ?_)
                ·
                  have q_40 := cond_t q_40 hc
                  apply go
                  obtain rfl := Option.some.inj q_40
                  exact ⟨(IntKind.i64.wrap (x_2c + 1)), (.c rfl (.c rfl (.c rfl (.c rfl (.c rfl (.c rfl (.c rfl (.c rfl (.c rfl (.c rfl .n)))))))))), rfl, rfl⟩
                ·
                  have q_40 := cond_f q_40 hc
                  apply go
                  obtain rfl := Option.some.inj q_40
                  exact ⟨x_2c, (.c rfl (.c rfl (.c rfl (.c rfl (.c rfl (.c rfl (.c rfl (.c rfl (.c rfl (.c rfl .n)))))))))), rfl, rfl⟩
              ·
                rintro x_41 _ ⟨hy, rfl⟩
                replace hy := hy.symm
                subst hy
                obtain ⟨y_42, q_43, q_2t⟩ := bind_some q_2t
                refine W.cut (γ := Bool) (fun g => [(0, (.pointer (some ⟨g_1, 0, none⟩))), (2, (.int .i64 x_7)), (3, v_9), (4, v_c), (6, (.pointer (some (p_p)))), (11, (.int .i64 (IntKind.i64.wrap (x_2a + x_3t)))), (12, (.int .i64 x_3y)), (13, (.int .i64 x_41)), (14, (.int .i64 x_33)), (15, (.int .i64 x_2e)), (94, (.bool (g)))]) (fun g w' => y_42 = (g) ∧ w_3v = w') ?_ ?_
                ·
                  apply go
                  refine ev0 (rn_field rfl rfl FO24_0) ?_
                  refine ev (rn_load rfl rfl (run_loadVar1 T3 (a_s.2 0 _ rfl))) ?_
                  refine sel_of (fun hc => ?_) (fun hc => ?_)
                  ·
                    have q_43 := cond_t q_43 hc
                    refine sel_of (fun hc => ?_) (fun hc => ?_)
                    ·
                      have q_43 := cond_t q_43 hc
                      obtain rfl := Option.some.inj q_43
                      exact ⟨true, (.c rfl (.c rfl (.c rfl (.c rfl (.c rfl (.c rfl (.c rfl (.c rfl (.c rfl (.c rfl (.c rfl .n))))))))))), rfl, rfl⟩
                    ·
                      have q_43 := cond_f q_43 hc
                      refine ev0 (rn_field rfl rfl FO24_0) ?_
                      refine ev (rn_load rfl rfl (run_loadVar1 T3 (a_s.2 0 _ rfl))) ?_
                      refine sel_of (fun hc => ?_) (fun hc => ?_)
                      ·
                        have q_43 := cond_t q_43 hc
                        obtain rfl := Option.some.inj q_43
                        exact ⟨(x_33 != 3), (.c rfl (.c rfl (.c rfl (.c rfl (.c rfl (.c rfl (.c rfl (.c rfl (.c rfl (.c rfl (.c rfl .n))))))))))), rfl, rfl⟩
                      ·
                        have q_43 := cond_f q_43 hc
                        obtain rfl := Option.some.inj q_43
                        exact ⟨false, (.c rfl (.c rfl (.c rfl (.c rfl (.c rfl (.c rfl (.c rfl (.c rfl (.c rfl (.c rfl (.c rfl .n))))))))))), rfl, rfl⟩
                  ·
                    have q_43 := cond_f q_43 hc
                    refine ev0 (rn_field rfl rfl FO24_0) ?_
                    refine ev (rn_load rfl rfl (run_loadVar1 T3 (a_s.2 0 _ rfl))) ?_
                    refine sel_of (fun hc => ?_) (fun hc => ?_)
                    ·
                      have q_43 := cond_t q_43 hc
                      obtain rfl := Option.some.inj q_43
                      exact ⟨(x_33 != 3), (.c rfl (.c rfl (.c rfl (.c rfl (.c rfl (.c rfl (.c rfl (.c rfl (.c rfl (.c rfl (.c rfl .n))))))))))), rfl, rfl⟩
                    ·
                      have q_43 := cond_f q_43 hc
                      obtain rfl := Option.some.inj q_43
                      exact ⟨false, (.c rfl (.c rfl (.c rfl (.c rfl (.c rfl (.c rfl (.c rfl (.c rfl (.c rfl (.c rfl (.c rfl .n))))))))))), rfl, rfl⟩
                ·
                  rintro x_44 _ ⟨hy, rfl⟩
                  replace hy := hy.symm
                  subst hy
                  apply go
                  refine sel_of (fun hc => ?_) (fun hc => ?_)
                  ·
                    have q_2t := cond_t q_2t hc
                    apply go
                    apply go
                    obtain ⟨⟨x_45, x_46⟩, q_47, q_2t⟩ := bind_some q_2t
                    refine ev_call rfl rfl C47 (((ref41_Runner_done_ok n) _ _  (Runner_2.mk (Node.mk x_34.T.Kind x_34.T.Name x_34.T.Count x_34.T.Kids) x_34.Counters x_34.On x_34.Status x_34.Ticked) g_1 [some (g_1, ((Value.int .i64 x_34.T.Kind) :: ((Value.int .i64 x_34.T.Name) :: ((Value.int .i64 x_34.T.Count) :: (v_3a :: (c_3b ++ (c_3c ++ (c_3d ++ (v_3e :: [])))))))), 65), e_3f] ⟨v_3a, c_3b, c_3c, c_3d, v_3e, e_3f, rfl, r_3g, r_3h, r_3i, r_3j, o_3k⟩ x_7 x_33 (hp.lendL [0, 1] (by decide)) _ q_47).mono ?_)
                    rintro _ w_48 ⟨I_49, F_4a, hv, hq7405, q_4b⟩
                    replace hv := hv.symm
                    subst hv
                    obtain ⟨v_4c, c_4d, c_4e, c_4f, v_4g, e_4h, rfl, r_4i, r_4j, r_4k, r_4l, o_4m⟩ := q_4b
                    have hs := hq7405.st
                    have hp := hp.backL [0, 1] [] (by decide) hq7405
                    apply go
                    have q_4n := congrArg some (q_2u _ (Option.some.inj q_2t).symm)
                    obtain rfl := Option.some.inj q_4n
                    obtain rfl := Option.some.inj h
                    exact ⟨I_49, [some (g_1, ((Value.int .i64 x_46.T.Kind) :: ((Value.int .i64 x_46.T.Name) :: ((Value.int .i64 x_46.T.Count) :: (v_4c :: (c_4d ++ (c_4e ++ (c_4f ++ (v_4g :: [])))))))), 65), e_4h], rfl, hp, ⟨v_4c, c_4d, c_4e, c_4f, v_4g, e_4h, rfl, r_4i, r_4j, r_4k, r_4l, o_4m⟩⟩
                  ·
                    have q_2t := cond_f q_2t hc
                    apply go
                    apply go
                    have hp := hp.perm [1, 0] (by decide)
                    exact ⟨_, (Option.some.inj q_2t).symm, (v_3a, c_3b, c_3c, c_3d, v_3e, e_3f, I_37), (.c rfl (.c rfl (.c rfl (.c rfl (.c rfl (.c rfl (.c rfl (.c rfl (.c rfl (.c rfl .n)))))))))), ⟨hp, r_3g, r_3h, r_3i, r_3j, o_3k, r_a, r_d, r_6, a_s⟩⟩
          ·
            have q_2t := cond_f q_2t hc
            apply go
            have q_4o := congrArg some (q_2u _ (Option.some.inj q_2t).symm)
            obtain rfl := Option.some.inj q_4o
            exact ⟨(x_22, x_23, x_24, x_25, x_26, x_27, x_28, x_29, x_2b, x_2c, x_2d, v_2f, c_2g, c_2h, c_2i, v_2j, e_2k, I_2l), (.c rfl (.c rfl (.c rfl (.c rfl (.c rfl (.c rfl .n)))))), rfl, hp, r_2o, r_2p, r_2q, r_2r, o_2s, r_6, a_s⟩
        ·
          rintro ⟨x_4p, x_4q, x_4r, x_4s, x_4t, x_4u, x_4v, x_4w, x_4x, x_4y, x_4z, v_50, c_51, c_52, c_53, v_54, e_55, I_56⟩ w_57 ⟨hy, hp, r_58, r_59, r_5a, r_5b, o_5c, r_6, a_s⟩
          replace hy := hy.symm
          subst hy
          apply go
          apply go
          apply go
          apply go
          refine ev0 (rn_field rfl rfl FO24_0) ?_
          refine ev (rn_load rfl rfl (run_loadVar1 T3 (a_s.2 0 _ rfl))) ?_
          apply go
          refine sel_of (fun hc => ?_) (fun hc => ?_)
          ·
            have h := cond_t h hc
            apply go
            apply go
            obtain ⟨⟨x_5d, x_5e⟩, q_5f, h⟩ := bind_some h
            refine ev_call rfl rfl C47 (((ref41_Runner_done_ok n) _ _  (Runner_2.mk (Node.mk x_4p x_4q x_4r x_4s) x_4t x_4u x_4v x_4w) g_1 [some (g_1, ((Value.int .i64 x_4p) :: ((Value.int .i64 x_4q) :: ((Value.int .i64 x_4r) :: (v_50 :: (c_51 ++ (c_52 ++ (c_53 ++ (v_54 :: [])))))))), 65), e_55] ⟨v_50, c_51, c_52, c_53, v_54, e_55, rfl, r_58, r_59, r_5a, r_5b, o_5c⟩ x_7 2 (hp.lendL [1, 0] (by decide)) _ q_5f).mono ?_)
            rintro _ w_5g ⟨I_5h, F_5i, hv, hq7426, q_5j⟩
            replace hv := hv.symm
            subst hv
            obtain ⟨v_5k, c_5l, c_5m, c_5n, v_5o, e_5p, rfl, r_5q, r_5r, r_5s, r_5t, o_5u⟩ := q_5j
            have hs := hq7426.st
            have hp := hp.backL [1, 0] [] (by decide) hq7426
            apply go
            obtain rfl := Option.some.inj h
            exact ⟨I_5h, [some (g_1, ((Value.int .i64 x_5e.T.Kind) :: ((Value.int .i64 x_5e.T.Name) :: ((Value.int .i64 x_5e.T.Count) :: (v_5k :: (c_5l ++ (c_5m ++ (c_5n ++ (v_5o :: [])))))))), 65), e_5p], rfl, hp, ⟨v_5k, c_5l, c_5m, c_5n, v_5o, e_5p, rfl, r_5q, r_5r, r_5s, r_5t, o_5u⟩⟩
          ·
            have h := cond_f h hc
            apply go
            apply go
            refine ev0 (rn_field rfl rfl FO24_0) ?_
            refine ev (rn_load rfl rfl (run_loadVar1 T3 (a_s.2 0 _ rfl))) ?_
            apply go
            refine sel_of (fun hc => ?_) (fun hc => ?_)
            ·
              have h := cond_t h hc
              apply go
              apply go
              obtain ⟨⟨x_5v, x_5w⟩, q_5x, h⟩ := bind_some h
              refine ev_call rfl rfl C47 (((ref41_Runner_done_ok n) _ _  (Runner_2.mk (Node.mk x_4p x_4q x_4r x_4s) x_4t x_4u x_4v x_4w) g_1 [some (g_1, ((Value.int .i64 x_4p) :: ((Value.int .i64 x_4q) :: ((Value.int .i64 x_4r) :: (v_50 :: (c_51 ++ (c_52 ++ (c_53 ++ (v_54 :: [])))))))), 65), e_55] ⟨v_50, c_51, c_52, c_53, v_54, e_55, rfl, r_58, r_59, r_5a, r_5b, o_5c⟩ x_7 3 (hp.lendL [1, 0] (by decide)) _ q_5x).mono ?_)
              rintro _ w_5y ⟨I_5z, F_60, hv, hq7445, q_61⟩
              replace hv := hv.symm
              subst hv
              obtain ⟨v_62, c_63, c_64, c_65, v_66, e_67, rfl, r_68, r_69, r_6a, r_6b, o_6c⟩ := q_61
              have hs := hq7445.st
              have hp := hp.backL [1, 0] [] (by decide) hq7445
              apply go
              obtain rfl := Option.some.inj h
              exact ⟨I_5z, [some (g_1, ((Value.int .i64 x_5w.T.Kind) :: ((Value.int .i64 x_5w.T.Name) :: ((Value.int .i64 x_5w.T.Count) :: (v_62 :: (c_63 ++ (c_64 ++ (c_65 ++ (v_66 :: [])))))))), 65), e_67], rfl, hp, ⟨v_62, c_63, c_64, c_65, v_66, e_67, rfl, r_68, r_69, r_6a, r_6b, o_6c⟩⟩
            ·
              have h := cond_f h hc
              obtain ⟨y_6d, q_6e, h⟩ := bind_some h
              refine W.cut (γ := Bool) (fun g => [(0, (.pointer (some ⟨g_1, 0, none⟩))), (2, (.int .i64 x_7)), (6, (.pointer (some (p_p)))), (13, (.int .i64 x_4y)), (14, (.int .i64 x_4z)), (113, (.bool (g)))]) (fun g w' => y_6d = (g) ∧ w_57 = w') ?_ ?_
              ·
                apply go
                refine ev0 (rn_field rfl rfl FO24_0) ?_
                refine ev (rn_load rfl rfl (run_loadVar1 T3 (a_s.2 0 _ rfl))) ?_
                refine sel_of (fun hc => ?_) (fun hc => ?_)
                ·
                  have q_6e := cond_t q_6e hc
                  refine ev0 (rn_field rfl rfl FO24_2) ?_
                  refine ev (rn_load rfl rfl (run_loadVar1 T3 (a_s.2 2 _ rfl))) ?_
                  obtain rfl := Option.some.inj q_6e
                  exact ⟨(decide (x_4x ≥ x_4.Count)), (.c rfl (.c rfl (.c rfl (.c rfl (.c rfl (.c rfl .n)))))), rfl, rfl⟩
                ·
                  have q_6e := cond_f q_6e hc
                  obtain rfl := Option.some.inj q_6e
                  exact ⟨false, (.c rfl (.c rfl (.c rfl (.c rfl (.c rfl (.c rfl .n)))))), rfl, rfl⟩
              ·
                rintro x_6f _ ⟨hy, rfl⟩
                replace hy := hy.symm
                subst hy
                apply go
                refine sel_of (fun hc => ?_) (fun hc => ?_)
                ·
                  have h := cond_t h hc
                  apply go
                  apply go
                  obtain ⟨⟨x_6g, x_6h⟩, q_6i, h⟩ := bind_some h
                  refine ev_call rfl rfl C47 (((ref41_Runner_done_ok n) _ _  (Runner_2.mk (Node.mk x_4p x_4q x_4r x_4s) x_4t x_4u x_4v x_4w) g_1 [some (g_1, ((Value.int .i64 x_4p) :: ((Value.int .i64 x_4q) :: ((Value.int .i64 x_4r) :: (v_50 :: (c_51 ++ (c_52 ++ (c_53 ++ (v_54 :: [])))))))), 65), e_55] ⟨v_50, c_51, c_52, c_53, v_54, e_55, rfl, r_58, r_59, r_5a, r_5b, o_5c⟩ x_7 2 (hp.lendL [1, 0] (by decide)) _ q_6i).mono ?_)
                  rintro _ w_6j ⟨I_6k, F_6l, hv, hq7467, q_6m⟩
                  replace hv := hv.symm
                  subst hv
                  obtain ⟨v_6n, c_6o, c_6p, c_6q, v_6r, e_6s, rfl, r_6t, r_6u, r_6v, r_6w, o_6x⟩ := q_6m
                  have hs := hq7467.st
                  have hp := hp.backL [1, 0] [] (by decide) hq7467
                  apply go
                  obtain rfl := Option.some.inj h
                  exact ⟨I_6k, [some (g_1, ((Value.int .i64 x_6h.T.Kind) :: ((Value.int .i64 x_6h.T.Name) :: ((Value.int .i64 x_6h.T.Count) :: (v_6n :: (c_6o ++ (c_6p ++ (c_6q ++ (v_6r :: [])))))))), 65), e_6s], rfl, hp, ⟨v_6n, c_6o, c_6p, c_6q, v_6r, e_6s, rfl, r_6t, r_6u, r_6v, r_6w, o_6x⟩⟩
                ·
                  have h := cond_f h hc
                  obtain ⟨y_6y, q_6z, h⟩ := bind_some h
                  refine W.cut (γ := Bool) (fun g => [(0, (.pointer (some ⟨g_1, 0, none⟩))), (2, (.int .i64 x_7)), (6, (.pointer (some (p_p)))), (14, (.int .i64 x_4z)), (126, (.bool (g)))]) (fun g w' => y_6y = (g) ∧ w_57 = w') ?_ ?_
                  ·
                    apply go
                    refine ev0 (rn_field rfl rfl FO24_0) ?_
                    refine ev (rn_load rfl rfl (run_loadVar1 T3 (a_s.2 0 _ rfl))) ?_
                    refine sel_of (fun hc => ?_) (fun hc => ?_)
                    ·
                      have q_6z := cond_t q_6z hc
                      refine ev0 (rn_field rfl rfl FO24_3) ?_
                      refine ev (rn_load rfl rfl (run_loadVar1 T22 (a_s.2 3 _ rfl))) ?_
                      refine ev0 (rn_len rfl rfl Try.underlying22 r_6) ?_
                      refine ev0 (rn_field rfl rfl FO24_2) ?_
                      refine ev (rn_load rfl rfl (run_loadVar1 T3 (a_s.2 2 _ rfl))) ?_
                      obtain rfl := Option.some.inj q_6z
                      exact ⟨(decide (x_4y > (IntKind.i64.wrap ((x_4.Kids.length : Int) - x_4.Count)))), (.c rfl (.c rfl (.c rfl (.c rfl (.c rfl .n))))), rfl, rfl⟩
                    ·
                      have q_6z := cond_f q_6z hc
                      obtain rfl := Option.some.inj q_6z
                      exact ⟨false, (.c rfl (.c rfl (.c rfl (.c rfl (.c rfl .n))))), rfl, rfl⟩
                  ·
                    rintro x_70 _ ⟨hy, rfl⟩
                    replace hy := hy.symm
                    subst hy
                    apply go
                    refine sel_of (fun hc => ?_) (fun hc => ?_)
                    ·
                      have h := cond_t h hc
                      apply go
                      apply go
                      obtain ⟨⟨x_71, x_72⟩, q_73, h⟩ := bind_some h
                      refine ev_call rfl rfl C47 (((ref41_Runner_done_ok n) _ _  (Runner_2.mk (Node.mk x_4p x_4q x_4r x_4s) x_4t x_4u x_4v x_4w) g_1 [some (g_1, ((Value.int .i64 x_4p) :: ((Value.int .i64 x_4q) :: ((Value.int .i64 x_4r) :: (v_50 :: (c_51 ++ (c_52 ++ (c_53 ++ (v_54 :: [])))))))), 65), e_55] ⟨v_50, c_51, c_52, c_53, v_54, e_55, rfl, r_58, r_59, r_5a, r_5b, o_5c⟩ x_7 3 (hp.lendL [1, 0] (by decide)) _ q_73).mono ?_)
                      rintro _ w_74 ⟨I_75, F_76, hv, hq7489, q_77⟩
                      replace hv := hv.symm
                      subst hv
                      obtain ⟨v_78, c_79, c_7a, c_7b, v_7c, e_7d, rfl, r_7e, r_7f, r_7g, r_7h, o_7i⟩ := q_77
                      have hs := hq7489.st
                      have hp := hp.backL [1, 0] [] (by decide) hq7489
                      apply go
                      obtain rfl := Option.some.inj h
                      exact ⟨I_75, [some (g_1, ((Value.int .i64 x_72.T.Kind) :: ((Value.int .i64 x_72.T.Name) :: ((Value.int .i64 x_72.T.Count) :: (v_78 :: (c_79 ++ (c_7a ++ (c_7b ++ (v_7c :: [])))))))), 65), e_7d], rfl, hp, ⟨v_78, c_79, c_7a, c_7b, v_7c, e_7d, rfl, r_7e, r_7f, r_7g, r_7h, o_7i⟩⟩
                    ·
                      have h := cond_f h hc
                      apply go
                      apply go
                      refine ev0 (rn_field rfl rfl FO24_0) ?_
                      refine ev (rn_load rfl rfl (run_loadVar1 T3 (a_s.2 0 _ rfl))) ?_
                      apply go
                      refine sel_of (fun hc => ?_) (fun hc => ?_)
                      ·
                        have h := cond_t h hc
                        apply go
                        apply go
                        obtain ⟨⟨x_7j, x_7k⟩, q_7l, h⟩ := bind_some h
                        refine ev_call rfl rfl C47 (((ref41_Runner_done_ok n) _ _  (Runner_2.mk (Node.mk x_4p x_4q x_4r x_4s) x_4t x_4u x_4v x_4w) g_1 [some (g_1, ((Value.int .i64 x_4p) :: ((Value.int .i64 x_4q) :: ((Value.int .i64 x_4r) :: (v_50 :: (c_51 ++ (c_52 ++ (c_53 ++ (v_54 :: [])))))))), 65), e_55] ⟨v_50, c_51, c_52, c_53, v_54, e_55, rfl, r_58, r_59, r_5a, r_5b, o_5c⟩ x_7 1 (hp.lendL [1, 0] (by decide)) _ q_7l).mono ?_)
                        rintro _ w_7m ⟨I_7n, F_7o, hv, hq7508, q_7p⟩
                        replace hv := hv.symm
                        subst hv
                        obtain ⟨v_7q, c_7r, c_7s, c_7t, v_7u, e_7v, rfl, r_7w, r_7x, r_7y, r_7z, o_80⟩ := q_7p
                        have hs := hq7508.st
                        have hp := hp.backL [1, 0] [] (by decide) hq7508
                        apply go
                        obtain rfl := Option.some.inj h
                        exact ⟨I_7n, [some (g_1, ((Value.int .i64 x_7k.T.Kind) :: ((Value.int .i64 x_7k.T.Name) :: ((Value.int .i64 x_7k.T.Count) :: (v_7q :: (c_7r ++ (c_7s ++ (c_7t ++ (v_7u :: [])))))))), 65), e_7v], rfl, hp, ⟨v_7q, c_7r, c_7s, c_7t, v_7u, e_7v, rfl, r_7w, r_7x, r_7y, r_7z, o_80⟩⟩
                      ·
                        have h := cond_f h hc
                        obtain ⟨y_81, q_82, h⟩ := bind_some h
                        refine W.cut (γ := Bool) (fun g => [(0, (.pointer (some ⟨g_1, 0, none⟩))), (2, (.int .i64 x_7)), (6, (.pointer (some (p_p)))), (14, (.int .i64 x_4z)), (150, (.bool (g)))]) (fun g w' => y_81 = (g) ∧ w_57 = w') ?_ ?_
                        ·
                          apply go
                          refine ev0 (rn_field rfl rfl FO24_0) ?_
                          refine ev (rn_load rfl rfl (run_loadVar1 T3 (a_s.2 0 _ rfl))) ?_
                          refine sel_of (fun hc => ?_) (fun hc => ?_)
                          ·
                            have q_82 := cond_t q_82 hc
                            obtain rfl := Option.some.inj q_82
                            exact ⟨(x_4z != 1), (.c rfl (.c rfl (.c rfl (.c rfl (.c rfl .n))))), rfl, rfl⟩
                          ·
                            have q_82 := cond_f q_82 hc
                            obtain rfl := Option.some.inj q_82
                            exact ⟨false, (.c rfl (.c rfl (.c rfl (.c rfl (.c rfl .n))))), rfl, rfl⟩
                        ·
                          rintro x_83 _ ⟨hy, rfl⟩
                          replace hy := hy.symm
                          subst hy
                          apply go
                          refine sel_of (fun hc => ?_) (fun hc => ?_)
                          ·
                            have h := cond_t h hc
                            apply go
                            apply go
                            obtain ⟨⟨x_84, x_85⟩, q_86, h⟩ := bind_some h
                            refine ev_call rfl rfl C47 (((ref41_Runner_done_ok n) _ _  (Runner_2.mk (Node.mk x_4p x_4q x_4r x_4s) x_4t x_4u x_4v x_4w) g_1 [some (g_1, ((Value.int .i64 x_4p) :: ((Value.int .i64 x_4q) :: ((Value.int .i64 x_4r) :: (v_50 :: (c_51 ++ (c_52 ++ (c_53 ++ (v_54 :: [])))))))), 65), e_55] ⟨v_50, c_51, c_52, c_53, v_54, e_55, rfl, r_58, r_59, r_5a, r_5b, o_5c⟩ x_7 (IntKind.i64.wrap (5 - x_4z)) (hp.lendL [1, 0] (by decide)) _ q_86).mono ?_)
                            rintro _ w_87 ⟨I_88, F_89, hv, hq7530, q_8a⟩
                            replace hv := hv.symm
                            subst hv
                            obtain ⟨v_8b, c_8c, c_8d, c_8e, v_8f, e_8g, rfl, r_8h, r_8i, r_8j, r_8k, o_8l⟩ := q_8a
                            have hs := hq7530.st
                            have hp := hp.backL [1, 0] [] (by decide) hq7530
                            apply go
                            obtain rfl := Option.some.inj h
                            exact ⟨I_88, [some (g_1, ((Value.int .i64 x_85.T.Kind) :: ((Value.int .i64 x_85.T.Name) :: ((Value.int .i64 x_85.T.Count) :: (v_8b :: (c_8c ++ (c_8d ++ (c_8e ++ (v_8f :: [])))))))), 65), e_8g], rfl, hp, ⟨v_8b, c_8c, c_8d, c_8e, v_8f, e_8g, rfl, r_8h, r_8i, r_8j, r_8k, o_8l⟩⟩
                          ·
                            have h := cond_f h hc
                            obtain ⟨y_8m, q_8n, h⟩ := bind_some h
                            refine W.cut (γ := (Int × Int × Int × (List Node) × (List Int) × (List Bool) × (List Int) × (List Int) × Bool × Value × (List Value) × (List Value) × (List Value) × Value × Ent × (Nat → Prop))) (fun g => [(0, (.pointer (some ⟨g_1, 0, none⟩))), (2, (.int .i64 x_7)), (6, (.pointer (some (p_p)))), (14, (.int .i64 x_4z)), (163, (.bool (g.2.2.2.2.2.2.2.2.1)))]) (fun g w' => y_8m = ((g.1), (g.2.1), (g.2.2.1), (g.2.2.2.1), (g.2.2.2.2.1), (g.2.2.2.2.2.1), (g.2.2.2.2.2.2.1), (g.2.2.2.2.2.2.2.1), (g.2.2.2.2.2.2.2.2.1)) ∧ Hp ⟨w0, I0, B⟩ (g.2.2.2.2.2.2.2.2.2.2.2.2.2.2.2) [(g.2.2.2.2.2.2.2.2.2.2.2.2.2.2.1), some (g_1, ((Value.int .i64 (g.1)) :: ((Value.int .i64 (g.2.1)) :: ((Value.int .i64 (g.2.2.1)) :: ((g.2.2.2.2.2.2.2.2.2.1) :: ((g.2.2.2.2.2.2.2.2.2.2.1) ++ ((g.2.2.2.2.2.2.2.2.2.2.2.1) ++ ((g.2.2.2.2.2.2.2.2.2.2.2.2.1) ++ ((g.2.2.2.2.2.2.2.2.2.2.2.2.2.1) :: [])))))))), 65)] w' ∧ RepS dNode w' (g.2.2.2.2.2.2.2.2.2.2.2.2.2.2.2) (g.2.2.2.2.2.2.2.2.2.1) (g.2.2.2.1) ∧ (dA 64 (dI .i64)).rep w' (g.2.2.2.2.2.2.2.2.2.2.2.2.2.2.2) (g.2.2.2.2.2.2.2.2.2.2.1) (g.2.2.2.2.1) ∧ (dA 64 dB).rep w' (g.2.2.2.2.2.2.2.2.2.2.2.2.2.2.2) (g.2.2.2.2.2.2.2.2.2.2.2.1) (g.2.2.2.2.2.1) ∧ (dA 64 (dI .i64)).rep w' (g.2.2.2.2.2.2.2.2.2.2.2.2.2.2.2) (g.2.2.2.2.2.2.2.2.2.2.2.2.1) (g.2.2.2.2.2.2.1) ∧ OwnS (dI .i64) 3 w' (g.2.2.2.2.2.2.2.2.2.2.2.2.2.2.2) (g.2.2.2.2.2.2.2.2.2.2.2.2.2.1) (g.2.2.2.2.2.2.2.2.2.2.2.2.2.2.1) (g.2.2.2.2.2.2.2.1) ∧ RepS dNode w' (g.2.2.2.2.2.2.2.2.2.2.2.2.2.2.2) v_5 x_4.Kids ∧ At w' (g.2.2.2.2.2.2.2.2.2.2.2.2.2.2.2) p_p [(.int .i64 x_4.Kind), (.int .i64 x_4.Name), (.int .i64 x_4.Count), v_5]) ?_ ?_
                            ·
                              apply go
                              refine ev0 (rn_field rfl rfl FO24_0) ?_
                              refine ev (rn_load rfl rfl (run_loadVar1 T3 (a_s.2 0 _ rfl))) ?_
                              refine sel_of (fun hc => ?_) (fun hc => ?_)
                              ·
                                have q_8n := cond_t q_8n hc
                                refine sel_of (fun hc => ?_) (fun hc => ?_)
                                ·
                                  have q_8n := cond_t q_8n hc
                                  refine ev0 (rn_field rfl rfl FO24_2) ?_
                                  refine ev (rn_load rfl rfl (run_loadVar1 T3 (a_s.2 2 _ rfl))) ?_
                                  obtain ⟨⟨x_8o, x_8p⟩, q_8q, q_8n⟩ := bind_some q_8n
                                  refine ev_call rfl rfl C49 (((ref41_Runner_count_ok n) _ _  (Runner_2.mk (Node.mk x_4p x_4q x_4r x_4s) x_4t x_4u x_4v x_4w) g_1 [some (g_1, ((Value.int .i64 x_4p) :: ((Value.int .i64 x_4q) :: ((Value.int .i64 x_4r) :: (v_50 :: (c_51 ++ (c_52 ++ (c_53 ++ (v_54 :: [])))))))), 65), e_55] ⟨v_50, c_51, c_52, c_53, v_54, e_55, rfl, r_58, r_59, r_5a, r_5b, o_5c⟩ x_7 x_4.Count (hp.lendL [1, 0] (by decide)) _ q_8q).mono ?_)
                                  rintro _ w_8r ⟨I_8s, F_8t, hv, hq7592, q_8u⟩
                                  replace hv := hv.symm
                                  subst hv
                                  obtain ⟨v_8v, c_8w, c_8x, c_8y, v_8z, e_90, rfl, r_91, r_92, r_93, r_94, o_95⟩ := q_8u
                                  have hs := hq7592.st
                                  have hp := hp.backL [1, 0] [] (by decide) hq7592
                                  replace a_s := a_s.step hs
                                  replace r_6 := r_6.step hs
                                  obtain rfl := Option.some.inj q_8n
                                  have hp := hp.perm [1, 0] (by decide)
                                  exact ⟨(x_8p.T.Kind, x_8p.T.Name, x_8p.T.Count, x_8p.T.Kids, x_8p.Counters, x_8p.On, x_8p.Status, x_8p.Ticked, x_8o, v_8v, c_8w, c_8x, c_8y, v_8z, e_90, I_8s), (.c rfl (.c rfl (.c rfl (.c rfl (.c rfl .n))))), rfl, hp, r_91, r_92, r_93, r_94, o_95, r_6, a_s⟩
                                ·
                                  have q_8n := cond_f q_8n hc
                                  obtain rfl := Option.some.inj q_8n
                                  exact ⟨(x_4p, x_4q, x_4r, x_4s, x_4t, x_4u, x_4v, x_4w, false, v_50, c_51, c_52, c_53, v_54, e_55, I_56), (.c rfl (.c rfl (.c rfl (.c rfl (.c rfl .n))))), rfl, hp, r_58, r_59, r_5a, r_5b, o_5c, r_6, a_s⟩
                              ·
                                have q_8n := cond_f q_8n hc
                                obtain rfl := Option.some.inj q_8n
                                exact ⟨(x_4p, x_4q, x_4r, x_4s, x_4t, x_4u, x_4v, x_4w, false, v_50, c_51, c_52, c_53, v_54, e_55, I_56), (.c rfl (.c rfl (.c rfl (.c rfl (.c rfl .n))))), rfl, hp, r_58, r_59, r_5a, r_5b, o_5c, r_6, a_s⟩
                            ·
                              rintro ⟨x_96, x_97, x_98, x_99, x_9a, x_9b, x_9c, x_9d, x_9e, v_9f, c_9g, c_9h, c_9i, v_9j, e_9k, I_9l⟩ w_9m ⟨hy, hp, r_9n, r_9o, r_9p, r_9q, o_9r, r_6, a_s⟩
                              replace hy := hy.symm
                              subst hy
                              apply go
                              refine sel_of (fun hc => ?_) (fun hc => ?_)
                              ·
                                have h := cond_t h hc
                                apply go
                                apply go
                                obtain ⟨⟨x_9s, x_9t⟩, q_9u, h⟩ := bind_some h
                                refine ev_call rfl rfl C47 (((ref41_Runner_done_ok n) _ _  (Runner_2.mk (Node.mk x_96 x_97 x_98 x_99) x_9a x_9b x_9c x_9d) g_1 [some (g_1, ((Value.int .i64 x_96) :: ((Value.int .i64 x_97) :: ((Value.int .i64 x_98) :: (v_9f :: (c_9g ++ (c_9h ++ (c_9i ++ (v_9j :: [])))))))), 65), e_9k] ⟨v_9f, c_9g, c_9h, c_9i, v_9j, e_9k, rfl, r_9n, r_9o, r_9p, r_9q, o_9r⟩ x_7 1 (hp.lendL [1, 0] (by decide)) _ q_9u).mono ?_)
                                rintro _ w_9v ⟨I_9w, F_9x, hv, hq7611, q_9y⟩
                                replace hv := hv.symm
                                subst hv
                                obtain ⟨v_9z, c_a0, c_a1, c_a2, v_a3, e_a4, rfl, r_a5, r_a6, r_a7, r_a8, o_a9⟩ := q_9y
                                have hs := hq7611.st
                                have hp := hp.backL [1, 0] [] (by decide) hq7611
                                apply go
                                obtain rfl := Option.some.inj h
                                exact ⟨I_9w, [some (g_1, ((Value.int .i64 x_9t.T.Kind) :: ((Value.int .i64 x_9t.T.Name) :: ((Value.int .i64 x_9t.T.Count) :: (v_9z :: (c_a0 ++ (c_a1 ++ (c_a2 ++ (v_a3 :: [])))))))), 65), e_a4], rfl, hp, ⟨v_9z, c_a0, c_a1, c_a2, v_a3, e_a4, rfl, r_a5, r_a6, r_a7, r_a8, o_a9⟩⟩
                              ·
                                have h := cond_f h hc
                                obtain ⟨y_aa, q_ab, h⟩ := bind_some h
                                refine W.cut (γ := (Int × Int × Int × (List Node) × (List Int) × (List Bool) × (List Int) × (List Int) × Bool × Value × (List Value) × (List Value) × (List Value) × Value × Ent × (Nat → Prop))) (fun g => [(0, (.pointer (some ⟨g_1, 0, none⟩))), (2, (.int .i64 x_7)), (14, (.int .i64 x_4z)), (181, (.bool (g.2.2.2.2.2.2.2.2.1)))]) (fun g w' => y_aa = ((g.1), (g.2.1), (g.2.2.1), (g.2.2.2.1), (g.2.2.2.2.1), (g.2.2.2.2.2.1), (g.2.2.2.2.2.2.1), (g.2.2.2.2.2.2.2.1), (g.2.2.2.2.2.2.2.2.1)) ∧ Hp ⟨w0, I0, B⟩ (g.2.2.2.2.2.2.2.2.2.2.2.2.2.2.2) [(g.2.2.2.2.2.2.2.2.2.2.2.2.2.2.1), some (g_1, ((Value.int .i64 (g.1)) :: ((Value.int .i64 (g.2.1)) :: ((Value.int .i64 (g.2.2.1)) :: ((g.2.2.2.2.2.2.2.2.2.1) :: ((g.2.2.2.2.2.2.2.2.2.2.1) ++ ((g.2.2.2.2.2.2.2.2.2.2.2.1) ++ ((g.2.2.2.2.2.2.2.2.2.2.2.2.1) ++ ((g.2.2.2.2.2.2.2.2.2.2.2.2.2.1) :: [])))))))), 65)] w' ∧ RepS dNode w' (g.2.2.2.2.2.2.2.2.2.2.2.2.2.2.2) (g.2.2.2.2.2.2.2.2.2.1) (g.2.2.2.1) ∧ (dA 64 (dI .i64)).rep w' (g.2.2.2.2.2.2.2.2.2.2.2.2.2.2.2) (g.2.2.2.2.2.2.2.2.2.2.1) (g.2.2.2.2.1) ∧ (dA 64 dB).rep w' (g.2.2.2.2.2.2.2.2.2.2.2.2.2.2.2) (g.2.2.2.2.2.2.2.2.2.2.2.1) (g.2.2.2.2.2.1) ∧ (dA 64 (dI .i64)).rep w' (g.2.2.2.2.2.2.2.2.2.2.2.2.2.2.2) (g.2.2.2.2.2.2.2.2.2.2.2.2.1) (g.2.2.2.2.2.2.1) ∧ OwnS (dI .i64) 3 w' (g.2.2.2.2.2.2.2.2.2.2.2.2.2.2.2) (g.2.2.2.2.2.2.2.2.2.2.2.2.2.1) (g.2.2.2.2.2.2.2.2.2.2.2.2.2.2.1) (g.2.2.2.2.2.2.2.1)) ?_ ?_
                                ·
                                  apply go
                                  refine ev0 (rn_field rfl rfl FO24_0) ?_
                                  refine ev (rn_load rfl rfl (run_loadVar1 T3 (a_s.2 0 _ rfl))) ?_
                                  refine sel_of (fun hc => ?_) (fun hc => ?_)
                                  ·
                                    have q_ab := cond_t q_ab hc
                                    refine sel_of (fun hc => ?_) (fun hc => ?_)
                                    ·
                                      have q_ab := cond_t q_ab hc
                                      refine ev0 (rn_field rfl rfl FO24_2) ?_
                                      refine ev (rn_load rfl rfl (run_loadVar1 T3 (a_s.2 2 _ rfl))) ?_
                                      obtain ⟨⟨x_ac, x_ad⟩, q_ae, q_ab⟩ := bind_some q_ab
                                      refine ev_call rfl rfl C49 (((ref41_Runner_count_ok n) _ _  (Runner_2.mk (Node.mk x_96 x_97 x_98 x_99) x_9a x_9b x_9c x_9d) g_1 [some (g_1, ((Value.int .i64 x_96) :: ((Value.int .i64 x_97) :: ((Value.int .i64 x_98) :: (v_9f :: (c_9g ++ (c_9h ++ (c_9i ++ (v_9j :: [])))))))), 65), e_9k] ⟨v_9f, c_9g, c_9h, c_9i, v_9j, e_9k, rfl, r_9n, r_9o, r_9p, r_9q, o_9r⟩ x_7 x_4.Count (hp.lendL [1, 0] (by decide)) _ q_ae).mono ?_)
                                      rintro _ w_af ⟨I_ag, F_ah, hv, hq7673, q_ai⟩
                                      replace hv := hv.symm
                                      subst hv
                                      obtain ⟨v_aj, c_ak, c_al, c_am, v_an, e_ao, rfl, r_ap, r_aq, r_ar, r_as, o_at⟩ := q_ai
                                      have hs := hq7673.st
                                      have hp := hp.backL [1, 0] [] (by decide) hq7673
                                      obtain rfl := Option.some.inj q_ab
                                      have hp := hp.perm [1, 0] (by decide)
                                      exact ⟨(x_ad.T.Kind, x_ad.T.Name, x_ad.T.Count, x_ad.T.Kids, x_ad.Counters, x_ad.On, x_ad.Status, x_ad.Ticked, (!x_ac), v_aj, c_ak, c_al, c_am, v_an, e_ao, I_ag), (.c rfl (.c rfl (.c rfl (.c rfl .n)))), rfl, hp, r_ap, r_aq, r_ar, r_as, o_at⟩
                                    ·
                                      have q_ab := cond_f q_ab hc
                                      obtain rfl := Option.some.inj q_ab
                                      exact ⟨(x_96, x_97, x_98, x_99, x_9a, x_9b, x_9c, x_9d, false, v_9f, c_9g, c_9h, c_9i, v_9j, e_9k, I_9l), (.c rfl (.c rfl (.c rfl (.c rfl .n)))), rfl, hp, r_9n, r_9o, r_9p, r_9q, o_9r⟩
                                  ·
                                    have q_ab := cond_f q_ab hc
                                    obtain rfl := Option.some.inj q_ab
                                    exact ⟨(x_96, x_97, x_98, x_99, x_9a, x_9b, x_9c, x_9d, false, v_9f, c_9g, c_9h, c_9i, v_9j, e_9k, I_9l), (.c rfl (.c rfl (.c rfl (.c rfl .n)))), rfl, hp, r_9n, r_9o, r_9p, r_9q, o_9r⟩
                                ·
                                  rintro ⟨x_au, x_av, x_aw, x_ax, x_ay, x_az, x_b0, x_b1, x_b2, v_b3, c_b4, c_b5, c_b6, v_b7, e_b8, I_b9⟩ w_ba ⟨hy, hp, r_bb, r_bc, r_bd, r_be, o_bf⟩
                                  replace hy := hy.symm
                                  subst hy
                                  apply go
                                  refine sel_of (fun hc => ?_) (fun hc => ?_)
                                  ·
                                    have h := cond_t h hc
                                    apply go
                                    apply go
                                    obtain ⟨⟨x_bg, x_bh⟩, q_bi, h⟩ := bind_some h
                                    refine ev_call rfl rfl C47 (((ref41_Runner_done_ok n) _ _  (Runner_2.mk (Node.mk x_au x_av x_aw x_ax) x_ay x_az x_b0 x_b1) g_1 [some (g_1, ((Value.int .i64 x_au) :: ((Value.int .i64 x_av) :: ((Value.int .i64 x_aw) :: (v_b3 :: (c_b4 ++ (c_b5 ++ (c_b6 ++ (v_b7 :: [])))))))), 65), e_b8] ⟨v_b3, c_b4, c_b5, c_b6, v_b7, e_b8, rfl, r_bb, r_bc, r_bd, r_be, o_bf⟩ x_7 3 (hp.lendL [1, 0] (by decide)) _ q_bi).mono ?_)
                                    rintro _ w_bj ⟨I_bk, F_bl, hv, hq7692, q_bm⟩
                                    replace hv := hv.symm
                                    subst hv
                                    obtain ⟨v_bn, c_bo, c_bp, c_bq, v_br, e_bs, rfl, r_bt, r_bu, r_bv, r_bw, o_bx⟩ := q_bm
                                    have hs := hq7692.st
                                    have hp := hp.backL [1, 0] [] (by decide) hq7692
                                    apply go
                                    obtain rfl := Option.some.inj h
                                    exact ⟨I_bk, [some (g_1, ((Value.int .i64 x_bh.T.Kind) :: ((Value.int .i64 x_bh.T.Name) :: ((Value.int .i64 x_bh.T.Count) :: (v_bn :: (c_bo ++ (c_bp ++ (c_bq ++ (v_br :: [])))))))), 65), e_bs], rfl, hp, ⟨v_bn, c_bo, c_bp, c_bq, v_br, e_bs, rfl, r_bt, r_bu, r_bv, r_bw, o_bx⟩⟩
                                  ·
                                    have h := cond_f h hc
                                    apply go
                                    apply go
                                    apply go
                                    obtain ⟨⟨x_by, x_bz⟩, q_c0, h⟩ := bind_some h
                                    refine ev_call rfl rfl C47 (((ref41_Runner_done_ok n) _ _  (Runner_2.mk (Node.mk x_au x_av x_aw x_ax) x_ay x_az x_b0 x_b1) g_1 [some (g_1, ((Value.int .i64 x_au) :: ((Value.int .i64 x_av) :: ((Value.int .i64 x_aw) :: (v_b3 :: (c_b4 ++ (c_b5 ++ (c_b6 ++ (v_b7 :: [])))))))), 65), e_b8] ⟨v_b3, c_b4, c_b5, c_b6, v_b7, e_b8, rfl, r_bb, r_bc, r_bd, r_be, o_bf⟩ x_7 x_4z (hp.lendL [1, 0] (by decide)) _ q_c0).mono ?_)
                                    rintro _ w_c1 ⟨I_c2, F_c3, hv, hq7711, q_c4⟩
                                    replace hv := hv.symm
                                    subst hv
                                    obtain ⟨v_c5, c_c6, c_c7, c_c8, v_c9, e_ca, rfl, r_cb, r_cc, r_cd, r_ce, o_cf⟩ := q_c4
                                    have hs := hq7711.st
                                    have hp := hp.backL [1, 0] [] (by decide) hq7711
                                    apply go
                                    obtain rfl := Option.some.inj h
                                    exact ⟨I_c2, [some (g_1, ((Value.int .i64 x_bz.T.Kind) :: ((Value.int .i64 x_bz.T.Name) :: ((Value.int .i64 x_bz.T.Count) :: (v_c5 :: (c_c6 ++ (c_c7 ++ (c_c8 ++ (v_c9 :: [])))))))), 65), e_ca], rfl, hp, ⟨v_c5, c_c6, c_c7, c_c8, v_c9, e_ca, rfl, r_cb, r_cc, r_cd, r_ce, o_cf⟩⟩
theorem ref41_Runner_tick_ok : ∀ n, ref41_Runner_tick_S (ref41_Runner_tick n)
  | 0 => by intro w0 I0 x_0 g_1 E_2 q_3 x_4 v_5 r_6 x_7 x_8 v_9 r_a x_b v_c r_d hp r h; cases h
  | n + 1 => ref41_Runner_tick_F_ok n _ (ref41_Runner_tick_ok n)

end Go.Proofs.Ytknnmbcaoekgmaa

namespace Go.Proofs.Ytknnmbcaoekgmaa
open Go Go.Proofs.Ytknnmbcaoekgmaa.Gw Go.RowKit
set_option linter.unusedVariables false
attribute [local irreducible] Ev EvQ EvS EvH
def ref41_Runner_settle_S (f : Runner_2 → Node → Int → Bool → Option Runner_2) : Prop := ∀ (w0 : World) (I0 : Nat → Prop) (x_0 : Runner_2) (g_1 : Nat) (E_2 : List Ent) (q_3 : qW w0 I0 g_1 E_2 x_0) (x_4 : Node) (v_5 : Value) (r_6 : RepS dNode w0 I0 v_5 x_4.Kids) (x_7 : Int) (x_8 : Bool) (hp : Hp ⟨w0, I0, blks E_2⟩ I0 E_2 w0) (r : Runner_2), f x_0 x_4 x_7 x_8 = some r →
    Ret Try.prog 42 #[(.pointer (some ⟨g_1, 0, none⟩)), (.agg #[(.int .i64 x_4.Kind), (.int .i64 x_4.Name), (.int .i64 x_4.Count), v_5]), (.int .i64 x_7), (.bool x_8)] w0 fun v w1 => ∃ (I1 : Nat → Prop) (u_9 : List Ent), v = (.tuple #[]) ∧ Hp ⟨w0, I0, blks E_2⟩ I1 u_9 w1 ∧ qW w1 I1 g_1 u_9 r
theorem ref41_Runner_settle_F_ok (n : Nat) (self : Runner_2 → Node → Int → Bool → Option Runner_2) (ih : ref41_Runner_settle_S self) : ref41_Runner_settle_S (ref41_Runner_settle_F n self) := by
  intro w0 I0 x_0 g_1 E_2 q_3 x_4 v_5 r_6 x_7 x_8 hp r h
  unfold ref41_Runner_settle_F at h
  refine enter Try.func42 rfl (Nat.le_of_ble_eq_true rfl) ?_
  generalize blks E_2 = B at hp ⊢
  obtain ⟨v_9, c_a, c_b, c_c, v_d, rfl, r_e, r_f, r_g, r_h, r_i⟩ := q_3
  have hp : Hp ⟨w0, I0, B⟩ I0 [some (g_1, ((Value.int .i64 x_0.T.Kind) :: ((Value.int .i64 x_0.T.Name) :: ((Value.int .i64 x_0.T.Count) :: (v_9 :: (c_a ++ (c_b ++ (c_c ++ (v_d :: [])))))))), 65)] w0 := hp
  apply go
  apply go
  refine ev_boxI hp rfl rfl ?_
  intro p_j I_k w_l hp hs a_m
  replace r_6 := r_6.step hs
  replace r_e := r_e.step hs
  replace r_f := r_f.step hs
  replace r_g := r_g.step hs
  replace r_h := r_h.step hs
  replace r_i := r_i.step hs
  obtain ⟨y_n, q_o, h⟩ := bind_some h
  refine W.cut (γ := Bool) (fun g => [(0, (.pointer (some ⟨g_1, 0, none⟩))), (2, (.int .i64 x_7)), (5, (.pointer (some (p_j)))), (8, (.bool (g)))]) (fun g w' => y_n = (g) ∧ w_l = w') ?_ ?_
  ·
    apply go
    refine sel_of (fun hc => ?_) (fun hc => ?_)
    ·
      have q_o := cond_t q_o hc
      refine ev0 (rn_field rfl rfl FO65_3) ?_
      obtain ⟨x_p, q_q, q_o⟩ := bind_some q_o
      refine ev_indexA (cs := ((Value.int .i64 x_0.T.Kind) :: ((Value.int .i64 x_0.T.Name) :: ((Value.int .i64 x_0.T.Count) :: (v_9 :: (c_a ++ (c_b ++ (c_c ++ (v_d :: []))))))))) rfl rfl rfl Try.underlying62 T3 (SubA.consA (n := 131) (m := 132) rfl (SubA.consA (n := 130) (m := 131) rfl (SubA.consA (n := 129) (m := 130) rfl (SubA.consA (n := 128) (m := 129) rfl (SubA.skipA (n := 64) (m := 128) (Desc.len _ r_f) rfl (SubA.skipA (n := 0) (m := 64) (Desc.len _ r_g) rfl (SubA.pre r_h))))))) q_q ?_
      refine ev (rn_load rfl rfl (run_loadVar1 T3 (hp.cell (i := 0) rfl ((SubA.consA (n := 131) (m := 132) rfl (SubA.consA (n := 130) (m := 131) rfl (SubA.consA (n := 129) (m := 130) rfl (SubA.consA (n := 128) (m := 129) rfl (SubA.skipA (n := 64) (m := 128) (Desc.len _ r_f) rfl (SubA.skipA (n := 0) (m := 64) (Desc.len _ r_g) rfl (SubA.pre r_h))))))).el q_q).int))) ?_
      obtain rfl := Option.some.inj q_o
      exact ⟨(x_p == 1), (.c rfl (.c rfl (.c rfl (.c rfl .n)))), rfl, rfl⟩
    ·
      have q_o := cond_f q_o hc
      obtain rfl := Option.some.inj q_o
      exact ⟨false, (.c rfl (.c rfl (.c rfl (.c rfl .n)))), rfl, rfl⟩
  ·
    rintro x_r _ ⟨hy, rfl⟩
    replace hy := hy.symm
    subst hy
    obtain ⟨y_s, q_t, h⟩ := bind_some h
    refine W.cut (γ := ((List Int) × (List Value))) (fun g => [(0, (.pointer (some ⟨g_1, 0, none⟩))), (2, (.int .i64 x_7)), (5, (.pointer (some (p_j)))), (8, (.bool x_r))]) (fun g w' => y_s = (g.1) ∧ Hp ⟨w0, I0, B⟩ I_k [some (g_1, ((Value.int .i64 x_0.T.Kind) :: ((Value.int .i64 x_0.T.Name) :: ((Value.int .i64 x_0.T.Count) :: (v_9 :: ((g.2) ++ (c_b ++ (c_c ++ (v_d :: [])))))))), 65)] w' ∧ RepS dNode w' I_k v_9 x_0.T.Kids ∧ (dA 64 (dI .i64)).rep w' I_k (g.2) (g.1) ∧ (dA 64 dB).rep w' I_k c_b x_0.On ∧ (dA 64 (dI .i64)).rep w' I_k c_c x_0.Status ∧ RepS (dI .i64) w' I_k v_d x_0.Ticked ∧ RepS dNode w' I_k v_5 x_4.Kids ∧ At w' I_k p_j [(.int .i64 x_4.Kind), (.int .i64 x_4.Name), (.int .i64 x_4.Count), v_5]) ?_ ?_
    ·
      apply go
      apply go
      apply go
      refine sel_of (fun hc => ?_) (fun hc => ?_)
      ·
        have q_t := cond_t q_t hc
        apply go
        refine ev0 (rn_field rfl rfl FO65_1) ?_
        obtain ⟨x_u, q_v, q_t⟩ := bind_some q_t
        refine ev_indexA (cs := ((Value.int .i64 x_0.T.Kind) :: ((Value.int .i64 x_0.T.Name) :: ((Value.int .i64 x_0.T.Count) :: (v_9 :: (c_a ++ (c_b ++ (c_c ++ (v_d :: []))))))))) rfl rfl rfl Try.underlying62 T3 (SubA.consA (n := 3) (m := 4) rfl (SubA.consA (n := 2) (m := 3) rfl (SubA.consA (n := 1) (m := 2) rfl (SubA.consA (n := 0) (m := 1) rfl (SubA.pre r_f))))) q_v ?_
        refine ev_store1A hp (i := 0) rfl rfl rfl rfl T3 rfl ((SubA.consA (n := 3) (m := 4) rfl (SubA.consA (n := 2) (m := 3) rfl (SubA.consA (n := 1) (m := 2) rfl (SubA.consA (n := 0) (m := 1) rfl (SubA.pre r_f))))).el q_v).1 ?_
        intro c_w w_x q_y hp hs
        obtain ⟨c_z, q_10⟩ : ∃ z, z = c_a.set (x_7.toNat * (dI .i64).size) (.int .i64 0) := ⟨_, rfl⟩
        have r_11 : (dA 64 (dI .i64)).rep w_x I_k c_z (upd x_0.Counters x_7 0) := by subst q_10; exact PutA.rep (Desc.len _ r_f) (PutA.up (SubA.top (r_f.step hs)) q_v (PutA.leaf (show 0 + x_7.toNat * (dI .i64).size < _ from ((SubA.top r_f).el q_v).1) rfl rfl) |> fun h => by simpa only [Nat.zero_add] using h)
        have q_y : c_w = ((Value.int .i64 x_0.T.Kind) :: ((Value.int .i64 x_0.T.Name) :: ((Value.int .i64 x_0.T.Count) :: (v_9 :: (c_z ++ (c_b ++ (c_c ++ (v_d :: [])))))))) := q_y.trans (by subst q_10; show List.set (((Value.int .i64 x_0.T.Kind) :: ((Value.int .i64 x_0.T.Name) :: ((Value.int .i64 x_0.T.Count) :: (v_9 :: (c_a ++ (c_b ++ (c_c ++ (v_d :: [])))))))) : List Value) (4 + x_7.toNat * (dI .i64).size) (.int .i64 0) = _; exact (st_cons (n := 3 + x_7.toNat * (dI .i64).size) (by omega) (st_cons (n := 2 + x_7.toNat * (dI .i64).size) (by omega) (st_cons (n := 1 + x_7.toNat * (dI .i64).size) (by omega) (st_cons (n := x_7.toNat * (dI .i64).size) (by omega) (st_here (c := c_a) (show x_7.toNat * (dI .i64).size < c_a.length from by have h := ((SubA.top r_f).el q_v).1; have h1 : 0 < (dI .i64).size := Nat.le_of_ble_eq_true rfl; omega)))))))
        rw [q_y] at hp; clear q_y
        replace a_m := a_m.step hs
        replace r_6 := r_6.step hs
        replace r_e := r_e.step hs
        replace r_g := r_g.step hs
        replace r_h := r_h.step hs
        replace r_i := r_i.step hs
        obtain rfl := Option.some.inj q_t
        exact ⟨((upd x_0.Counters x_7 0), c_z), (.c rfl (.c rfl (.c rfl (.c rfl .n)))), rfl, hp, r_e, r_11, r_g, r_h, r_i, r_6, a_m⟩
      ·
        have q_t := cond_f q_t hc
        apply go
        obtain rfl := Option.some.inj q_t
        exact ⟨(x_0.Counters, c_a), (.c rfl (.c rfl (.c rfl (.c rfl .n)))), rfl, hp, r_e, r_f, r_g, r_h, r_i, r_6, a_m⟩
    ·
      rintro ⟨x_12, c_13⟩ w_14 ⟨hy, hp, r_e, r_15, r_g, r_h, r_i, r_6, a_m⟩
      replace hy := hy.symm
      subst hy
      obtain ⟨y_16, q_17, h⟩ := bind_some h
      refine W.cut (γ := ((List Bool) × (List Value))) (fun g => [(0, (.pointer (some ⟨g_1, 0, none⟩))), (2, (.int .i64 x_7)), (5, (.pointer (some (p_j)))), (8, (.bool x_r))]) (fun g w' => y_16 = (g.1) ∧ Hp ⟨w0, I0, B⟩ I_k [some (g_1, ((Value.int .i64 x_0.T.Kind) :: ((Value.int .i64 x_0.T.Name) :: ((Value.int .i64 x_0.T.Count) :: (v_9 :: (c_13 ++ ((g.2) ++ (c_c ++ (v_d :: [])))))))), 65)] w' ∧ RepS dNode w' I_k v_9 x_0.T.Kids ∧ (dA 64 (dI .i64)).rep w' I_k c_13 x_12 ∧ (dA 64 dB).rep w' I_k (g.2) (g.1) ∧ (dA 64 (dI .i64)).rep w' I_k c_c x_0.Status ∧ RepS (dI .i64) w' I_k v_d x_0.Ticked ∧ RepS dNode w' I_k v_5 x_4.Kids ∧ At w' I_k p_j [(.int .i64 x_4.Kind), (.int .i64 x_4.Name), (.int .i64 x_4.Count), v_5]) ?_ ?_
      ·
        have hs := hp.stp (Ch.drew [] w_14)
        have hp := hp.drew
        replace a_m := a_m.step hs
        replace r_6 := r_6.step hs
        replace r_e := r_e.step hs
        replace r_15 := r_15.step hs
        replace r_g := r_g.step hs
        replace r_h := r_h.step hs
        replace r_i := r_i.step hs
        refine W.held [(0, true), (1, true), (2, true), (3, true), (4, true), (5, true), (6, true), (7, true), (8, true), (9, true), (10, true), (11, false)] (Stp I_k w_14.drew I_k) MX (by kernel_rfl) (Stp.refl _ _) ?_
        have hz := Stp.refl I_k w_14.drew
        refine sel_of (fun hc => ?_) (fun hc => ?_)
        ·
          have q_17 := cond_t q_17 hc
          refine evh0 (rn_field rfl rfl FO24_0) ?_
          refine evh (fun w' hw => rn_load rfl rfl (run_loadVar1 T3 ((a_m.step hw).2 0 _ rfl))) ?_
          refine evh0 (rn_field rfl rfl FO65_2) ?_
          obtain ⟨x_18, q_19, q_17⟩ := bind_some q_17
          refine evh_indexA (cs := ((Value.int .i64 x_0.T.Kind) :: ((Value.int .i64 x_0.T.Name) :: ((Value.int .i64 x_0.T.Count) :: (v_9 :: (c_13 ++ (c_b ++ (c_c ++ (v_d :: []))))))))) rfl rfl rfl Try.underlying63 T4 (SubA.consA (n := 67) (m := 68) rfl (SubA.consA (n := 66) (m := 67) rfl (SubA.consA (n := 65) (m := 66) rfl (SubA.consA (n := 64) (m := 65) rfl (SubA.skipA (n := 0) (m := 64) (Desc.len _ r_15) rfl (SubA.pre r_g)))))) q_19 ?_
          refine ev_store1A hp (i := 0) rfl rfl rfl rfl T4 rfl ((SubA.consA (n := 67) (m := 68) rfl (SubA.consA (n := 66) (m := 67) rfl (SubA.consA (n := 65) (m := 66) rfl (SubA.consA (n := 64) (m := 65) rfl (SubA.skipA (n := 0) (m := 64) (Desc.len _ r_15) rfl (SubA.pre r_g)))))).el q_19).1 ?_
          intro c_1a w_1b q_1c hp hs
          obtain ⟨c_1d, q_1e⟩ : ∃ z, z = c_b.set (x_7.toNat * dB.size) (.bool (x_4.Kind == 1)) := ⟨_, rfl⟩
          have r_1f : (dA 64 dB).rep w_1b I_k c_1d (upd x_0.On x_7 (x_4.Kind == 1)) := by subst q_1e; exact PutA.rep (Desc.len _ r_g) (PutA.up (SubA.top (r_g.step hs)) q_19 (PutA.leaf (show 0 + x_7.toNat * dB.size < _ from ((SubA.top r_g).el q_19).1) rfl rfl) |> fun h => by simpa only [Nat.zero_add] using h)
          have q_1c : c_1a = ((Value.int .i64 x_0.T.Kind) :: ((Value.int .i64 x_0.T.Name) :: ((Value.int .i64 x_0.T.Count) :: (v_9 :: (c_13 ++ (c_1d ++ (c_c ++ (v_d :: [])))))))) := q_1c.trans (by subst q_1e; show List.set (((Value.int .i64 x_0.T.Kind) :: ((Value.int .i64 x_0.T.Name) :: ((Value.int .i64 x_0.T.Count) :: (v_9 :: (c_13 ++ (c_b ++ (c_c ++ (v_d :: [])))))))) : List Value) (68 + x_7.toNat * dB.size) (.bool (x_4.Kind == 1)) = _; exact (st_cons (n := 67 + x_7.toNat * dB.size) (by omega) (st_cons (n := 66 + x_7.toNat * dB.size) (by omega) (st_cons (n := 65 + x_7.toNat * dB.size) (by omega) (st_cons (n := 64 + x_7.toNat * dB.size) (by omega) (st_skip (n := x_7.toNat * dB.size) (Desc.len _ r_15) (by show _ = 64 + _; omega) (st_here (c := c_b) (show x_7.toNat * dB.size < c_b.length from by have h := ((SubA.top r_g).el q_19).1; have h1 : 0 < dB.size := Nat.le_of_ble_eq_true rfl; omega))))))))
          rw [q_1c] at hp; clear q_1c
          replace hz := hz.trans hs
          replace a_m := a_m.step hs
          replace r_6 := r_6.step hs
          replace r_e := r_e.step hs
          replace r_15 := r_15.step hs
          replace r_h := r_h.step hs
          replace r_i := r_i.step hs
          refine ⟨Stp I_k w_1b I_k, Stp.refl _ _, fun x hx => hz.held hx, ?_⟩
          have hz := Stp.refl I_k w_1b
          obtain rfl := Option.some.inj q_17
          exact ⟨((upd x_0.On x_7 (x_4.Kind == 1)), c_1d), (.c rfl (.c rfl (.c rfl (.c rfl .n)))), rfl, hp, r_e, r_15, r_1f, r_h, r_i, r_6, a_m⟩
        ·
          have q_17 := cond_f q_17 hc
          refine evh0 (rn_field rfl rfl FO65_2) ?_
          obtain ⟨x_1g, q_1h, q_17⟩ := bind_some q_17
          refine evh_indexA (cs := ((Value.int .i64 x_0.T.Kind) :: ((Value.int .i64 x_0.T.Name) :: ((Value.int .i64 x_0.T.Count) :: (v_9 :: (c_13 ++ (c_b ++ (c_c ++ (v_d :: []))))))))) rfl rfl rfl Try.underlying63 T4 (SubA.consA (n := 67) (m := 68) rfl (SubA.consA (n := 66) (m := 67) rfl (SubA.consA (n := 65) (m := 66) rfl (SubA.consA (n := 64) (m := 65) rfl (SubA.skipA (n := 0) (m := 64) (Desc.len _ r_15) rfl (SubA.pre r_g)))))) q_1h ?_
          refine ev_store1A hp (i := 0) rfl rfl rfl rfl T4 rfl ((SubA.consA (n := 67) (m := 68) rfl (SubA.consA (n := 66) (m := 67) rfl (SubA.consA (n := 65) (m := 66) rfl (SubA.consA (n := 64) (m := 65) rfl (SubA.skipA (n := 0) (m := 64) (Desc.len _ r_15) rfl (SubA.pre r_g)))))).el q_1h).1 ?_
          intro c_1i w_1j q_1k hp hs
          obtain ⟨c_1l, q_1m⟩ : ∃ z, z = c_b.set (x_7.toNat * dB.size) (.bool false) := ⟨_, rfl⟩
          have r_1n : (dA 64 dB).rep w_1j I_k c_1l (upd x_0.On x_7 false) := by subst q_1m; exact PutA.rep (Desc.len _ r_g) (PutA.up (SubA.top (r_g.step hs)) q_1h (PutA.leaf (show 0 + x_7.toNat * dB.size < _ from ((SubA.top r_g).el q_1h).1) rfl rfl) |> fun h => by simpa only [Nat.zero_add] using h)
          have q_1k : c_1i = ((Value.int .i64 x_0.T.Kind) :: ((Value.int .i64 x_0.T.Name) :: ((Value.int .i64 x_0.T.Count) :: (v_9 :: (c_13 ++ (c_1l ++ (c_c ++ (v_d :: [])))))))) := q_1k.trans (by subst q_1m; show List.set (((Value.int .i64 x_0.T.Kind) :: ((Value.int .i64 x_0.T.Name) :: ((Value.int .i64 x_0.T.Count) :: (v_9 :: (c_13 ++ (c_b ++ (c_c ++ (v_d :: [])))))))) : List Value) (68 + x_7.toNat * dB.size) (.bool false) = _; exact (st_cons (n := 67 + x_7.toNat * dB.size) (by omega) (st_cons (n := 66 + x_7.toNat * dB.size) (by omega) (st_cons (n := 65 + x_7.toNat * dB.size) (by omega) (st_cons (n := 64 + x_7.toNat * dB.size) (by omega) (st_skip (n := x_7.toNat * dB.size) (Desc.len _ r_15) (by show _ = 64 + _; omega) (st_here (c := c_b) (show x_7.toNat * dB.size < c_b.length from by have h := ((SubA.top r_g).el q_1h).1; have h1 : 0 < dB.size := Nat.le_of_ble_eq_true rfl; omega))))))))
          rw [q_1k] at hp; clear q_1k
          replace hz := hz.trans hs
          replace a_m := a_m.step hs
          replace r_6 := r_6.step hs
          replace r_e := r_e.step hs
          replace r_15 := r_15.step hs
          replace r_h := r_h.step hs
          replace r_i := r_i.step hs
          refine ⟨Stp I_k w_1j I_k, Stp.refl _ _, fun x hx => hz.held hx, ?_⟩
          have hz := Stp.refl I_k w_1j
          obtain rfl := Option.some.inj q_17
          exact ⟨((upd x_0.On x_7 false), c_1l), (.c rfl (.c rfl (.c rfl (.c rfl .n)))), rfl, hp, r_e, r_15, r_1n, r_h, r_i, r_6, a_m⟩
      ·
        rintro ⟨x_1o, c_1p⟩ w_1q ⟨hy, hp, r_e, r_15, r_1r, r_h, r_i, r_6, a_m⟩
        replace hy := hy.symm
        subst hy
        apply go
        apply go
        apply go
        apply go
        apply go
        refine W.loop h (γ := (Value × (List Value) × (List Value) × (List Value) × Value × (Nat → Prop))) (fun s g => [(0, (.pointer (some ⟨g_1, 0, none⟩))), (5, (.pointer (some (p_j)))), (8, (.bool x_r)), (9, (.int .i64 (s.2.2.2.2.2.2.2.2.1))), (10, (.int .i64 (s.2.2.2.2.2.2.2.2.2)))]) (fun s g w' => Hp ⟨w0, I0, B⟩ (g.2.2.2.2.2) [some (g_1, ((Value.int .i64 (s.1)) :: ((Value.int .i64 (s.2.1)) :: ((Value.int .i64 (s.2.2.1)) :: ((g.1) :: ((g.2.1) ++ ((g.2.2.1) ++ ((g.2.2.2.1) ++ ((g.2.2.2.2.1) :: [])))))))), 65)] w' ∧ RepS dNode w' (g.2.2.2.2.2) (g.1) (s.2.2.2.1) ∧ (dA 64 (dI .i64)).rep w' (g.2.2.2.2.2) (g.2.1) (s.2.2.2.2.1) ∧ (dA 64 dB).rep w' (g.2.2.2.2.2) (g.2.2.1) (s.2.2.2.2.2.1) ∧ (dA 64 (dI .i64)).rep w' (g.2.2.2.2.2) (g.2.2.2.1) (s.2.2.2.2.2.2.1) ∧ RepS (dI .i64) w' (g.2.2.2.2.2) (g.2.2.2.2.1) (s.2.2.2.2.2.2.2.1) ∧ RepS dNode w' (g.2.2.2.2.2) v_5 x_4.Kids ∧ At w' (g.2.2.2.2.2) p_j [(.int .i64 x_4.Kind), (.int .i64 x_4.Name), (.int .i64 x_4.Count), v_5]) (v_9, c_13, c_1p, c_c, v_d, I_k) (.c rfl (.c rfl (.c rfl (.c rfl (.c rfl .n))))) ⟨hp, r_e, r_15, r_1r, r_h, r_i, r_6, a_m⟩ ?_
        rintro ⟨x_1s, x_1t, x_1u, x_1v, x_1w, x_1x, x_1y, x_1z, x_20, x_21⟩ ⟨v_22, c_23, c_24, c_25, v_26, I_27⟩ w_28 y_29 ⟨hp, r_2a, r_2b, r_2c, r_2d, r_2e, r_6, a_m⟩ q_2f q_2g
        unfold ref41_Runner_settle_L0 at q_2f
        apply go
        apply go
        apply go
        refine ev0 (rn_field rfl rfl FO24_3) ?_
        refine ev (rn_load rfl rfl (run_loadVar1 T22 (a_m.2 3 _ rfl))) ?_
        refine ev0 (rn_len rfl rfl Try.underlying22 r_6) ?_
        apply go
        refine sel_of (fun hc => ?_) (fun hc => ?_)
        ·
          have q_2f := cond_t q_2f hc
          apply go
          apply go
          apply go
          apply go
          apply go
          refine ev0 (rn_field rfl rfl FO24_3) ?_
          refine ev (rn_load rfl rfl (run_loadVar1 T22 (a_m.2 3 _ rfl))) ?_
          obtain ⟨x_2h, q_2i, q_2f⟩ := bind_some q_2f
          refine ev_index rfl rfl rfl Try.underlying22 T24 r_6 q_2i ?_
          intro p_2j c_2k d_2l a_2m
          obtain ⟨v_2n, rfl, r_2o⟩ := dNode_o d_2l
          refine ev (rn_load rfl rfl (run_loadVarA T24 rfl a_2m)) ?_
          obtain ⟨x_2p, q_2q, q_2f⟩ := bind_some q_2f
          refine ev_call rfl rfl C42 ((ih _ _  (Runner_2.mk (Node.mk x_1s x_1t x_1u x_1v) x_1w x_1x x_1y x_1z) g_1 [some (g_1, ((Value.int .i64 x_1s) :: ((Value.int .i64 x_1t) :: ((Value.int .i64 x_1u) :: (v_22 :: (c_23 ++ (c_24 ++ (c_25 ++ (v_26 :: [])))))))), 65)] ⟨v_22, c_23, c_24, c_25, v_26, rfl, r_2a, r_2b, r_2c, r_2d, r_2e⟩ (Node.mk x_2h.Kind x_2h.Name x_2h.Count x_2h.Kids) v_2n r_2o x_20 x_r (hp.lendL [0] (by decide)) _ q_2q).mono ?_)
          rintro _ w_2r ⟨I_2s, F_2t, hv, hq7979, q_2u⟩
          replace hv := hv.symm
          subst hv
          obtain ⟨v_2v, c_2w, c_2x, c_2y, v_2z, rfl, r_30, r_31, r_32, r_33, r_34⟩ := q_2u
          have hs := hq7979.st
          have hp := hp.backL [0] [] (by decide) hq7979
          replace a_m := a_m.step hs
          replace r_6 := r_6.step hs
          apply go
          refine ev0 (rn_field rfl rfl FO24_3) ?_
          refine ev (rn_load rfl rfl (run_loadVar1 T22 (a_m.2 3 _ rfl))) ?_
          obtain ⟨x_35, q_36, q_2f⟩ := bind_some q_2f
          refine ev_index rfl rfl rfl Try.underlying22 T24 r_6 q_36 ?_
          intro p_37 c_38 d_39 a_3a
          obtain ⟨v_3b, rfl, r_3c⟩ := dNode_o d_39
          refine ev (rn_load rfl rfl (run_loadVarA T24 rfl a_3a)) ?_
          obtain ⟨x_3d, q_3e, q_2f⟩ := bind_some q_2f
          refine ev_call rfl rfl C11 (((ref41_Size_ok n) _ _  (Node.mk x_35.Kind x_35.Name x_35.Count x_35.Kids) v_3b r_3c hp.imm _ q_3e).mono ?_)
          rintro _ w_3f ⟨rfl, hc⟩
          have hs := hp.stp hc
          replace hp := hp.ext hc
          replace a_m := a_m.step hs
          replace r_6 := r_6.step hs
          replace r_30 := r_30.step hs
          replace r_31 := r_31.step hs
          replace r_32 := r_32.step hs
          replace r_33 := r_33.step hs
          replace r_34 := r_34.step hs
          apply go
          exact ⟨_, (Option.some.inj q_2f).symm, (v_2v, c_2w, c_2x, c_2y, v_2z, I_2s), (.c rfl (.c rfl (.c rfl (.c rfl (.c rfl .n))))), ⟨hp, r_30, r_31, r_32, r_33, r_34, r_6, a_m⟩⟩
        ·
          have q_2f := cond_f q_2f hc
          apply go
          have q_3g := congrArg some (q_2g _ (Option.some.inj q_2f).symm)
          obtain rfl := Option.some.inj q_3g
          exact ⟨I_27, [some (g_1, ((Value.int .i64 x_1s) :: ((Value.int .i64 x_1t) :: ((Value.int .i64 x_1u) :: (v_22 :: (c_23 ++ (c_24 ++ (c_25 ++ (v_26 :: [])))))))), 65)], rfl, hp, ⟨v_22, c_23, c_24, c_25, v_26, rfl, r_2a, r_2b, r_2c, r_2d, r_2e⟩⟩
theorem ref41_Runner_settle_ok : ∀ n, ref41_Runner_settle_S (ref41_Runner_settle n)
  | 0 => by intro w0 I0 x_0 g_1 E_2 q_3 x_4 v_5 r_6 x_7 x_8 hp r h; cases h
  | n + 1 => ref41_Runner_settle_F_ok n _ (ref41_Runner_settle_ok n)

end Go.Proofs.Ytknnmbcaoekgmaa

namespace Go.Proofs.Ytknnmbcaoekgmaa
open Go Go.Proofs.Ytknnmbcaoekgmaa.Gw Go.RowKit
set_option linter.unusedVariables false
attribute [local irreducible] Ev EvQ EvS EvH
def ref41_Runner_Tick_S (f : Runner_2 → (List Int) → (List Bool) → Option (Int × (List Int) × (List Int) × Runner_2)) : Prop := ∀ (w0 : World) (I0 : Nat → Prop) (x_0 : Runner_2) (g_1 : Nat) (E_2 : List Ent) (q_3 : qW w0 I0 g_1 E_2 x_0) (x_4 : (List Int)) (v_5 : Value) (r_6 : RepS (dI .i64) w0 I0 v_5 x_4) (x_7 : (List Bool)) (v_8 : Value) (r_9 : RepS dB w0 I0 v_8 x_7) (hp : Hp ⟨w0, I0, blks E_2⟩ I0 E_2 w0) (r : (Int × (List Int) × (List Int) × Runner_2)), f x_0 x_4 x_7 = some r →
    Ret Try.prog 33 #[(.pointer (some ⟨g_1, 0, none⟩)), v_5, v_8] w0 fun v w1 => ∃ (I1 : Nat → Prop) (u_a : Value) (u_b : Value) (u_c : List Ent), v = (.tuple #[(.int .i64 r.1), u_a, u_b]) ∧ Hp ⟨w0, I0, blks E_2⟩ I1 u_c w1 ∧ RepS (dI .i64) w1 I1 u_a r.2.1 ∧ RepS (dI .i64) w1 I1 u_b r.2.2.1 ∧ qW w1 I1 g_1 u_c r.2.2.2
theorem ref41_Runner_Tick_ok (n : Nat) : ref41_Runner_Tick_S (ref41_Runner_Tick n) := by
  intro w0 I0 x_0 g_1 E_2 q_3 x_4 v_5 r_6 x_7 v_8 r_9 hp r h
  unfold ref41_Runner_Tick at h
  refine enter Try.func33 rfl (Nat.le_of_ble_eq_true rfl) ?_
  generalize blks E_2 = B at hp ⊢
  obtain ⟨v_a, c_b, c_c, c_d, v_e, rfl, r_f, r_g, r_h, r_i, r_j⟩ := q_3
  have hp : Hp ⟨w0, I0, B⟩ I0 [some (g_1, ((Value.int .i64 x_0.T.Kind) :: ((Value.int .i64 x_0.T.Name) :: ((Value.int .i64 x_0.T.Count) :: (v_a :: (c_b ++ (c_c ++ (c_d ++ (v_e :: [])))))))), 65)] w0 := hp
  apply go
  apply go
  apply go
  apply go
  apply go
  refine ev0 (rn_eqNilP rfl rfl rfl Try.underlying35 (b := false) rfl) ?_
  apply go
  apply go
  apply go
  apply go
  refine ev0 (rn_field rfl rfl FO65_2) ?_
  refine ev (rn_load rfl rfl (run_loadVarA (cs := c_c) T63 (Desc.len _ r_h) ((show ((((Value.int .i64 x_0.T.Kind) :: ((Value.int .i64 x_0.T.Name) :: ((Value.int .i64 x_0.T.Count) :: (v_a :: (c_b ++ (c_c ++ (c_d ++ (v_e :: [])))))))) : List Value).drop 68).take 64 = c_c from (dt_cons (n := 67) (by omega) (dt_cons (n := 66) (by omega) (dt_cons (n := 65) (by omega) (dt_cons (n := 64) (by omega) (dt_skip (n := 0) (Desc.len _ r_g) (by show _ = 64 + _; omega) (dt_here (Desc.len _ r_h)))))))) ▸ (((hp.at_ (i := 0) rfl).drop 68).take 64)))) ?_
  refine ev_allocA (d := (dA 64 dB)) (x0 := (List.replicate 64 false)) hp rfl T63 (fun _ _ => (rep_zero 64 rfl)) ?_
  intro g_k c_l w_m hp hs r_n
  replace r_6 := r_6.step hs
  replace r_9 := r_9.step hs
  replace r_h := r_h.step hs
  replace r_f := r_f.step hs
  replace r_g := r_g.step hs
  replace r_i := r_i.step hs
  replace r_j := r_j.step hs
  refine ev_storeW (d := (dA 64 dB)) hp (i := 0) rfl rfl rfl rfl T63 rfl r_n r_h ?_
  intro w_o hp hs r_p
  replace r_6 := r_6.step hs
  replace r_9 := r_9.step hs
  replace r_f := r_f.step hs
  replace r_g := r_g.step hs
  replace r_h := r_h.step hs
  replace r_i := r_i.step hs
  replace r_j := r_j.step hs
  apply go
  apply go
  refine ev0 (rn_buildZ rfl T62 Try.underlying62 T3) ?_
  refine ev0 (rn_field rfl rfl FO65_3) ?_
  obtain ⟨c_q, hcz, r_r⟩ : ∃ z, z = (zrow 64 [.int .i64 0]) ∧ (dA 64 (dI .i64)).rep w_o I0 z (List.replicate 64 0) := ⟨_, rfl, (rep_zero 64 rfl)⟩
  refine ev_storeA hp (i := 1) (off := 132) (vs := c_q) rfl rfl rfl (by rw [hcz]; rfl) T62 (Desc.len _ r_r) (by simp only [List.length_cons, List.length_append, List.length_nil, Desc.len _ r_g, Desc.len _ r_h, Desc.len _ r_i]; exact Nat.le_of_ble_eq_true rfl) (Desc.one _ r_r) ?_
  intro w_s hp hs
  replace hp := (show setL ((Value.int .i64 x_0.T.Kind) :: ((Value.int .i64 x_0.T.Name) :: ((Value.int .i64 x_0.T.Count) :: (v_a :: (c_b ++ (c_c ++ (c_d ++ (v_e :: [])))))))) 132 c_q = ((Value.int .i64 x_0.T.Kind) :: ((Value.int .i64 x_0.T.Name) :: ((Value.int .i64 x_0.T.Count) :: (v_a :: (c_b ++ (c_c ++ (c_q ++ (v_e :: [])))))))) from (sl_cons (n := 131) (by omega) (sl_cons (n := 130) (by omega) (sl_cons (n := 129) (by omega) (sl_cons (n := 128) (by omega) (sl_skip (n := 64) (Desc.len _ r_g) (by show _ = 64 + _; omega) (sl_skip (n := 0) (Desc.len _ r_h) (by show _ = 64 + _; omega) (sl_here ((Desc.len _ r_r).trans (Desc.len _ r_i).symm))))))))) ▸ hp
  clear hcz
  replace r_r := r_r.step hs
  replace r_6 := r_6.step hs
  replace r_9 := r_9.step hs
  replace r_f := r_f.step hs
  replace r_g := r_g.step hs
  replace r_h := r_h.step hs
  replace r_j := r_j.step hs
  replace r_p := r_p.step hs
  apply go
  apply go
  refine ev0 (rn_field rfl rfl FO65_4) ?_
  refine ev_store1 hp (i := 1) (off := 196) rfl rfl rfl rfl T39 rfl (by simp only [List.length_cons, List.length_append, List.length_nil, Desc.len _ r_g, Desc.len _ r_h, Desc.len _ r_r]; exact Nat.le_of_ble_eq_true rfl) ?_
  intro w_t hp hs
  replace hp := (show (((Value.int .i64 x_0.T.Kind) :: ((Value.int .i64 x_0.T.Name) :: ((Value.int .i64 x_0.T.Count) :: (v_a :: (c_b ++ (c_c ++ (c_q ++ (v_e :: [])))))))) : List Value).set 196 (.slice none 0 0) = ((Value.int .i64 x_0.T.Kind) :: ((Value.int .i64 x_0.T.Name) :: ((Value.int .i64 x_0.T.Count) :: (v_a :: (c_b ++ (c_c ++ (c_q ++ ((Value.slice none 0 0) :: [])))))))) from (st_cons (n := 195) (by omega) (st_cons (n := 194) (by omega) (st_cons (n := 193) (by omega) (st_cons (n := 192) (by omega) (st_skip (n := 128) (Desc.len _ r_g) (by show _ = 64 + _; omega) (st_skip (n := 64) (Desc.len _ r_h) (by show _ = 64 + _; omega) (st_skip (n := 0) (Desc.len _ r_r) (by show _ = 64 + _; omega) st_here1)))))))) ▸ hp
  replace r_6 := r_6.step hs
  replace r_9 := r_9.step hs
  replace r_f := r_f.step hs
  replace r_g := r_g.step hs
  replace r_h := r_h.step hs
  replace r_r := r_r.step hs
  replace r_p := r_p.step hs
  apply go
  apply go
  refine ev0 (rn_field rfl rfl FO65_0) ?_
  refine ev (rn_load rfl rfl (run_loadVarA T24 rfl ((hp.at_ (i := 1) rfl).take 4))) ?_
  have hp := hp.none_
  have o_u := OwnS.nil (dI .i64) 3 w_t I0
  obtain ⟨⟨x_v, x_w⟩, q_x, h⟩ := bind_some h
  refine ev_call rfl rfl C41 (((ref41_Runner_tick_ok n) _ _  (Runner_2.mk (Node.mk x_0.T.Kind x_0.T.Name x_0.T.Count x_0.T.Kids) x_0.Counters x_0.On (List.replicate 64 0) []) g_1 [some (g_1, ((Value.int .i64 x_0.T.Kind) :: ((Value.int .i64 x_0.T.Name) :: ((Value.int .i64 x_0.T.Count) :: (v_a :: (c_b ++ (c_c ++ (c_q ++ ((Value.slice none 0 0) :: [])))))))), 65), none] ⟨v_a, c_b, c_c, c_q, (.slice none 0 0), none, rfl, r_f, r_g, r_h, r_r, o_u⟩ (Node.mk x_0.T.Kind x_0.T.Name x_0.T.Count x_0.T.Kids) v_a r_f 0 x_4 v_5 r_6 x_7 v_8 r_9 (hp.lendL [2, 0] (by decide)) _ q_x).mono ?_)
  rintro _ w_y ⟨I_z, F_10, hv, hq8043, q_11⟩
  replace hv := hv.symm
  subst hv
  obtain ⟨v_12, c_13, c_14, c_15, v_16, e_17, rfl, r_18, r_19, r_1a, r_1b, o_1c⟩ := q_11
  have hs := hq8043.st
  have hp := hp.backL [2, 0] [1] (by decide) hq8043
  replace r_p := r_p.step hs
  apply go
  apply go
  refine ev0 (rn_field rfl rfl FO65_0) ?_
  refine ev (rn_load rfl rfl (run_loadVarA T24 rfl ((hp.at_ (i := 0) rfl).take 4))) ?_
  have r_1d := o_1c.frz hp (i := 1) rfl
  obtain ⟨hp, hs⟩ := freeze_hp hp (i := 1) rfl
  replace r_18 := r_18.step hs
  replace r_19 := r_19.step hs
  replace r_1a := r_1a.step hs
  replace r_1b := r_1b.step hs
  replace r_p := r_p.step hs
  have hp := hp.sel [0, 2] (by decide)
  obtain ⟨x_1e, q_1f, h⟩ := bind_some h
  refine ev_call rfl rfl C42 (((ref41_Runner_settle_ok n) _ _  (Runner_2.mk (Node.mk x_w.T.Kind x_w.T.Name x_w.T.Count x_w.T.Kids) x_w.Counters x_w.On x_w.Status x_w.Ticked) g_1 [some (g_1, ((Value.int .i64 x_w.T.Kind) :: ((Value.int .i64 x_w.T.Name) :: ((Value.int .i64 x_w.T.Count) :: (v_12 :: (c_13 ++ (c_14 ++ (c_15 ++ (v_16 :: [])))))))), 65)] ⟨v_12, c_13, c_14, c_15, v_16, rfl, r_18, r_19, r_1a, r_1b, r_1d⟩ (Node.mk x_w.T.Kind x_w.T.Name x_w.T.Count x_w.T.Kids) v_12 r_18 0 true (hp.lendL [0] (by decide)) _ q_1f).mono ?_)
  rintro _ w_1g ⟨I_1h, F_1i, hv, hq8062, q_1j⟩
  replace hv := hv.symm
  subst hv
  obtain ⟨v_1k, c_1l, c_1m, c_1n, v_1o, rfl, r_1p, r_1q, r_1r, r_1s, r_1t⟩ := q_1j
  have hs := hq8062.st
  have hp := hp.backL [0] [1] (by decide) hq8062
  replace r_p := r_p.step hs
  apply go
  apply go
  obtain ⟨y_1u, q_1v, h⟩ := bind_some h
  refine W.cut (γ := ((List Int) × Value × Ent × (Nat → Prop))) (fun g => [(0, (.pointer (some ⟨g_1, 0, none⟩))), (10, (.int .i64 x_v)), (11, (g.2.1))]) (fun g w' => y_1u = (g.1) ∧ Hp ⟨w0, I0, B⟩ (g.2.2.2) [some (g_1, ((Value.int .i64 x_1e.T.Kind) :: ((Value.int .i64 x_1e.T.Name) :: ((Value.int .i64 x_1e.T.Count) :: (v_1k :: (c_1l ++ (c_1m ++ (c_1n ++ (v_1o :: [])))))))), 65), (g.2.2.1)] w' ∧ RepS dNode w' (g.2.2.2) v_1k x_1e.T.Kids ∧ (dA 64 (dI .i64)).rep w' (g.2.2.2) c_1l x_1e.Counters ∧ (dA 64 dB).rep w' (g.2.2.2) c_1m x_1e.On ∧ (dA 64 (dI .i64)).rep w' (g.2.2.2) c_1n x_1e.Status ∧ RepS (dI .i64) w' (g.2.2.2) v_1o x_1e.Ticked ∧ OwnS (dI .i64) 3 w' (g.2.2.2) (g.2.1) (g.2.2.1) (g.1)) ?_ ?_
  ·
    apply go
    apply go
    apply go
    have hp := hp.none_
    have o_1w := OwnS.nil (dI .i64) 3 w_1g I_1h
    have hp := hp.perm [1, 2, 0] (by decide)
    refine W.loop q_1v (γ := (Value × Ent × (Nat → Prop))) (fun s g => [(0, (.pointer (some ⟨g_1, 0, none⟩))), (9, (.pointer (some ⟨g_k, 0, none⟩))), (10, (.int .i64 x_v)), (11, (g.1)), (12, (.int .i64 (s.2)))]) (fun s g w' => Hp ⟨w0, I0, B⟩ (g.2.2) [some (g_1, ((Value.int .i64 x_1e.T.Kind) :: ((Value.int .i64 x_1e.T.Name) :: ((Value.int .i64 x_1e.T.Count) :: (v_1k :: (c_1l ++ (c_1m ++ (c_1n ++ (v_1o :: [])))))))), 65), some (g_k, c_c, 63), (g.2.1)] w' ∧ RepS dNode w' (g.2.2) v_1k x_1e.T.Kids ∧ (dA 64 (dI .i64)).rep w' (g.2.2) c_1l x_1e.Counters ∧ (dA 64 dB).rep w' (g.2.2) c_1m x_1e.On ∧ (dA 64 (dI .i64)).rep w' (g.2.2) c_1n x_1e.Status ∧ RepS (dI .i64) w' (g.2.2) v_1o x_1e.Ticked ∧ (dA 64 dB).rep w' (g.2.2) c_c x_0.On ∧ OwnS (dI .i64) 3 w' (g.2.2) (g.1) (g.2.1) (s.1)) ((.slice none 0 0), none, I_1h) (.c rfl (.c rfl (.c rfl (.c rfl (.c rfl .n))))) ⟨hp, r_1p, r_1q, r_1r, r_1s, r_1t, r_p, o_1w⟩ ?_
    rintro ⟨x_1x, x_1y⟩ ⟨v_1z, e_20, I_21⟩ w_22 y_23 ⟨hp, r_1p, r_1q, r_1r, r_1s, r_1t, r_p, o_24⟩ q_25 q_26
    unfold ref41_Runner_Tick_L21 at q_25
    apply go
    apply go
    apply go
    apply go
    refine sel_of (fun hc => ?_) (fun hc => ?_)
    ·
      have q_25 := cond_t q_25 hc
      apply go
      obtain ⟨y_27, q_28, q_25⟩ := bind_some q_25
      refine W.cut (γ := ((List Int) × Value × Ent × (Nat → Prop))) (fun g => [(0, (.pointer (some ⟨g_1, 0, none⟩))), (9, (.pointer (some ⟨g_k, 0, none⟩))), (10, (.int .i64 x_v)), (11, (g.2.1)), (12, (.int .i64 x_1y))]) (fun g w' => y_27 = (g.1) ∧ Hp ⟨w0, I0, B⟩ (g.2.2.2) [some (g_1, ((Value.int .i64 x_1e.T.Kind) :: ((Value.int .i64 x_1e.T.Name) :: ((Value.int .i64 x_1e.T.Count) :: (v_1k :: (c_1l ++ (c_1m ++ (c_1n ++ (v_1o :: [])))))))), 65), some (g_k, c_c, 63), (g.2.2.1)] w' ∧ RepS dNode w' (g.2.2.2) v_1k x_1e.T.Kids ∧ (dA 64 (dI .i64)).rep w' (g.2.2.2) c_1l x_1e.Counters ∧ (dA 64 dB).rep w' (g.2.2.2) c_1m x_1e.On ∧ (dA 64 (dI .i64)).rep w' (g.2.2.2) c_1n x_1e.Status ∧ RepS (dI .i64) w' (g.2.2.2) v_1o x_1e.Ticked ∧ (dA 64 dB).rep w' (g.2.2.2) c_c x_0.On ∧ OwnS (dI .i64) 3 w' (g.2.2.2) (g.2.1) (g.2.2.1) (g.1)) ?_ ?_
      ·
        apply go
        apply go
        apply go
        obtain ⟨y_29, q_2a, q_28⟩ := bind_some q_28
        refine W.cut (γ := Bool) (fun g => [(0, (.pointer (some ⟨g_1, 0, none⟩))), (9, (.pointer (some ⟨g_k, 0, none⟩))), (10, (.int .i64 x_v)), (11, v_1z), (12, (.int .i64 x_1y)), (13, (.bool (g)))]) (fun g w' => y_29 = (g) ∧ w_22 = w') ?_ ?_
        ·
          apply go
          apply go
          apply go
          refine W.loop q_2a (γ := Unit) (fun s _ => [(0, (.pointer (some ⟨g_1, 0, none⟩))), (9, (.pointer (some ⟨g_k, 0, none⟩))), (10, (.int .i64 x_v)), (11, v_1z), (12, (.int .i64 x_1y)), (13, (.bool (s.1))), (14, (.int .i64 (s.2)))]) (fun s _ w' => w_22 = w') () (.c rfl (.c rfl (.c rfl (.c rfl (.c rfl (.c rfl (.c rfl .n))))))) rfl ?_
          rintro ⟨x_2b, x_2c⟩ ⟨⟩ _ y_2d rfl q_2e q_2f
          unfold ref41_Runner_Tick_L25 at q_2e
          apply go
          apply go
          apply go
          refine ev0 (rn_field rfl rfl FO65_4) ?_
          refine ev (rn_load rfl rfl (run_loadVar1 T39 (hp.cell (i := 0) (off := 196) rfl (show (((Value.int .i64 x_1e.T.Kind) :: ((Value.int .i64 x_1e.T.Name) :: ((Value.int .i64 x_1e.T.Count) :: (v_1k :: (c_1l ++ (c_1m ++ (c_1n ++ (v_1o :: [])))))))) : List Value)[196]? = some _ from (gt_cons (n := 195) (by omega) (gt_cons (n := 194) (by omega) (gt_cons (n := 193) (by omega) (gt_cons (n := 192) (by omega) (gt_skip (n := 128) (Desc.len _ r_1q) (by show _ = 64 + _; omega) (gt_skip (n := 64) (Desc.len _ r_1r) (by show _ = 64 + _; omega) (gt_skip (n := 0) (Desc.len _ r_1s) (by show _ = 64 + _; omega) gt_here))))))))))) ?_
          refine ev0 (rn_len rfl rfl Try.underlying39 r_1t) ?_
          apply go
          refine sel_of (fun hc => ?_) (fun hc => ?_)
          ·
            have q_2e := cond_t q_2e hc
            apply go
            obtain ⟨y_2g, q_2h, q_2e⟩ := bind_some q_2e
            refine W.cut (γ := Bool) (fun g => [(0, (.pointer (some ⟨g_1, 0, none⟩))), (9, (.pointer (some ⟨g_k, 0, none⟩))), (10, (.int .i64 x_v)), (11, v_1z), (12, (.int .i64 x_1y)), (13, (.bool (g))), (14, (.int .i64 x_2c))]) (fun g w' => y_2g = (g) ∧ w_22 = w') ?_ ?_
            ·
              apply go
              apply go
              refine sel_of (fun hc => ?_) (fun hc => ?_)
              ·
                have q_2h := cond_t q_2h hc
                obtain rfl := Option.some.inj q_2h
                exact ⟨true, (.c rfl (.c rfl (.c rfl (.c rfl (.c rfl (.c rfl (.c rfl .n))))))), rfl, rfl⟩
              ·
                have q_2h := cond_f q_2h hc
                refine ev0 (rn_field rfl rfl FO65_4) ?_
                refine ev (rn_load rfl rfl (run_loadVar1 T39 (hp.cell (i := 0) (off := 196) rfl (show (((Value.int .i64 x_1e.T.Kind) :: ((Value.int .i64 x_1e.T.Name) :: ((Value.int .i64 x_1e.T.Count) :: (v_1k :: (c_1l ++ (c_1m ++ (c_1n ++ (v_1o :: [])))))))) : List Value)[196]? = some _ from (gt_cons (n := 195) (by omega) (gt_cons (n := 194) (by omega) (gt_cons (n := 193) (by omega) (gt_cons (n := 192) (by omega) (gt_skip (n := 128) (Desc.len _ r_1q) (by show _ = 64 + _; omega) (gt_skip (n := 64) (Desc.len _ r_1r) (by show _ = 64 + _; omega) (gt_skip (n := 0) (Desc.len _ r_1s) (by show _ = 64 + _; omega) gt_here))))))))))) ?_
                obtain ⟨x_2i, q_2j, q_2h⟩ := bind_some q_2h
                refine ev_index rfl rfl rfl Try.underlying39 T3 r_1t q_2j ?_
                intro p_2k c_2l d_2m a_2n
                obtain rfl : c_2l = [(.int .i64 x_2i)] := d_2m
                refine ev (rn_load rfl rfl (run_loadVar1 T3 (a_2n.2 0 _ rfl))) ?_
                refine sel_of (fun hc => ?_) (fun hc => ?_)
                ·
                  have q_2h := cond_t q_2h hc
                  refine ev0 (rn_field rfl rfl FO65_3) ?_
                  obtain ⟨x_2o, q_2p, q_2h⟩ := bind_some q_2h
                  refine ev_indexA (cs := ((Value.int .i64 x_1e.T.Kind) :: ((Value.int .i64 x_1e.T.Name) :: ((Value.int .i64 x_1e.T.Count) :: (v_1k :: (c_1l ++ (c_1m ++ (c_1n ++ (v_1o :: []))))))))) rfl rfl rfl Try.underlying62 T3 (SubA.consA (n := 131) (m := 132) rfl (SubA.consA (n := 130) (m := 131) rfl (SubA.consA (n := 129) (m := 130) rfl (SubA.consA (n := 128) (m := 129) rfl (SubA.skipA (n := 64) (m := 128) (Desc.len _ r_1q) rfl (SubA.skipA (n := 0) (m := 64) (Desc.len _ r_1r) rfl (SubA.pre r_1s))))))) q_2p ?_
                  refine ev (rn_load rfl rfl (run_loadVar1 T3 (hp.cell (i := 0) rfl ((SubA.consA (n := 131) (m := 132) rfl (SubA.consA (n := 130) (m := 131) rfl (SubA.consA (n := 129) (m := 130) rfl (SubA.consA (n := 128) (m := 129) rfl (SubA.skipA (n := 64) (m := 128) (Desc.len _ r_1q) rfl (SubA.skipA (n := 0) (m := 64) (Desc.len _ r_1r) rfl (SubA.pre r_1s))))))).el q_2p).int))) ?_
                  obtain rfl := Option.some.inj q_2h
                  exact ⟨(x_2o == 1), (.c rfl (.c rfl (.c rfl (.c rfl (.c rfl (.c rfl (.c rfl .n))))))), rfl, rfl⟩
                ·
                  have q_2h := cond_f q_2h hc
                  obtain rfl := Option.some.inj q_2h
                  exact ⟨false, (.c rfl (.c rfl (.c rfl (.c rfl (.c rfl (.c rfl (.c rfl .n))))))), rfl, rfl⟩
            ·
              rintro x_2q _ ⟨hy, rfl⟩
              replace hy := hy.symm
              subst hy
              apply go
              exact ⟨_, (Option.some.inj q_2e).symm, (), (.c rfl (.c rfl (.c rfl (.c rfl (.c rfl (.c rfl (.c rfl .n))))))), rfl⟩
          ·
            have q_2e := cond_f q_2e hc
            apply go
            have q_2r := congrArg some (q_2f _ (Option.some.inj q_2e).symm)
            obtain rfl := Option.some.inj q_2r
            exact ⟨x_2b, (.c rfl (.c rfl (.c rfl (.c rfl (.c rfl (.c rfl .n)))))), rfl, rfl⟩
        ·
          rintro x_2s _ ⟨hy, rfl⟩
          replace hy := hy.symm
          subst hy
          obtain ⟨y_2t, q_2u, q_28⟩ := bind_some q_28
          refine W.cut (γ := Bool) (fun g => [(0, (.pointer (some ⟨g_1, 0, none⟩))), (9, (.pointer (some ⟨g_k, 0, none⟩))), (10, (.int .i64 x_v)), (11, v_1z), (12, (.int .i64 x_1y)), (99, (.bool (g)))]) (fun g w' => y_2t = (g) ∧ w_22 = w') ?_ ?_
          ·
            apply go
            obtain ⟨x_2v, q_2w, q_2u⟩ := bind_some q_2u
            refine ev_indexA rfl rfl rfl Try.underlying63 T4 (SubA.top r_p) q_2w ?_
            refine ev (rn_load rfl rfl (run_loadVar1 T4 (hp.cell (i := 1) rfl ((SubA.top r_p).el q_2w).bool))) ?_
            refine sel_of (fun hc => ?_) (fun hc => ?_)
            ·
              have q_2u := cond_t q_2u hc
              refine ev0 (rn_field rfl rfl FO65_3) ?_
              obtain ⟨x_2x, q_2y, q_2u⟩ := bind_some q_2u
              refine ev_indexA (cs := ((Value.int .i64 x_1e.T.Kind) :: ((Value.int .i64 x_1e.T.Name) :: ((Value.int .i64 x_1e.T.Count) :: (v_1k :: (c_1l ++ (c_1m ++ (c_1n ++ (v_1o :: []))))))))) rfl rfl rfl Try.underlying62 T3 (SubA.consA (n := 131) (m := 132) rfl (SubA.consA (n := 130) (m := 131) rfl (SubA.consA (n := 129) (m := 130) rfl (SubA.consA (n := 128) (m := 129) rfl (SubA.skipA (n := 64) (m := 128) (Desc.len _ r_1q) rfl (SubA.skipA (n := 0) (m := 64) (Desc.len _ r_1r) rfl (SubA.pre r_1s))))))) q_2y ?_
              refine ev (rn_load rfl rfl (run_loadVar1 T3 (hp.cell (i := 0) rfl ((SubA.consA (n := 131) (m := 132) rfl (SubA.consA (n := 130) (m := 131) rfl (SubA.consA (n := 129) (m := 130) rfl (SubA.consA (n := 128) (m := 129) rfl (SubA.skipA (n := 64) (m := 128) (Desc.len _ r_1q) rfl (SubA.skipA (n := 0) (m := 64) (Desc.len _ r_1r) rfl (SubA.pre r_1s))))))).el q_2y).int))) ?_
              refine sel_of (fun hc => ?_) (fun hc => ?_)
              ·
                have q_2u := cond_t q_2u hc
                obtain rfl := Option.some.inj q_2u
                exact ⟨true, (.c rfl (.c rfl (.c rfl (.c rfl (.c rfl (.c rfl .n)))))), rfl, rfl⟩
              ·
                have q_2u := cond_f q_2u hc
                refine sel_of (fun hc => ?_) (fun hc => ?_)
                ·
                  have q_2u := cond_t q_2u hc
                  refine ev0 (rn_field rfl rfl FO65_2) ?_
                  obtain ⟨x_2z, q_30, q_2u⟩ := bind_some q_2u
                  refine ev_indexA (cs := ((Value.int .i64 x_1e.T.Kind) :: ((Value.int .i64 x_1e.T.Name) :: ((Value.int .i64 x_1e.T.Count) :: (v_1k :: (c_1l ++ (c_1m ++ (c_1n ++ (v_1o :: []))))))))) rfl rfl rfl Try.underlying63 T4 (SubA.consA (n := 67) (m := 68) rfl (SubA.consA (n := 66) (m := 67) rfl (SubA.consA (n := 65) (m := 66) rfl (SubA.consA (n := 64) (m := 65) rfl (SubA.skipA (n := 0) (m := 64) (Desc.len _ r_1q) rfl (SubA.pre r_1r)))))) q_30 ?_
                  refine ev (rn_load rfl rfl (run_loadVar1 T4 (hp.cell (i := 0) rfl ((SubA.consA (n := 67) (m := 68) rfl (SubA.consA (n := 66) (m := 67) rfl (SubA.consA (n := 65) (m := 66) rfl (SubA.consA (n := 64) (m := 65) rfl (SubA.skipA (n := 0) (m := 64) (Desc.len _ r_1q) rfl (SubA.pre r_1r)))))).el q_30).bool))) ?_
                  obtain rfl := Option.some.inj q_2u
                  exact ⟨(!x_2z), (.c rfl (.c rfl (.c rfl (.c rfl (.c rfl (.c rfl .n)))))), rfl, rfl⟩
                ·
                  have q_2u := cond_f q_2u hc
                  obtain rfl := Option.some.inj q_2u
                  exact ⟨false, (.c rfl (.c rfl (.c rfl (.c rfl (.c rfl (.c rfl .n)))))), rfl, rfl⟩
            ·
              have q_2u := cond_f q_2u hc
              refine sel_of (fun hc => ?_) (fun hc => ?_)
              ·
                have q_2u := cond_t q_2u hc
                refine ev0 (rn_field rfl rfl FO65_2) ?_
                obtain ⟨x_31, q_32, q_2u⟩ := bind_some q_2u
                refine ev_indexA (cs := ((Value.int .i64 x_1e.T.Kind) :: ((Value.int .i64 x_1e.T.Name) :: ((Value.int .i64 x_1e.T.Count) :: (v_1k :: (c_1l ++ (c_1m ++ (c_1n ++ (v_1o :: []))))))))) rfl rfl rfl Try.underlying63 T4 (SubA.consA (n := 67) (m := 68) rfl (SubA.consA (n := 66) (m := 67) rfl (SubA.consA (n := 65) (m := 66) rfl (SubA.consA (n := 64) (m := 65) rfl (SubA.skipA (n := 0) (m := 64) (Desc.len _ r_1q) rfl (SubA.pre r_1r)))))) q_32 ?_
                refine ev (rn_load rfl rfl (run_loadVar1 T4 (hp.cell (i := 0) rfl ((SubA.consA (n := 67) (m := 68) rfl (SubA.consA (n := 66) (m := 67) rfl (SubA.consA (n := 65) (m := 66) rfl (SubA.consA (n := 64) (m := 65) rfl (SubA.skipA (n := 0) (m := 64) (Desc.len _ r_1q) rfl (SubA.pre r_1r)))))).el q_32).bool))) ?_
                obtain rfl := Option.some.inj q_2u
                exact ⟨(!x_31), (.c rfl (.c rfl (.c rfl (.c rfl (.c rfl (.c rfl .n)))))), rfl, rfl⟩
              ·
                have q_2u := cond_f q_2u hc
                obtain rfl := Option.some.inj q_2u
                exact ⟨false, (.c rfl (.c rfl (.c rfl (.c rfl (.c rfl (.c rfl .n)))))), rfl, rfl⟩
          ·
            rintro x_33 _ ⟨hy, rfl⟩
            replace hy := hy.symm
            subst hy
            apply go
            refine sel_of (fun hc => ?_) (fun hc => ?_)
            ·
              have q_28 := cond_t q_28 hc
              apply go
              refine ev_litN (d := (dI .i64)) (xs := [x_1y]) (cs := [(.int .i64 x_1y)]) hp rfl rfl Try.underlying39 T3 (by decide) rfl rfl (Elems.cons (d := (dI .i64)) (xs := _) rfl (Elems.nil _ _ _ _)) ?_
              intro v_34 I_35 w_36 hp hs r_37
              replace o_24 := o_24.step hs
              replace r_1p := r_1p.step hs
              replace r_1q := r_1q.step hs
              replace r_1r := r_1r.step hs
              replace r_1s := r_1s.step hs
              replace r_1t := r_1t.step hs
              replace r_p := r_p.step hs
              obtain ⟨x_38, q_39, q_28⟩ := bind_some q_28
              refine ev_append hp (i := 2) rfl rfl rfl rfl Try.underlying39 T3 rfl rfl o_24 r_37 q_39 ?_
              rintro v_3a e_3b w_3c hp hs o_3d
              replace r_1p := r_1p.step hs
              replace r_1q := r_1q.step hs
              replace r_1r := r_1r.step hs
              replace r_1s := r_1s.step hs
              replace r_1t := r_1t.step hs
              replace r_p := r_p.step hs
              obtain rfl := Option.some.inj q_28
              exact ⟨(x_38, v_3a, e_3b, I_35), (.c rfl (.c rfl (.c rfl (.c rfl (.c rfl .n))))), rfl, hp, r_1p, r_1q, r_1r, r_1s, r_1t, r_p, o_3d⟩
            ·
              have q_28 := cond_f q_28 hc
              apply go
              obtain rfl := Option.some.inj q_28
              exact ⟨(x_1x, v_1z, e_20, I_21), (.c rfl (.c rfl (.c rfl (.c rfl (.c rfl .n))))), rfl, hp, r_1p, r_1q, r_1r, r_1s, r_1t, r_p, o_24⟩
      ·
        rintro ⟨x_3e, v_3f, e_3g, I_3h⟩ w_3i ⟨hy, hp, r_1p, r_1q, r_1r, r_1s, r_1t, r_p, o_3j⟩
        replace hy := hy.symm
        subst hy
        apply go
        exact ⟨_, (Option.some.inj q_25).symm, (v_3f, e_3g, I_3h), (.c rfl (.c rfl (.c rfl (.c rfl (.c rfl .n))))), ⟨hp, r_1p, r_1q, r_1r, r_1s, r_1t, r_p, o_3j⟩⟩
    ·
      have q_25 := cond_f q_25 hc
      apply go
      have q_3k := congrArg some (q_26 _ (Option.some.inj q_25).symm)
      obtain rfl := Option.some.inj q_3k
      have hp := hp.sel [0, 2] (by decide)
      exact ⟨(x_1x, v_1z, e_20, I_21), (.c rfl (.c rfl (.c rfl .n))), rfl, hp, r_1p, r_1q, r_1r, r_1s, r_1t, o_24⟩
  ·
    rintro ⟨x_3l, v_3m, e_3n, I_3o⟩ w_3p ⟨hy, hp, r_1p, r_1q, r_1r, r_1s, r_1t, o_3q⟩
    replace hy := hy.symm
    subst hy
    apply go
    refine W.quiet (fun w' => Ch [] w_3p w') MX (by kernel_rfl) (Ch.drew [] w_3p) ?_
    refine evq0 (rn_field rfl rfl FO65_4) ?_
    refine evq (fun w' hw => rn_load rfl rfl (run_loadVar1 T39 ((hp.ext hw).cell (i := 0) (off := 196) rfl (show (((Value.int .i64 x_1e.T.Kind) :: ((Value.int .i64 x_1e.T.Name) :: ((Value.int .i64 x_1e.T.Count) :: (v_1k :: (c_1l ++ (c_1m ++ (c_1n ++ (v_1o :: [])))))))) : List Value)[196]? = some _ from (gt_cons (n := 195) (by omega) (gt_cons (n := 194) (by omega) (gt_cons (n := 193) (by omega) (gt_cons (n := 192) (by omega) (gt_skip (n := 128) (Desc.len _ r_1q) (by show _ = 64 + _; omega) (gt_skip (n := 64) (Desc.len _ r_1r) (by show _ = 64 + _; omega) (gt_skip (n := 0) (Desc.len _ r_1s) (by show _ = 64 + _; omega) gt_here))))))))))) ?_
    intro w_3r hc
    have hs := hp.stp hc
    replace hp := hp.ext hc
    replace r_1t := r_1t.step hs
    replace o_3q := o_3q.step hs
    replace r_1p := r_1p.step hs
    replace r_1q := r_1q.step hs
    replace r_1r := r_1r.step hs
    replace r_1s := r_1s.step hs
    apply go
    obtain rfl := Option.some.inj h
    have r_3s := o_3q.frz hp (i := 1) rfl
    obtain ⟨hp, hs⟩ := freeze_hp hp (i := 1) rfl
    replace r_1t := r_1t.step hs
    replace r_1p := r_1p.step hs
    replace r_1q := r_1q.step hs
    replace r_1r := r_1r.step hs
    replace r_1s := r_1s.step hs
    have hp := hp.sel [0] (by decide)
    exact ⟨(Ad I_3o e_3n), v_1o, v_3m, [some (g_1, ((Value.int .i64 x_1e.T.Kind) :: ((Value.int .i64 x_1e.T.Name) :: ((Value.int .i64 x_1e.T.Count) :: (v_1k :: (c_1l ++ (c_1m ++ (c_1n ++ (v_1o :: [])))))))), 65)], rfl, hp, r_1t, r_3s, ⟨v_1k, c_1l, c_1m, c_1n, v_1o, rfl, r_1p, r_1q, r_1r, r_1s, r_1t⟩⟩

end Go.Proofs.Ytknnmbcaoekgmaa

namespace Go.Proofs.Ytknnmbcaoekgmaa
open Go Go.Proofs.Ytknnmbcaoekgmaa.Gw Go.RowKit
set_option linter.unusedVariables false
attribute [local irreducible] Ev EvQ EvS EvH
def ref41_Runner_Active_S (f : Runner_2 → Option ((List Int) × Runner_2)) : Prop := ∀ (w0 : World) (I0 : Nat → Prop) (x_0 : Runner_2) (g_1 : Nat) (E_2 : List Ent) (q_3 : qW w0 I0 g_1 E_2 x_0) (hp : Hp ⟨w0, I0, blks E_2⟩ I0 E_2 w0) (r : ((List Int) × Runner_2)), f x_0 = some r →
    Ret Try.prog 34 #[(.pointer (some ⟨g_1, 0, none⟩))] w0 fun v w1 => ∃ (I1 : Nat → Prop) (u_4 : Value) (u_5 : List Ent), v = u_4 ∧ Hp ⟨w0, I0, blks E_2⟩ I1 u_5 w1 ∧ RepS (dI .i64) w1 I1 u_4 r.1 ∧ qW w1 I1 g_1 u_5 r.2
theorem ref41_Runner_Active_ok (n : Nat) : ref41_Runner_Active_S (ref41_Runner_Active n) := by
  intro w0 I0 x_0 g_1 E_2 q_3 hp r h
  unfold ref41_Runner_Active at h
  refine enter Try.func34 rfl (Nat.le_of_ble_eq_true rfl) ?_
  generalize blks E_2 = B at hp ⊢
  obtain ⟨v_4, c_5, c_6, c_7, v_8, rfl, r_9, r_a, r_b, r_c, r_d⟩ := q_3
  have hp : Hp ⟨w0, I0, B⟩ I0 [some (g_1, ((Value.int .i64 x_0.T.Kind) :: ((Value.int .i64 x_0.T.Name) :: ((Value.int .i64 x_0.T.Count) :: (v_4 :: (c_5 ++ (c_6 ++ (c_7 ++ (v_8 :: [])))))))), 65)] w0 := hp
  apply go
  apply go
  apply go
  apply go
  apply go
  refine ev0 (rn_eqNilP rfl rfl rfl Try.underlying35 (b := false) rfl) ?_
  apply go
  apply go
  apply go
  apply go
  obtain ⟨y_e, q_f, h⟩ := bind_some h
  refine W.cut (γ := ((List Int) × Value × Ent × (Nat → Prop))) (fun g => [(3, (g.2.1))]) (fun g w' => y_e = (g.1) ∧ Hp ⟨w0, I0, B⟩ (g.2.2.2) [(g.2.2.1), some (g_1, ((Value.int .i64 x_0.T.Kind) :: ((Value.int .i64 x_0.T.Name) :: ((Value.int .i64 x_0.T.Count) :: (v_4 :: (c_5 ++ (c_6 ++ (c_7 ++ (v_8 :: [])))))))), 65)] w' ∧ OwnS (dI .i64) 3 w' (g.2.2.2) (g.2.1) (g.2.2.1) (g.1) ∧ RepS dNode w' (g.2.2.2) v_4 x_0.T.Kids ∧ (dA 64 (dI .i64)).rep w' (g.2.2.2) c_5 x_0.Counters ∧ (dA 64 dB).rep w' (g.2.2.2) c_6 x_0.On ∧ (dA 64 (dI .i64)).rep w' (g.2.2.2) c_7 x_0.Status ∧ RepS (dI .i64) w' (g.2.2.2) v_8 x_0.Ticked) ?_ ?_
  ·
    apply go
    apply go
    apply go
    have hp := hp.none_
    have o_g := OwnS.nil (dI .i64) 3 w0 I0
    have hp := hp.perm [1, 0] (by decide)
    refine W.loop q_f (γ := (Value × Ent × (Nat → Prop))) (fun s g => [(0, (.pointer (some ⟨g_1, 0, none⟩))), (3, (g.1)), (4, (.int .i64 (s.2)))]) (fun s g w' => Hp ⟨w0, I0, B⟩ (g.2.2) [some (g_1, ((Value.int .i64 x_0.T.Kind) :: ((Value.int .i64 x_0.T.Name) :: ((Value.int .i64 x_0.T.Count) :: (v_4 :: (c_5 ++ (c_6 ++ (c_7 ++ (v_8 :: [])))))))), 65), (g.2.1)] w' ∧ RepS dNode w' (g.2.2) v_4 x_0.T.Kids ∧ (dA 64 (dI .i64)).rep w' (g.2.2) c_5 x_0.Counters ∧ (dA 64 dB).rep w' (g.2.2) c_6 x_0.On ∧ (dA 64 (dI .i64)).rep w' (g.2.2) c_7 x_0.Status ∧ RepS (dI .i64) w' (g.2.2) v_8 x_0.Ticked ∧ OwnS (dI .i64) 3 w' (g.2.2) (g.1) (g.2.1) (s.1)) ((.slice none 0 0), none, I0) (.c rfl (.c rfl (.c rfl .n))) ⟨hp, r_9, r_a, r_b, r_c, r_d, o_g⟩ ?_
    rintro ⟨x_h, x_i⟩ ⟨v_j, e_k, I_l⟩ w_m y_n ⟨hp, r_9, r_a, r_b, r_c, r_d, o_o⟩ q_p q_q
    unfold ref41_Runner_Active_L1 at q_p
    apply go
    apply go
    apply go
    apply go
    refine sel_of (fun hc => ?_) (fun hc => ?_)
    ·
      have q_p := cond_t q_p hc
      apply go
      obtain ⟨y_r, q_s, q_p⟩ := bind_some q_p
      refine W.cut (γ := ((List Int) × Value × Ent × (Nat → Prop))) (fun g => [(0, (.pointer (some ⟨g_1, 0, none⟩))), (3, (g.2.1)), (4, (.int .i64 x_i))]) (fun g w' => y_r = (g.1) ∧ Hp ⟨w0, I0, B⟩ (g.2.2.2) [some (g_1, ((Value.int .i64 x_0.T.Kind) :: ((Value.int .i64 x_0.T.Name) :: ((Value.int .i64 x_0.T.Count) :: (v_4 :: (c_5 ++ (c_6 ++ (c_7 ++ (v_8 :: [])))))))), 65), (g.2.2.1)] w' ∧ RepS dNode w' (g.2.2.2) v_4 x_0.T.Kids ∧ (dA 64 (dI .i64)).rep w' (g.2.2.2) c_5 x_0.Counters ∧ (dA 64 dB).rep w' (g.2.2.2) c_6 x_0.On ∧ (dA 64 (dI .i64)).rep w' (g.2.2.2) c_7 x_0.Status ∧ RepS (dI .i64) w' (g.2.2.2) v_8 x_0.Ticked ∧ OwnS (dI .i64) 3 w' (g.2.2.2) (g.2.1) (g.2.2.1) (g.1)) ?_ ?_
      ·
        apply go
        apply go
        apply go
        refine ev0 (rn_field rfl rfl FO65_2) ?_
        obtain ⟨x_t, q_u, q_s⟩ := bind_some q_s
        refine ev_indexA (cs := ((Value.int .i64 x_0.T.Kind) :: ((Value.int .i64 x_0.T.Name) :: ((Value.int .i64 x_0.T.Count) :: (v_4 :: (c_5 ++ (c_6 ++ (c_7 ++ (v_8 :: []))))))))) rfl rfl rfl Try.underlying63 T4 (SubA.consA (n := 67) (m := 68) rfl (SubA.consA (n := 66) (m := 67) rfl (SubA.consA (n := 65) (m := 66) rfl (SubA.consA (n := 64) (m := 65) rfl (SubA.skipA (n := 0) (m := 64) (Desc.len _ r_a) rfl (SubA.pre r_b)))))) q_u ?_
        refine ev (rn_load rfl rfl (run_loadVar1 T4 (hp.cell (i := 0) rfl ((SubA.consA (n := 67) (m := 68) rfl (SubA.consA (n := 66) (m := 67) rfl (SubA.consA (n := 65) (m := 66) rfl (SubA.consA (n := 64) (m := 65) rfl (SubA.skipA (n := 0) (m := 64) (Desc.len _ r_a) rfl (SubA.pre r_b)))))).el q_u).bool))) ?_
        apply go
        refine sel_of (fun hc => ?_) (fun hc => ?_)
        ·
          have q_s := cond_t q_s hc
          apply go
          refine ev_litN (d := (dI .i64)) (xs := [x_i]) (cs := [(.int .i64 x_i)]) hp rfl rfl Try.underlying39 T3 (by decide) rfl rfl (Elems.cons (d := (dI .i64)) (xs := _) rfl (Elems.nil _ _ _ _)) ?_
          intro v_v I_w w_x hp hs r_y
          replace o_o := o_o.step hs
          replace r_9 := r_9.step hs
          replace r_a := r_a.step hs
          replace r_b := r_b.step hs
          replace r_c := r_c.step hs
          replace r_d := r_d.step hs
          obtain ⟨x_z, q_10, q_s⟩ := bind_some q_s
          refine ev_append hp (i := 1) rfl rfl rfl rfl Try.underlying39 T3 rfl rfl o_o r_y q_10 ?_
          rintro v_11 e_12 w_13 hp hs o_14
          replace r_9 := r_9.step hs
          replace r_a := r_a.step hs
          replace r_b := r_b.step hs
          replace r_c := r_c.step hs
          replace r_d := r_d.step hs
          obtain rfl := Option.some.inj q_s
          exact ⟨(x_z, v_11, e_12, I_w), (.c rfl (.c rfl (.c rfl .n))), rfl, hp, r_9, r_a, r_b, r_c, r_d, o_14⟩
        ·
          have q_s := cond_f q_s hc
          apply go
          obtain rfl := Option.some.inj q_s
          exact ⟨(x_h, v_j, e_k, I_l), (.c rfl (.c rfl (.c rfl .n))), rfl, hp, r_9, r_a, r_b, r_c, r_d, o_o⟩
      ·
        rintro ⟨x_15, v_16, e_17, I_18⟩ w_19 ⟨hy, hp, r_9, r_a, r_b, r_c, r_d, o_1a⟩
        replace hy := hy.symm
        subst hy
        apply go
        exact ⟨_, (Option.some.inj q_p).symm, (v_16, e_17, I_18), (.c rfl (.c rfl (.c rfl .n))), ⟨hp, r_9, r_a, r_b, r_c, r_d, o_1a⟩⟩
    ·
      have q_p := cond_f q_p hc
      apply go
      have q_1b := congrArg some (q_q _ (Option.some.inj q_p).symm)
      obtain rfl := Option.some.inj q_1b
      have hp := hp.perm [1, 0] (by decide)
      exact ⟨(x_h, v_j, e_k, I_l), (.c rfl .n), rfl, hp, o_o, r_9, r_a, r_b, r_c, r_d⟩
  ·
    rintro ⟨x_1c, v_1d, e_1e, I_1f⟩ w_1g ⟨hy, hp, o_1h, r_9, r_a, r_b, r_c, r_d⟩
    replace hy := hy.symm
    subst hy
    apply go
    apply go
    apply go
    obtain rfl := Option.some.inj h
    have r_1i := o_1h.frz hp (i := 0) rfl
    obtain ⟨hp, hs⟩ := freeze_hp hp (i := 0) rfl
    replace r_9 := r_9.step hs
    replace r_a := r_a.step hs
    replace r_b := r_b.step hs
    replace r_c := r_c.step hs
    replace r_d := r_d.step hs
    have hp := hp.sel [1] (by decide)
    exact ⟨(Ad I_1f e_1e), v_1d, [some (g_1, ((Value.int .i64 x_0.T.Kind) :: ((Value.int .i64 x_0.T.Name) :: ((Value.int .i64 x_0.T.Count) :: (v_4 :: (c_5 ++ (c_6 ++ (c_7 ++ (v_8 :: [])))))))), 65)], rfl, hp, r_1i, ⟨v_4, c_5, c_6, c_7, v_8, rfl, r_9, r_a, r_b, r_c, r_d⟩⟩

end Go.Proofs.Ytknnmbcaoekgmaa

namespace Go.Proofs.Ytknnmbcaoekgmaa
open Go Go.Proofs.Ytknnmbcaoekgmaa.Gw Go.RowKit
set_option linter.unusedVariables false
attribute [local irreducible] Ev EvQ EvS EvH
def law41_same_S (f : Runner → Runner_2 → Input → Option (Bool × Runner × Runner_2)) : Prop := ∀ (w0 : World) (I0 : Nat → Prop) (x_0 : Runner) (g_1 : Nat) (E_2 : List Ent) (q_3 : qR w0 I0 g_1 E_2 x_0) (x_4 : Runner_2) (g_5 : Nat) (E_6 : List Ent) (q_7 : qW w0 I0 g_5 E_6 x_4) (x_8 : Input) (v_9 : Value) (r_a : RepS (dI .i64) w0 I0 v_9 x_8.Actions) (v_b : Value) (r_c : RepS dB w0 I0 v_b x_8.Tests) (hp : Hp ⟨w0, I0, blks (E_2 ++ E_6)⟩ I0 (E_2 ++ E_6) w0) (r : (Bool × Runner × Runner_2)), f x_0 x_4 x_8 = some r →
    Ret Try.prog 19 #[(.pointer (some ⟨g_1, 0, none⟩)), (.pointer (some ⟨g_5, 0, none⟩)), (.agg #[v_9, v_b])] w0 fun v w1 => ∃ (I1 : Nat → Prop) (u_d : List Ent) (u_e : List Ent), v = (.bool r.1) ∧ Hp ⟨w0, I0, blks (E_2 ++ E_6)⟩ I1 (u_d ++ u_e) w1 ∧ qR w1 I1 g_1 u_d r.2.1 ∧ qW w1 I1 g_5 u_e r.2.2
theorem law41_same_ok (n : Nat) : law41_same_S (law41_same n) := by
  intro w0 I0 x_0 g_1 E_2 q_3 x_4 g_5 E_6 q_7 x_8 v_9 r_a v_b r_c hp r h
  unfold law41_same at h
  refine enter Try.func19 rfl (Nat.le_of_ble_eq_true rfl) ?_
  generalize blks (E_2 ++ E_6) = B at hp ⊢
  obtain ⟨v_d, v_e, e_f, v_g, e_h, rfl, r_i, o_j, o_k⟩ := q_3
  obtain ⟨v_l, c_m, c_n, c_o, v_p, rfl, r_q, r_r, r_s, r_t, r_u⟩ := q_7
  have hp : Hp ⟨w0, I0, B⟩ I0 [some (g_1, [v_d, v_e, v_g], 61), e_f, e_h, some (g_5, ((Value.int .i64 x_4.T.Kind) :: ((Value.int .i64 x_4.T.Name) :: ((Value.int .i64 x_4.T.Count) :: (v_l :: (c_m ++ (c_n ++ (c_o ++ (v_p :: [])))))))), 65)] w0 := hp
  apply go
  apply go
  refine ev_boxI hp rfl rfl ?_
  intro p_v I_w w_x hp hs a_y
  replace r_a := r_a.step hs
  replace r_c := r_c.step hs
  replace r_i := r_i.step hs
  replace o_j := o_j.step hs
  replace o_k := o_k.step hs
  replace r_q := r_q.step hs
  replace r_r := r_r.step hs
  replace r_s := r_s.step hs
  replace r_t := r_t.step hs
  replace r_u := r_u.step hs
  apply go
  apply go
  refine ev0 (rn_field rfl rfl FO42_0) ?_
  refine ev (rn_load rfl rfl (run_loadVar1 T39 (a_y.2 0 _ rfl))) ?_
  refine ev0 (rn_field rfl rfl FO42_1) ?_
  refine ev (rn_load rfl rfl (run_loadVar1 T40 (a_y.2 1 _ rfl))) ?_
  obtain ⟨⟨x_z, x_10, x_11, x_12⟩, q_13, h⟩ := bind_some h
  refine ev_call rfl rfl C21 (((tree_Runner_Tick_ok n) _ _  (Runner.mk x_0.nodes x_0.counters x_0.active) g_1 [some (g_1, [v_d, v_e, v_g], 61), e_f, e_h] ⟨v_d, v_e, e_f, v_g, e_h, rfl, r_i, o_j, o_k⟩ x_8.Actions v_9 r_a x_8.Tests v_b r_c (hp.lendL [0, 1, 2] (by decide)) _ q_13).mono ?_)
  rintro _ w_14 ⟨I_15, v_16, v_17, F_18, hv, hq10611, r_19, r_1a, q_1b⟩
  replace hv := hv.symm
  subst hv
  obtain ⟨v_1c, v_1d, e_1e, v_1f, e_1g, rfl, r_1h, o_1i, o_1j⟩ := q_1b
  have hs := hq10611.st
  have hp := hp.backL [0, 1, 2] [3] (by decide) hq10611
  replace a_y := a_y.step hs
  replace r_a := r_a.step hs
  replace r_c := r_c.step hs
  replace r_q := r_q.step hs
  replace r_r := r_r.step hs
  replace r_s := r_s.step hs
  replace r_t := r_t.step hs
  replace r_u := r_u.step hs
  apply go
  apply go
  refine ev0 (rn_field rfl rfl FO42_0) ?_
  refine ev (rn_load rfl rfl (run_loadVar1 T39 (a_y.2 0 _ rfl))) ?_
  refine ev0 (rn_field rfl rfl FO42_1) ?_
  refine ev (rn_load rfl rfl (run_loadVar1 T40 (a_y.2 1 _ rfl))) ?_
  obtain ⟨⟨x_1k, x_1l, x_1m, x_1n⟩, q_1o, h⟩ := bind_some h
  refine ev_call rfl rfl C33 (((ref41_Runner_Tick_ok n) _ _  (Runner_2.mk (Node.mk x_4.T.Kind x_4.T.Name x_4.T.Count x_4.T.Kids) x_4.Counters x_4.On x_4.Status x_4.Ticked) g_5 [some (g_5, ((Value.int .i64 x_4.T.Kind) :: ((Value.int .i64 x_4.T.Name) :: ((Value.int .i64 x_4.T.Count) :: (v_l :: (c_m ++ (c_n ++ (c_o ++ (v_p :: [])))))))), 65)] ⟨v_l, c_m, c_n, c_o, v_p, rfl, r_q, r_r, r_s, r_t, r_u⟩ x_8.Actions v_9 r_a x_8.Tests v_b r_c (hp.lendL [3] (by decide)) _ q_1o).mono ?_)
  rintro _ w_1p ⟨I_1q, v_1r, v_1s, F_1t, hv, hq10633, r_1u, r_1v, q_1w⟩
  replace hv := hv.symm
  subst hv
  obtain ⟨v_1x, c_1y, c_1z, c_20, v_21, rfl, r_22, r_23, r_24, r_25, r_26⟩ := q_1w
  have hs := hq10633.st
  have hp := hp.backL [3] [0, 1, 2] (by decide) hq10633
  replace r_19 := r_19.step hs
  replace r_1a := r_1a.step hs
  replace r_1h := r_1h.step hs
  replace o_1i := o_1i.step hs
  replace o_1j := o_1j.step hs
  obtain ⟨y_27, q_28, h⟩ := bind_some h
  refine W.cut (γ := (Bool × (List Node_2) × (List Int) × (List Bool) × Int × Int × Int × (List Node) × (List Int) × (List Bool) × (List Int) × (List Int) × Value × Value × Ent × Value × Ent × Value × (List Value) × (List Value) × (List Value) × Value × (Nat → Prop))) (fun g => [(6, (.bool (g.1)))]) (fun g w' => y_27 = ((g.1), (g.2.1), (g.2.2.1), (g.2.2.2.1), (g.2.2.2.2.1), (g.2.2.2.2.2.1), (g.2.2.2.2.2.2.1), (g.2.2.2.2.2.2.2.1), (g.2.2.2.2.2.2.2.2.1), (g.2.2.2.2.2.2.2.2.2.1), (g.2.2.2.2.2.2.2.2.2.2.1), (g.2.2.2.2.2.2.2.2.2.2.2.1)) ∧ Hp ⟨w0, I0, B⟩ (g.2.2.2.2.2.2.2.2.2.2.2.2.2.2.2.2.2.2.2.2.2.2) [(g.2.2.2.2.2.2.2.2.2.2.2.2.2.2.1), (g.2.2.2.2.2.2.2.2.2.2.2.2.2.2.2.2.1), some (g_1, [(g.2.2.2.2.2.2.2.2.2.2.2.2.1), (g.2.2.2.2.2.2.2.2.2.2.2.2.2.1), (g.2.2.2.2.2.2.2.2.2.2.2.2.2.2.2.1)], 61), some (g_5, ((Value.int .i64 (g.2.2.2.2.1)) :: ((Value.int .i64 (g.2.2.2.2.2.1)) :: ((Value.int .i64 (g.2.2.2.2.2.2.1)) :: ((g.2.2.2.2.2.2.2.2.2.2.2.2.2.2.2.2.2.1) :: ((g.2.2.2.2.2.2.2.2.2.2.2.2.2.2.2.2.2.2.1) ++ ((g.2.2.2.2.2.2.2.2.2.2.2.2.2.2.2.2.2.2.2.1) ++ ((g.2.2.2.2.2.2.2.2.2.2.2.2.2.2.2.2.2.2.2.2.1) ++ ((g.2.2.2.2.2.2.2.2.2.2.2.2.2.2.2.2.2.2.2.2.2.1) :: [])))))))), 65)] w' ∧ RepS dNode_2 w' (g.2.2.2.2.2.2.2.2.2.2.2.2.2.2.2.2.2.2.2.2.2.2) (g.2.2.2.2.2.2.2.2.2.2.2.2.1) (g.2.1) ∧ OwnS (dI .i64) 3 w' (g.2.2.2.2.2.2.2.2.2.2.2.2.2.2.2.2.2.2.2.2.2.2) (g.2.2.2.2.2.2.2.2.2.2.2.2.2.1) (g.2.2.2.2.2.2.2.2.2.2.2.2.2.2.1) (g.2.2.1) ∧ OwnS dB 4 w' (g.2.2.2.2.2.2.2.2.2.2.2.2.2.2.2.2.2.2.2.2.2.2) (g.2.2.2.2.2.2.2.2.2.2.2.2.2.2.2.1) (g.2.2.2.2.2.2.2.2.2.2.2.2.2.2.2.2.1) (g.2.2.2.1) ∧ RepS dNode w' (g.2.2.2.2.2.2.2.2.2.2.2.2.2.2.2.2.2.2.2.2.2.2) (g.2.2.2.2.2.2.2.2.2.2.2.2.2.2.2.2.2.1) (g.2.2.2.2.2.2.2.1) ∧ (dA 64 (dI .i64)).rep w' (g.2.2.2.2.2.2.2.2.2.2.2.2.2.2.2.2.2.2.2.2.2.2) (g.2.2.2.2.2.2.2.2.2.2.2.2.2.2.2.2.2.2.1) (g.2.2.2.2.2.2.2.2.1) ∧ (dA 64 dB).rep w' (g.2.2.2.2.2.2.2.2.2.2.2.2.2.2.2.2.2.2.2.2.2.2) (g.2.2.2.2.2.2.2.2.2.2.2.2.2.2.2.2.2.2.2.1) (g.2.2.2.2.2.2.2.2.2.1) ∧ (dA 64 (dI .i64)).rep w' (g.2.2.2.2.2.2.2.2.2.2.2.2.2.2.2.2.2.2.2.2.2.2) (g.2.2.2.2.2.2.2.2.2.2.2.2.2.2.2.2.2.2.2.2.1) (g.2.2.2.2.2.2.2.2.2.2.1) ∧ RepS (dI .i64) w' (g.2.2.2.2.2.2.2.2.2.2.2.2.2.2.2.2.2.2.2.2.2.2) (g.2.2.2.2.2.2.2.2.2.2.2.2.2.2.2.2.2.2.2.2.2.1) (g.2.2.2.2.2.2.2.2.2.2.2.1)) ?_ ?_
  ·
    apply go
    refine sel_of (fun hc => ?_) (fun hc => ?_)
    ·
      have q_28 := cond_t q_28 hc
      obtain ⟨x_29, q_2a, q_28⟩ := bind_some q_28
      refine ev_call rfl rfl C25 (((base_Ints_ok n) _ _  x_10 v_16 r_19 x_1l v_1r r_1u hp.imm _ q_2a).mono ?_)
      rintro _ w_2b ⟨rfl, hc⟩
      have hs := hp.stp hc
      replace hp := hp.ext hc
      replace r_1a := r_1a.step hs
      replace r_1v := r_1v.step hs
      replace r_22 := r_22.step hs
      replace r_23 := r_23.step hs
      replace r_24 := r_24.step hs
      replace r_25 := r_25.step hs
      replace r_26 := r_26.step hs
      replace r_1h := r_1h.step hs
      replace o_1i := o_1i.step hs
      replace o_1j := o_1j.step hs
      refine sel_of (fun hc => ?_) (fun hc => ?_)
      ·
        have q_28 := cond_t q_28 hc
        obtain ⟨x_2c, q_2d, q_28⟩ := bind_some q_28
        refine ev_call rfl rfl C25 (((base_Ints_ok n) _ _  x_11 v_17 r_1a x_1m v_1s r_1v hp.imm _ q_2d).mono ?_)
        rintro _ w_2e ⟨rfl, hc⟩
        have hs := hp.stp hc
        replace hp := hp.ext hc
        replace r_22 := r_22.step hs
        replace r_23 := r_23.step hs
        replace r_24 := r_24.step hs
        replace r_25 := r_25.step hs
        replace r_26 := r_26.step hs
        replace r_1h := r_1h.step hs
        replace o_1i := o_1i.step hs
        replace o_1j := o_1j.step hs
        refine sel_of (fun hc => ?_) (fun hc => ?_)
        ·
          have q_28 := cond_t q_28 hc
          obtain ⟨⟨x_2f, x_2g⟩, q_2h, q_28⟩ := bind_some q_28
          refine ev_call rfl rfl C22 (((tree_Runner_Active_ok n) _ _  (Runner.mk x_12.nodes x_12.counters x_12.active) g_1 [some (g_1, [v_1c, v_1d, v_1f], 61), e_1e, e_1g] ⟨v_1c, v_1d, e_1e, v_1f, e_1g, rfl, r_1h, o_1i, o_1j⟩ (hp.lendL [1, 2, 3] (by decide)) _ q_2h).mono ?_)
          rintro _ w_2i ⟨I_2j, v_2k, F_2l, hv, hq10740, r_2m, q_2n⟩
          replace hv := hv.symm
          subst hv
          obtain ⟨v_2o, v_2p, e_2q, v_2r, e_2s, rfl, r_2t, o_2u, o_2v⟩ := q_2n
          have hs := hq10740.st
          have hp := hp.backL [1, 2, 3] [0] (by decide) hq10740
          replace r_22 := r_22.step hs
          replace r_23 := r_23.step hs
          replace r_24 := r_24.step hs
          replace r_25 := r_25.step hs
          replace r_26 := r_26.step hs
          obtain ⟨⟨x_2w, x_2x⟩, q_2y, q_28⟩ := bind_some q_28
          refine ev_call rfl rfl C34 (((ref41_Runner_Active_ok n) _ _  (Runner_2.mk (Node.mk x_1n.T.Kind x_1n.T.Name x_1n.T.Count x_1n.T.Kids) x_1n.Counters x_1n.On x_1n.Status x_1n.Ticked) g_5 [some (g_5, ((Value.int .i64 x_1n.T.Kind) :: ((Value.int .i64 x_1n.T.Name) :: ((Value.int .i64 x_1n.T.Count) :: (v_1x :: (c_1y ++ (c_1z ++ (c_20 ++ (v_21 :: [])))))))), 65)] ⟨v_1x, c_1y, c_1z, c_20, v_21, rfl, r_22, r_23, r_24, r_25, r_26⟩ (hp.lendL [3] (by decide)) _ q_2y).mono ?_)
          rintro _ w_2z ⟨I_30, v_31, F_32, hv, hq10758, r_33, q_34⟩
          replace hv := hv.symm
          subst hv
          obtain ⟨v_35, c_36, c_37, c_38, v_39, rfl, r_3a, r_3b, r_3c, r_3d, r_3e⟩ := q_34
          have hs := hq10758.st
          have hp := hp.backL [3] [0, 1, 2] (by decide) hq10758
          replace r_2m := r_2m.step hs
          replace r_2t := r_2t.step hs
          replace o_2u := o_2u.step hs
          replace o_2v := o_2v.step hs
          obtain ⟨x_3f, q_3g, q_28⟩ := bind_some q_28
          refine ev_call rfl rfl C25 (((base_Ints_ok n) _ _  x_2f v_2k r_2m x_2w v_31 r_33 hp.imm _ q_3g).mono ?_)
          rintro _ w_3h ⟨rfl, hc⟩
          have hs := hp.stp hc
          replace hp := hp.ext hc
          replace r_3a := r_3a.step hs
          replace r_3b := r_3b.step hs
          replace r_3c := r_3c.step hs
          replace r_3d := r_3d.step hs
          replace r_3e := r_3e.step hs
          replace r_2t := r_2t.step hs
          replace o_2u := o_2u.step hs
          replace o_2v := o_2v.step hs
          obtain rfl := Option.some.inj q_28
          have hp := hp.perm [2, 3, 1, 0] (by decide)
          exact ⟨(x_3f, x_2g.nodes, x_2g.counters, x_2g.active, x_2x.T.Kind, x_2x.T.Name, x_2x.T.Count, x_2x.T.Kids, x_2x.Counters, x_2x.On, x_2x.Status, x_2x.Ticked, v_2o, v_2p, e_2q, v_2r, e_2s, v_35, c_36, c_37, c_38, v_39, I_30), (.c rfl .n), rfl, hp, r_2t, o_2u, o_2v, r_3a, r_3b, r_3c, r_3d, r_3e⟩
        ·
          have q_28 := cond_f q_28 hc
          obtain rfl := Option.some.inj q_28
          have hp := hp.perm [2, 3, 1, 0] (by decide)
          exact ⟨(false, x_12.nodes, x_12.counters, x_12.active, x_1n.T.Kind, x_1n.T.Name, x_1n.T.Count, x_1n.T.Kids, x_1n.Counters, x_1n.On, x_1n.Status, x_1n.Ticked, v_1c, v_1d, e_1e, v_1f, e_1g, v_1x, c_1y, c_1z, c_20, v_21, I_1q), (.c rfl .n), rfl, hp, r_1h, o_1i, o_1j, r_22, r_23, r_24, r_25, r_26⟩
      ·
        have q_28 := cond_f q_28 hc
        obtain rfl := Option.some.inj q_28
        have hp := hp.perm [2, 3, 1, 0] (by decide)
        exact ⟨(false, x_12.nodes, x_12.counters, x_12.active, x_1n.T.Kind, x_1n.T.Name, x_1n.T.Count, x_1n.T.Kids, x_1n.Counters, x_1n.On, x_1n.Status, x_1n.Ticked, v_1c, v_1d, e_1e, v_1f, e_1g, v_1x, c_1y, c_1z, c_20, v_21, I_1q), (.c rfl .n), rfl, hp, r_1h, o_1i, o_1j, r_22, r_23, r_24, r_25, r_26⟩
    ·
      have q_28 := cond_f q_28 hc
      obtain rfl := Option.some.inj q_28
      have hp := hp.perm [2, 3, 1, 0] (by decide)
      exact ⟨(false, x_12.nodes, x_12.counters, x_12.active, x_1n.T.Kind, x_1n.T.Name, x_1n.T.Count, x_1n.T.Kids, x_1n.Counters, x_1n.On, x_1n.Status, x_1n.Ticked, v_1c, v_1d, e_1e, v_1f, e_1g, v_1x, c_1y, c_1z, c_20, v_21, I_1q), (.c rfl .n), rfl, hp, r_1h, o_1i, o_1j, r_22, r_23, r_24, r_25, r_26⟩
  ·
    rintro ⟨x_3i, x_3j, x_3k, x_3l, x_3m, x_3n, x_3o, x_3p, x_3q, x_3r, x_3s, x_3t, v_3u, v_3v, e_3w, v_3x, e_3y, v_3z, c_40, c_41, c_42, v_43, I_44⟩ w_45 ⟨hy, hp, r_46, o_47, o_48, r_49, r_4a, r_4b, r_4c, r_4d⟩
    replace hy := hy.symm
    subst hy
    apply go
    obtain rfl := Option.some.inj h
    have hp := hp.perm [2, 0, 1, 3] (by decide)
    exact ⟨I_44, [some (g_1, [v_3u, v_3v, v_3x], 61), e_3w, e_3y], [some (g_5, ((Value.int .i64 x_3m) :: ((Value.int .i64 x_3n) :: ((Value.int .i64 x_3o) :: (v_3z :: (c_40 ++ (c_41 ++ (c_42 ++ (v_43 :: [])))))))), 65)], rfl, hp, ⟨v_3u, v_3v, e_3w, v_3x, e_3y, rfl, r_46, o_47, o_48⟩, ⟨v_3z, c_40, c_41, c_42, v_43, rfl, r_49, r_4a, r_4b, r_4c, r_4d⟩⟩

end Go.Proofs.Ytknnmbcaoekgmaa

namespace Go.Proofs.Ytknnmbcaoekgmaa
open Go Go.Proofs.Ytknnmbcaoekgmaa.Gw Go.RowKit
set_option linter.unusedVariables false
attribute [local irreducible] Ev EvQ EvS EvH
def slices_Cloneint_int__S (f : (List Int) → Option ((List Int) × (List Int))) : Prop := ∀ (w0 : World) (I0 : Nat → Prop) (x_0 : (List Int)) (v_1 : Value) (e_2 : Ent) (o_3 : OwnS (dI .i64) 3 w0 I0 v_1 e_2 x_0) (hp : Hp ⟨w0, I0, blks [e_2]⟩ I0 [e_2] w0) (r : ((List Int) × (List Int))), f x_0 = some r →
    Ret Try.prog 38 #[v_1] w0 fun v w1 => ∃ (I1 : Nat → Prop) (u_4 : Value) (u_5 : Ent) (u_6 : Ent), v = u_4 ∧ Hp ⟨w0, I0, blks [e_2]⟩ I1 ([u_5] ++ [u_6]) w1 ∧ OwnS (dI .i64) 3 w1 I1 u_4 u_5 r.1 ∧ OwnS (dI .i64) 3 w1 I1 v_1 u_6 r.2
theorem slices_Cloneint_int__ok (n : Nat) : slices_Cloneint_int__S (slices_Cloneint_int_ n) := by
  intro w0 I0 x_0 v_1 e_2 o_3 hp r h
  unfold slices_Cloneint_int_ at h
  refine enter Try.func38 rfl (Nat.le_of_ble_eq_true rfl) ?_
  generalize blks [e_2] = B at hp ⊢
  have hp : Hp ⟨w0, I0, B⟩ I0 [e_2] w0 := hp
  apply go
  apply go
  apply go
  apply go
  apply go
  rcases o_3.nilcase with ⟨hv, he, hx⟩ | ⟨a_4, n_5, hv, ho⟩
  ·
    subst hv; subst he; subst hx
    replace h : some (([] : (List Int)), ([] : (List Int))) = some _ := h
    refine ev0 (rn_eqNil rfl rfl rfl Try.underlying39) ?_
    apply go
    apply go
    apply go
    apply go
    obtain rfl := Option.some.inj h
    have hp := hp.none_
    have o_6 := OwnS.nil (dI .i64) 3 w0 I0
    exact ⟨I0, (.slice none 0 0), none, none, rfl, hp, o_6, o_3⟩
  ·
    subst hv; have o_3 := ho
    refine ev0 (rn_eqNil rfl rfl rfl Try.underlying39) ?_
    apply go
    apply go
    apply go
    apply go
    refine ev_litON (d := (dI .i64)) (xs := ([] : List Int)) (cs := []) hp rfl rfl Try.underlying39 T3 (by decide) (by decide) rfl rfl (Elems.nil _ _ _ _) ?_
    intro v_7 e_8 w_9 hp hs o_a
    replace o_3 := o_3.step hs
    obtain ⟨x_b, q_c, h⟩ := bind_some h
    refine ev_appendF hp (i := 0) (j := 1) rfl rfl rfl rfl rfl Try.underlying39 T3 rfl rfl (dI_flat _) o_a o_3 q_c ?_
    rintro v_d e_e w_f hp hs o_g
    apply go
    obtain rfl := Option.some.inj h
    exact ⟨I0, v_d, e_e, e_2, rfl, hp, o_g, o_3⟩

end Go.Proofs.Ytknnmbcaoekgmaa

namespace Go.Proofs.Ytknnmbcaoekgmaa
open Go Go.Proofs.Ytknnmbcaoekgmaa.Gw Go.RowKit
set_option linter.unusedVariables false
attribute [local irreducible] Ev EvQ EvS EvH
def tree_Runner_Clone_S (f : Runner → Option ((Option Runner) × Runner)) : Prop := ∀ (w0 : World) (I0 : Nat → Prop) (x_0 : Runner) (g_1 : Nat) (E_2 : List Ent) (q_3 : qR w0 I0 g_1 E_2 x_0) (hp : Hp ⟨w0, I0, blks E_2⟩ I0 E_2 w0) (r : ((Option Runner) × Runner)), f x_0 = some r →
    Ret Try.prog 26 #[(.pointer (some ⟨g_1, 0, none⟩))] w0 fun v w1 => ∃ (I1 : Nat → Prop) (u_4 : Value) (u_5 : List Ent) (u_6 : List Ent), v = u_4 ∧ Hp ⟨w0, I0, blks E_2⟩ I1 (u_5 ++ u_6) w1 ∧ qoR w1 I1 u_4 u_5 r.1 ∧ qR w1 I1 g_1 u_6 r.2
theorem tree_Runner_Clone_ok (n : Nat) : tree_Runner_Clone_S (tree_Runner_Clone n) := by
  intro w0 I0 x_0 g_1 E_2 q_3 hp r h
  unfold tree_Runner_Clone at h
  refine enter Try.func26 rfl (Nat.le_of_ble_eq_true rfl) ?_
  generalize blks E_2 = B at hp ⊢
  obtain ⟨v_4, v_5, e_6, v_7, e_8, rfl, r_9, o_a, o_b⟩ := q_3
  have hp : Hp ⟨w0, I0, B⟩ I0 [some (g_1, [v_4, v_5, v_7], 61), e_6, e_8] w0 := hp
  apply go
  apply go
  apply go
  apply go
  apply go
  refine ev0 (rn_eqNilP rfl rfl rfl Try.underlying28 (b := false) rfl) ?_
  apply go
  apply go
  apply go
  have hs := hp.stp (Ch.drew [] w0)
  have hp := hp.drew
  replace r_9 := r_9.step hs
  replace o_a := o_a.step hs
  replace o_b := o_b.step hs
  refine W.held [(0, true), (1, true), (2, true), (3, true), (4, true), (5, true), (6, true), (7, true), (9, true), (10, true), (11, true), (12, true), (8, false), (13, false), (14, true), (15, false), (16, true)] (fun x => Stp I0 w0.drew I0 x ∧ OwnK [(g_1, [v_4, v_5, v_7], 61)] x) MX (by kernel_rfl) ⟨Stp.refl _ _, (OwnK.cons (hp.own 0 _ _ _ rfl).1 OwnK.nil)⟩ ?_
  have hz := Stp.refl I0 w0.drew
  refine evh0 (rn_field rfl rfl FO61_0) ?_
  refine evh (fun w' hw => rn_load rfl rfl (run_loadVar1 T59 (hw.2.cell (i := 0) (off := 0) rfl rfl))) ?_
  refine evh0 (rn_field rfl rfl FO61_1) ?_
  refine evh (fun w' hw => rn_load rfl rfl (run_loadVar1 T39 (hw.2.cell (i := 0) (off := 1) rfl rfl))) ?_
  refine evh0 (rn_field rfl rfl FO61_2) ?_
  refine evh (fun w' hw => rn_load rfl rfl (run_loadVar1 T40 (hw.2.cell (i := 0) (off := 2) rfl rfl))) ?_
  obtain ⟨⟨x_c, x_d⟩, q_e, h⟩ := bind_some h
  refine ev_call rfl rfl C38 (((slices_Cloneint_int__ok n) _ _  x_0.counters v_5 e_6 o_a (hp.lendL [1] (by decide)) _ q_e).mono ?_)
  rintro _ w_f ⟨I_g, v_h, e_i, e_j, hv, hq36640, o_k, o_l⟩
  replace hv := hv.symm
  subst hv
  have hs := hq36640.st
  have hp := hp.backL [1] [0, 2] (by decide) hq36640
  replace hz := hz.trans hs
  replace r_9 := r_9.step hs
  replace o_b := o_b.step hs
  refine ⟨fun x => Stp I_g w_f I_g x ∧ OwnK [(g_1, [v_4, v_5, v_7], 61)] x, ⟨Stp.refl _ _, (OwnK.cons (hp.own 2 _ _ _ rfl).1 OwnK.nil)⟩, fun x hx => ⟨hz.held hx.1, hx.2⟩, ?_⟩
  have hz := Stp.refl I_g w_f
  obtain ⟨⟨x_m, x_n⟩, q_o, h⟩ := bind_some h
  refine ev_call rfl rfl C36 (((slices_Clonebool_bool__ok n) _ _  x_0.active v_7 e_8 o_b (hp.lendL [3] (by decide)) _ q_o).mono ?_)
  rintro _ w_p ⟨I_q, v_r, e_s, e_t, hv, hq36651, o_u, o_v⟩
  replace hv := hv.symm
  subst hv
  have hs := hq36651.st
  have hp := hp.backL [3] [0, 1, 2] (by decide) hq36651
  replace hz := hz.trans hs
  replace r_9 := r_9.step hs
  replace o_k := o_k.step hs
  replace o_l := o_l.step hs
  refine ⟨fun x => Stp I_q w_p I_q x ∧ OwnK [(g_1, [v_4, v_5, v_7], 61)] x, ⟨Stp.refl _ _, (OwnK.cons (hp.own 4 _ _ _ rfl).1 OwnK.nil)⟩, fun x hx => ⟨hz.held hx.1, hx.2⟩, ?_⟩
  have hz := Stp.refl I_q w_p
  obtain ⟨A_w, m_x, m_y, rfl⟩ := r_9.isSl
  obtain ⟨A_z, m_10, m_11, rfl⟩ := o_k.isSl
  obtain ⟨A_12, m_13, m_14, rfl⟩ := o_u.isSl
  refine evh0 (fun w => rn_build (cs := [(.slice A_w m_x m_y), (.slice A_z m_10 m_11), (.slice A_12 m_13 m_14)]) rfl rfl T61 PL61 rfl) ?_
  refine ev_box hp rfl rfl ?_
  intro g_15 w_16 hp hs
  replace hz := hz.trans hs
  replace r_9 := r_9.step hs
  replace o_k := o_k.step hs
  replace o_u := o_u.step hs
  replace o_l := o_l.step hs
  replace o_v := o_v.step hs
  refine ⟨fun x => Stp I_q w_16 I_q x ∧ OwnK [(g_1, [(.slice A_w m_x m_y), v_5, v_7], 61)] x, ⟨Stp.refl _ _, (OwnK.cons (hp.own 5 _ _ _ rfl).1 OwnK.nil)⟩, fun x hx => ⟨hz.held hx.1, hx.2⟩, ?_⟩
  have hz := Stp.refl I_q w_16
  apply go
  obtain rfl := Option.some.inj h
  have hp := hp.perm [0, 3, 1, 5, 4, 2] (by decide)
  exact ⟨I_q, (.pointer (some ⟨g_15, 0, none⟩)), [some (g_15, [(.slice A_w m_x m_y), (.slice A_z m_10 m_11), (.slice A_12 m_13 m_14)], 61), e_i, e_s], [some (g_1, [(.slice A_w m_x m_y), v_5, v_7], 61), e_j, e_t], rfl, hp, ⟨_, rfl, ⟨(.slice A_w m_x m_y), (.slice A_z m_10 m_11), e_i, (.slice A_12 m_13 m_14), e_s, rfl, r_9, o_k, o_u⟩⟩, ⟨(.slice A_w m_x m_y), v_5, e_j, v_7, e_t, rfl, r_9, o_l, o_v⟩⟩

end Go.Proofs.Ytknnmbcaoekgmaa

namespace Go.Proofs.Ytknnmbcaoekgmaa
open Go Go.Proofs.Ytknnmbcaoekgmaa.Gw Go.RowKit
set_option linter.unusedVariables false
attribute [local irreducible] Ev EvQ EvS EvH
def ref41_Runner_Clone_S (f : Runner_2 → Option ((Option Runner_2) × Runner_2)) : Prop := ∀ (w0 : World) (I0 : Nat → Prop) (x_0 : Runner_2) (g_1 : Nat) (E_2 : List Ent) (q_3 : qW w0 I0 g_1 E_2 x_0) (hp : Hp ⟨w0, I0, blks E_2⟩ I0 E_2 w0) (r : ((Option Runner_2) × Runner_2)), f x_0 = some r →
    Ret Try.prog 27 #[(.pointer (some ⟨g_1, 0, none⟩))] w0 fun v w1 => ∃ (I1 : Nat → Prop) (u_4 : Value) (u_5 : List Ent) (u_6 : List Ent), v = u_4 ∧ Hp ⟨w0, I0, blks E_2⟩ I1 (u_5 ++ u_6) w1 ∧ qoW w1 I1 u_4 u_5 r.1 ∧ qW w1 I1 g_1 u_6 r.2
theorem ref41_Runner_Clone_ok (n : Nat) : ref41_Runner_Clone_S (ref41_Runner_Clone n) := by
  intro w0 I0 x_0 g_1 E_2 q_3 hp r h
  unfold ref41_Runner_Clone at h
  refine enter Try.func27 rfl (Nat.le_of_ble_eq_true rfl) ?_
  generalize blks E_2 = B at hp ⊢
  obtain ⟨v_4, c_5, c_6, c_7, v_8, rfl, r_9, r_a, r_b, r_c, r_d⟩ := q_3
  have hp : Hp ⟨w0, I0, B⟩ I0 [some (g_1, ((Value.int .i64 x_0.T.Kind) :: ((Value.int .i64 x_0.T.Name) :: ((Value.int .i64 x_0.T.Count) :: (v_4 :: (c_5 ++ (c_6 ++ (c_7 ++ (v_8 :: [])))))))), 65)] w0 := hp
  apply go
  apply go
  apply go
  apply go
  apply go
  refine ev0 (rn_eqNilP rfl rfl rfl Try.underlying35 (b := false) rfl) ?_
  apply go
  apply go
  apply go
  apply go
  refine ev (rn_load rfl rfl (run_loadVarA T65 (by simp only [List.length_cons, List.length_append, List.length_nil, Desc.len _ r_a, Desc.len _ r_b, Desc.len _ r_c]; rfl) (hp.at_ (i := 0) rfl))) ?_
  refine ev_alloc hp rfl T65 ?_
  intro g_e w_f hp hs
  have hp : Hp ⟨w0, I0, B⟩ I0 [some (g_e, ((Value.int .i64 0) :: ((Value.int .i64 0) :: ((Value.int .i64 0) :: ((Value.slice none 0 0) :: ((zrow 64 [.int .i64 0]) ++ ((zrow 64 [.bool false]) ++ ((zrow 64 [.int .i64 0]) ++ ((Value.slice none 0 0) :: [])))))))), 65), some (g_1, ((Value.int .i64 x_0.T.Kind) :: ((Value.int .i64 x_0.T.Name) :: ((Value.int .i64 x_0.T.Count) :: (v_4 :: (c_5 ++ (c_6 ++ (c_7 ++ (v_8 :: [])))))))), 65)] w_f := hp
  replace r_9 := r_9.step hs
  replace r_a := r_a.step hs
  replace r_b := r_b.step hs
  replace r_c := r_c.step hs
  replace r_d := r_d.step hs
  refine ev_storeS hp (i := 0) (vs := ((Value.int .i64 x_0.T.Kind) :: ((Value.int .i64 x_0.T.Name) :: ((Value.int .i64 x_0.T.Count) :: (v_4 :: (c_5 ++ (c_6 ++ (c_7 ++ (v_8 :: []))))))))) rfl rfl rfl rfl T65 (by show List.length ((Value.int .i64 x_0.T.Kind) :: ((Value.int .i64 x_0.T.Name) :: ((Value.int .i64 x_0.T.Count) :: (v_4 :: (c_5 ++ (c_6 ++ (c_7 ++ (v_8 :: [])))))))) = 197; simp only [List.length_cons, List.length_append, List.length_nil, Desc.len _ (show (dA 64 (dI .i64)).rep w_f I0 c_5 x_0.Counters from r_a), Desc.len _ (show (dA 64 dB).rep w_f I0 c_6 x_0.On from r_b), Desc.len _ (show (dA 64 (dI .i64)).rep w_f I0 c_7 x_0.Status from r_c)]; rfl) (by show List.length ((Value.int .i64 0) :: ((Value.int .i64 0) :: ((Value.int .i64 0) :: ((Value.slice none 0 0) :: ((zrow 64 [.int .i64 0]) ++ ((zrow 64 [.bool false]) ++ ((zrow 64 [.int .i64 0]) ++ ((Value.slice none 0 0) :: [])))))))) = 197; simp only [List.length_cons, List.length_append, List.length_nil, Desc.len _ (show (dA 64 (dI .i64)).rep w_f I0 (zrow 64 [.int .i64 0]) (List.replicate 64 0) from (rep_zero 64 rfl)), Desc.len _ (show (dA 64 dB).rep w_f I0 (zrow 64 [.bool false]) (List.replicate 64 false) from (rep_zero 64 rfl)), Desc.len _ (show (dA 64 (dI .i64)).rep w_f I0 (zrow 64 [.int .i64 0]) (List.replicate 64 0) from (rep_zero 64 rfl))]; rfl) (ones_cons rfl (ones_cons rfl (ones_cons rfl (ones_cons r_9.one (ones_app (Desc.one _ r_a) (ones_app (Desc.one _ r_b) (ones_app (Desc.one _ r_c) (ones_cons r_d.one ones_nil)))))))) ?_
  intro w_g hp hs
  replace r_9 := r_9.step hs
  replace r_a := r_a.step hs
  replace r_b := r_b.step hs
  replace r_c := r_c.step hs
  replace r_d := r_d.step hs
  apply go
  apply go
  apply go
  obtain rfl := Option.some.inj h
  exact ⟨I0, (.pointer (some ⟨g_e, 0, none⟩)), [some (g_e, ((Value.int .i64 x_0.T.Kind) :: ((Value.int .i64 x_0.T.Name) :: ((Value.int .i64 x_0.T.Count) :: (v_4 :: (c_5 ++ (c_6 ++ (c_7 ++ (v_8 :: [])))))))), 65)], [some (g_1, ((Value.int .i64 x_0.T.Kind) :: ((Value.int .i64 x_0.T.Name) :: ((Value.int .i64 x_0.T.Count) :: (v_4 :: (c_5 ++ (c_6 ++ (c_7 ++ (v_8 :: [])))))))), 65)], rfl, hp, ⟨_, rfl, ⟨v_4, c_5, c_6, c_7, v_8, rfl, r_9, r_a, r_b, r_c, r_d⟩⟩, ⟨v_4, c_5, c_6, c_7, v_8, rfl, r_9, r_a, r_b, r_c, r_d⟩⟩

end Go.Proofs.Ytknnmbcaoekgmaa

namespace Go.Proofs.Ytknnmbcaoekgmaa
open Go Go.Proofs.Ytknnmbcaoekgmaa.Gw Go.RowKit
set_option linter.unusedVariables false
attribute [local irreducible] Ev EvQ EvS EvH
def tree_Runner_Clonenil_S (f : Option (Option Runner)) : Prop := ∀ (w0 : World) (I0 : Nat → Prop)  (hI : ∀ g, I0 g → g < w0.heap.size) (r : (Option Runner)), f  = some r →
    Ret Try.prog 26 #[(.pointer none)] w0 fun v w1 => ∃ (I1 : Nat → Prop) (u_0 : Value) (u_1 : List Ent), v = u_0 ∧ Hp ⟨w0, I0, []⟩ I1 u_1 w1 ∧ qoR w1 I1 u_0 u_1 r
theorem tree_Runner_Clonenil_ok (n : Nat) : tree_Runner_Clonenil_S (tree_Runner_Clonenil n) := by
  intro w0 I0 hI r h
  unfold tree_Runner_Clonenil at h
  refine enter Try.func26 rfl (Nat.le_of_ble_eq_true rfl) ?_
  have hp : Hp ⟨w0, I0, []⟩ I0 [] w0 := Hp.start hI
  apply go
  apply go
  apply go
  apply go
  apply go
  refine ev0 (rn_eqNilP rfl rfl rfl Try.underlying28 (b := true) rfl) ?_
  apply go
  apply go
  apply go
  apply go
  obtain rfl := Option.some.inj h
  exact ⟨I0, (.pointer none), [], rfl, hp, ⟨rfl, rfl⟩⟩

end Go.Proofs.Ytknnmbcaoekgmaa

namespace Go.Proofs.Ytknnmbcaoekgmaa
open Go Go.Proofs.Ytknnmbcaoekgmaa.Gw Go.RowKit
set_option linter.unusedVariables false
attribute [local irreducible] Ev EvQ EvS EvH
def law41_TreeClones_S (f : Node → (List Input) → (List Input) → Option Bool) : Prop := ∀ (w0 : World) (I0 : Nat → Prop) (x_0 : Node) (v_1 : Value) (r_2 : RepS dNode w0 I0 v_1 x_0.Kids) (x_3 : (List Input)) (v_4 : Value) (r_5 : RepS dInput w0 I0 v_4 x_3) (x_6 : (List Input)) (v_7 : Value) (r_8 : RepS dInput w0 I0 v_7 x_6) (hI : ∀ g, I0 g → g < w0.heap.size) (r : Bool), f x_0 x_3 x_6 = some r →
    Ret Try.prog 8 #[(.agg #[(.int .i64 x_0.Kind), (.int .i64 x_0.Name), (.int .i64 x_0.Count), v_1]), v_4, v_7] w0 fun v w1 => v = (.bool r) ∧ Ch [] w0 w1
set_option maxHeartbeats 6400000 in
theorem law41_TreeClones_ok (n : Nat) : law41_TreeClones_S (law41_TreeClones n) := by
  intro w0 I0 x_0 v_1 r_2 x_3 v_4 r_5 x_6 v_7 r_8 hI r h
  unfold law41_TreeClones at h
  refine enter Try.func8 rfl (Nat.le_of_ble_eq_true rfl) ?_
  have hp : Hp ⟨w0, I0, []⟩ I0 [] w0 := Hp.start hI
  apply go
  apply go
  refine ev_boxI hp rfl rfl ?_
  intro p_9 I_a w_b hp hs a_c
  replace r_5 := r_5.step hs
  replace r_8 := r_8.step hs
  replace r_2 := r_2.step hs
  apply go
  obtain ⟨y_d, q_e, h⟩ := bind_some h
  refine W.cut (γ := Bool) (fun g => [(1, v_4), (2, v_7), (3, (.pointer (some (p_9)))), (35, (.bool (g)))]) (fun g w' => y_d = (g) ∧ Hp ⟨w0, I0, []⟩ I_a [] w' ∧ RepS dInput w' I_a v_4 x_3 ∧ RepS dInput w' I_a v_7 x_6 ∧ RepS dNode w' I_a v_1 x_0.Kids ∧ At w' I_a p_9 [(.int .i64 x_0.Kind), (.int .i64 x_0.Name), (.int .i64 x_0.Count), v_1]) ?_ ?_
  ·
    apply go
    obtain ⟨x_f, q_g, q_e⟩ := bind_some q_e
    refine ev_call rfl rfl C9 (((law41_awake_ok n) _ _   hp.imm _ q_g).mono ?_)
    rintro _ w_h ⟨rfl, hc⟩
    have hs := hp.stp hc
    replace hp := hp.ext hc
    replace r_5 := r_5.step hs
    replace r_8 := r_8.step hs
    replace a_c := a_c.step hs
    replace r_2 := r_2.step hs
    refine sel_of (fun hc => ?_) (fun hc => ?_)
    ·
      have q_e := cond_t q_e hc
      obtain rfl := Option.some.inj q_e
      exact ⟨true, (.c rfl (.c rfl (.c rfl (.c rfl .n)))), rfl, hp, r_5, r_8, r_2, a_c⟩
    ·
      have q_e := cond_f q_e hc
      refine ev (rn_load rfl rfl (run_loadVarA T24 rfl a_c)) ?_
      obtain ⟨x_i, q_j, q_e⟩ := bind_some q_e
      refine ev_call rfl rfl C15 (((law41_few_ok n) _ _  (Node.mk x_0.Kind x_0.Name x_0.Count x_0.Kids) v_1 r_2 hp.imm _ q_j).mono ?_)
      rintro _ w_k ⟨rfl, hc⟩
      have hs := hp.stp hc
      replace hp := hp.ext hc
      replace r_5 := r_5.step hs
      replace r_8 := r_8.step hs
      replace a_c := a_c.step hs
      replace r_2 := r_2.step hs
      refine sel_of (fun hc => ?_) (fun hc => ?_)
      ·
        have q_e := cond_t q_e hc
        obtain rfl := Option.some.inj q_e
        exact ⟨true, (.c rfl (.c rfl (.c rfl (.c rfl .n)))), rfl, hp, r_5, r_8, r_2, a_c⟩
      ·
        have q_e := cond_f q_e hc
        obtain ⟨x_l, q_m, q_e⟩ := bind_some q_e
        refine ev_call rfl rfl C16 (((law41_short_ok n) _ _  x_3 v_4 r_5 hp.imm _ q_m).mono ?_)
        rintro _ w_n ⟨rfl, hc⟩
        have hs := hp.stp hc
        replace hp := hp.ext hc
        replace r_5 := r_5.step hs
        replace r_8 := r_8.step hs
        replace a_c := a_c.step hs
        replace r_2 := r_2.step hs
        refine sel_of (fun hc => ?_) (fun hc => ?_)
        ·
          have q_e := cond_t q_e hc
          obtain rfl := Option.some.inj q_e
          exact ⟨true, (.c rfl (.c rfl (.c rfl (.c rfl .n)))), rfl, hp, r_5, r_8, r_2, a_c⟩
        ·
          have q_e := cond_f q_e hc
          obtain ⟨x_o, q_p, q_e⟩ := bind_some q_e
          refine ev_call rfl rfl C16 (((law41_short_ok n) _ _  x_6 v_7 r_8 hp.imm _ q_p).mono ?_)
          rintro _ w_q ⟨rfl, hc⟩
          have hs := hp.stp hc
          replace hp := hp.ext hc
          replace r_5 := r_5.step hs
          replace r_8 := r_8.step hs
          replace a_c := a_c.step hs
          replace r_2 := r_2.step hs
          obtain rfl := Option.some.inj q_e
          exact ⟨(!x_o), (.c rfl (.c rfl (.c rfl (.c rfl .n)))), rfl, hp, r_5, r_8, r_2, a_c⟩
  ·
    rintro x_r w_s ⟨hy, hp, r_5, r_8, r_2, a_c⟩
    replace hy := hy.symm
    subst hy
    apply go
    refine sel_of (fun hc => ?_) (fun hc => ?_)
    ·
      have h := cond_t h hc
      apply go
      apply go
      obtain ⟨x_t, q_u, h⟩ := bind_some h
      refine ev_call rfl rfl C9 (((law41_awake_ok n) _ _   hp.imm _ q_u).mono ?_)
      rintro _ w_v ⟨rfl, hc⟩
      have hs := hp.stp hc
      replace hp := hp.ext hc
      apply go
      obtain rfl := Option.some.inj h
      exact ⟨rfl, hp.ch⟩
    ·
      have h := cond_f h hc
      apply go
      apply go
      apply go
      apply go
      apply go
      obtain ⟨⟨x_w, x_x, x_y⟩, q_z, h⟩ := bind_some h
      refine ev_call rfl rfl C21 (((tree_Runner_Ticknil_ok n) _ _  [] (.slice none 0 0) (RepS.nil _ _ _) [] (.slice none 0 0) (RepS.nil _ _ _) hp.imm _ q_z).mono ?_)
      rintro _ w_10 ⟨I_11, v_12, v_13, hv, hq, r_14, r_15⟩
      replace hv := hv.symm
      subst hv
      have hs := hq.st
      have hp := hp.join0 hq
      replace r_5 := r_5.step hs
      replace r_8 := r_8.step hs
      replace a_c := a_c.step hs
      replace r_2 := r_2.step hs
      apply go
      obtain ⟨y_16, q_17, h⟩ := bind_some h
      refine W.cut (γ := (Bool × (Nat → Prop))) (fun g => [(1, v_4), (2, v_7), (3, (.pointer (some (p_9)))), (65, (.bool (g.1)))]) (fun g w' => y_16 = (g.1) ∧ Hp ⟨w0, I0, []⟩ (g.2) [] w' ∧ RepS dInput w' (g.2) v_4 x_3 ∧ RepS dInput w' (g.2) v_7 x_6 ∧ RepS dNode w' (g.2) v_1 x_0.Kids ∧ At w' (g.2) p_9 [(.int .i64 x_0.Kind), (.int .i64 x_0.Name), (.int .i64 x_0.Count), v_1]) ?_ ?_
      ·
        apply go
        refine sel_of (fun hc => ?_) (fun hc => ?_)
        ·
          have q_17 := cond_t q_17 hc
          obtain rfl := Option.some.inj q_17
          exact ⟨(true, I_11), (.c rfl (.c rfl (.c rfl (.c rfl .n)))), rfl, hp, r_5, r_8, r_2, a_c⟩
        ·
          have q_17 := cond_f q_17 hc
          refine ev0 (rn_len rfl rfl Try.underlying39 r_14) ?_
          refine sel_of (fun hc => ?_) (fun hc => ?_)
          ·
            have q_17 := cond_t q_17 hc
            obtain rfl := Option.some.inj q_17
            exact ⟨(true, I_11), (.c rfl (.c rfl (.c rfl (.c rfl .n)))), rfl, hp, r_5, r_8, r_2, a_c⟩
          ·
            have q_17 := cond_f q_17 hc
            refine ev0 (rn_len rfl rfl Try.underlying39 r_15) ?_
            refine sel_of (fun hc => ?_) (fun hc => ?_)
            ·
              have q_17 := cond_t q_17 hc
              obtain rfl := Option.some.inj q_17
              exact ⟨(true, I_11), (.c rfl (.c rfl (.c rfl (.c rfl .n)))), rfl, hp, r_5, r_8, r_2, a_c⟩
            ·
              have q_17 := cond_f q_17 hc
              obtain ⟨x_18, q_19, q_17⟩ := bind_some q_17
              refine ev_call rfl rfl C22 (((tree_Runner_Activenil_ok n) _ _   hp.imm _ q_19).mono ?_)
              rintro _ w_1a ⟨I_1b, v_1c, hv, hq, r_1d⟩
              replace hv := hv.symm
              subst hv
              have hs := hq.st
              have hp := hp.join0 hq
              replace r_5 := r_5.step hs
              replace r_8 := r_8.step hs
              replace a_c := a_c.step hs
              replace r_2 := r_2.step hs
              refine ev0 (rn_len rfl rfl Try.underlying39 r_1d) ?_
              refine sel_of (fun hc => ?_) (fun hc => ?_)
              ·
                have q_17 := cond_t q_17 hc
                obtain rfl := Option.some.inj q_17
                exact ⟨(true, I_1b), (.c rfl (.c rfl (.c rfl (.c rfl .n)))), rfl, hp, r_5, r_8, r_2, a_c⟩
              ·
                have q_17 := cond_f q_17 hc
                obtain ⟨x_1e, q_1f, q_17⟩ := bind_some q_17
                refine ev_call rfl rfl C26 (((tree_Runner_Clonenil_ok n) _ _   hp.imm _ q_1f).mono ?_)
                rintro _ w_1g ⟨I_1h, v_1i, F_1j, hv, hq36785, q_1k⟩
                replace hv := hv.symm
                subst hv
                rcases x_1e with _ | x_1l
                ·
                  obtain ⟨rfl, rfl⟩ := q_1k
                  have hs := hq36785.st
                  have hp := hp.join0 hq36785
                  replace r_5 := r_5.step hs
                  replace r_8 := r_8.step hs
                  replace a_c := a_c.step hs
                  replace r_2 := r_2.step hs
                  refine ev0 (rn_neNilP rfl rfl rfl Try.underlying28 (b := false) rfl) ?_
                  obtain rfl := Option.some.inj q_17
                  exact ⟨(false, I_1h), (.c rfl (.c rfl (.c rfl (.c rfl .n)))), rfl, hp, r_5, r_8, r_2, a_c⟩
                ·
                  obtain ⟨g_1m, rfl, v_1n, v_1o, e_1p, v_1q, e_1r, rfl, r_1s, o_1t, o_1u⟩ := q_1k
                  have hs := hq36785.st
                  have hp := hp.join0 hq36785
                  replace r_5 := r_5.step hs
                  replace r_8 := r_8.step hs
                  replace a_c := a_c.step hs
                  replace r_2 := r_2.step hs
                  refine ev0 (rn_neNilP rfl rfl rfl Try.underlying28 (b := true) rfl) ?_
                  obtain rfl := Option.some.inj q_17
                  have hp := hp.sel [] (by decide)
                  exact ⟨(true, I_1h), (.c rfl (.c rfl (.c rfl (.c rfl .n)))), rfl, hp, r_5, r_8, r_2, a_c⟩
      ·
        rintro ⟨x_1v, I_1w⟩ w_1x ⟨hy, hp, r_5, r_8, r_2, a_c⟩
        replace hy := hy.symm
        subst hy
        apply go
        refine sel_of (fun hc => ?_) (fun hc => ?_)
        ·
          have h := cond_t h hc
          apply go
          apply go
          apply go
          obtain rfl := Option.some.inj h
          exact ⟨rfl, hp.ch⟩
        ·
          have h := cond_f h hc
          apply go
          apply go
          apply go
          refine ev (rn_load rfl rfl (run_loadVarA T24 rfl a_c)) ?_
          obtain ⟨⟨x_1y, x_1z⟩, q_20, h⟩ := bind_some h
          refine ev_call rfl rfl C14 (((tree_New_ok n) _ _  (Node.mk x_0.Kind x_0.Name x_0.Count x_0.Kids) v_1 r_2 hp.imm _ q_20).mono ?_)
          rintro _ w_21 ⟨I_22, v_23, F_24, hv, hq36804, q_25⟩
          replace hv := hv.symm
          subst hv
          rcases x_1y with _ | x_26
          ·
            obtain ⟨rfl, rfl⟩ := q_25
            have hs := hq36804.st
            have hp := hp.join0 hq36804
            replace r_5 := r_5.step hs
            replace r_8 := r_8.step hs
            replace a_c := a_c.step hs
            replace r_2 := r_2.step hs
            apply go
            apply go
            refine ev (rn_load rfl rfl (run_loadVarA T24 rfl a_c)) ?_
            obtain ⟨⟨x_27, x_28⟩, q_29, h⟩ := bind_some h
            refine ev_call rfl rfl C18 (((ref41_New_ok n) _ _  (Node.mk x_0.Kind x_0.Name x_0.Count x_0.Kids) v_1 r_2 hp.imm _ q_29).mono ?_)
            rintro _ w_2a ⟨I_2b, v_2c, F_2d, hv, hq36814, q_2e⟩
            replace hv := hv.symm
            subst hv
            rcases x_27 with _ | x_2f
            ·
              obtain ⟨rfl, rfl⟩ := q_2e
              have hs := hq36814.st
              have hp := hp.join0 hq36814
              replace r_5 := r_5.step hs
              replace r_8 := r_8.step hs
              replace a_c := a_c.step hs
              replace r_2 := r_2.step hs
              apply go
              apply go
              apply go
              apply go
              refine sel_of (fun hc => ?_) (fun hc => ?_)
              ·
                have h := cond_t h hc
                apply go
                apply go
                refine ev (rn_load rfl rfl (run_loadVarA T24 rfl a_c)) ?_
                obtain ⟨x_2g, q_2h, h⟩ := bind_some h
                refine ev_call rfl rfl C13 (((ref41_Valid_ok n) _ _  (Node.mk x_0.Kind x_0.Name x_0.Count x_0.Kids) v_1 r_2 hp.imm _ q_2h).mono ?_)
                rintro _ w_2i ⟨rfl, hc⟩
                have hs := hp.stp hc
                replace hp := hp.ext hc
                apply go
                obtain rfl := Option.some.inj h
                exact ⟨rfl, hp.ch⟩
              ·
                have h := cond_f h hc
                apply go
                obtain ⟨y_2j, q_2k, h⟩ := bind_some h
                refine W.cut (γ := Unit) (fun _ => [(1, v_4), (2, v_7), (11, (.pointer none)), (13, (.pointer none))]) (fun _ w' => y_2j = .go () ∧ w_2a = w') ?_ ?_
                ·
                  apply go
                  apply go
                  apply go
                  refine W.loop q_2k (γ := Unit) (fun _ _ => [(1, v_4), (2, v_7), (11, (.pointer none)), (13, (.pointer none)), (15, (.int .i64 0))]) (fun _ _ w' => w_2a = w') () (.c rfl (.c rfl (.c rfl (.c rfl (.c rfl .n))))) rfl ?_
                  rintro ⟨⟩ ⟨⟩ _ y_2l rfl q_2m q_2n
                  unfold law41_TreeClones_L1 at q_2m
                  apply go
                  apply go
                  apply go
                  refine ev0 (rn_len rfl rfl Try.underlying32 r_5) ?_
                  apply go
                  refine sel_of (fun hc => ?_) (fun hc => ?_)
                  ·
                    have q_2m := cond_t q_2m hc
                    apply go
                    apply go
                    apply go
                    apply go
                    apply go
                    obtain ⟨x_2o, q_2p, q_2m⟩ := bind_some q_2m
                    refine ev_index rfl rfl rfl Try.underlying32 T42 r_5 q_2p ?_
                    intro p_2q c_2r d_2s a_2t
                    obtain ⟨v_2u, v_2v, rfl, r_2w, r_2x⟩ := dInput_o d_2s
                    refine ev (rn_load rfl rfl (run_loadVarA T42 rfl a_2t)) ?_
                    cases q_2m
                  ·
                    have q_2m := cond_f q_2m hc
                    apply go
                    have q_2y := congrArg some (q_2n _ (Option.some.inj q_2m).symm)
                    obtain rfl := Option.some.inj q_2y
                    exact ⟨(), (.c rfl (.c rfl (.c rfl (.c rfl .n)))), rfl, rfl⟩
                ·
                  rintro ⟨⟩ _ ⟨hy, rfl⟩
                  replace hy := hy.symm
                  subst hy
                  apply go
                  apply go
                  obtain ⟨x_2z, q_30, h⟩ := bind_some h
                  refine ev_call rfl rfl C26 (((tree_Runner_Clonenil_ok n) _ _   hp.imm _ q_30).mono ?_)
                  rintro _ w_31 ⟨I_32, v_33, F_34, hv, hq36896, q_35⟩
                  replace hv := hv.symm
                  subst hv
                  rcases x_2z with _ | x_36
                  ·
                    obtain ⟨rfl, rfl⟩ := q_35
                    have hs := hq36896.st
                    have hp := hp.join0 hq36896
                    replace r_5 := r_5.step hs
                    replace r_8 := r_8.step hs
                    cases h
                  ·
                    obtain ⟨g_37, rfl, v_38, v_39, e_3a, v_3b, e_3c, rfl, r_3d, o_3e, o_3f⟩ := q_35
                    have hs := hq36896.st
                    have hp := hp.join0 hq36896
                    replace r_5 := r_5.step hs
                    replace r_8 := r_8.step hs
                    cases h
            ·
              obtain ⟨g_3g, rfl, v_3h, c_3i, c_3j, c_3k, v_3l, rfl, r_3m, r_3n, r_3o, r_3p, r_3q⟩ := q_2e
              have hs := hq36814.st
              have hp := hp.join0 hq36814
              replace r_5 := r_5.step hs
              replace r_8 := r_8.step hs
              replace a_c := a_c.step hs
              replace r_2 := r_2.step hs
              apply go
              apply go
              apply go
              apply go
              refine sel_of (fun hc => ?_) (fun hc => ?_)
              ·
                have h := cond_t h hc
                apply go
                apply go
                refine ev (rn_load rfl rfl (run_loadVarA T24 rfl a_c)) ?_
                obtain ⟨x_3r, q_3s, h⟩ := bind_some h
                refine ev_call rfl rfl C13 (((ref41_Valid_ok n) _ _  (Node.mk x_0.Kind x_0.Name x_0.Count x_0.Kids) v_1 r_2 hp.imm _ q_3s).mono ?_)
                rintro _ w_3t ⟨rfl, hc⟩
                have hs := hp.stp hc
                replace hp := hp.ext hc
                replace r_3m := r_3m.step hs
                replace r_3n := r_3n.step hs
                replace r_3o := r_3o.step hs
                replace r_3p := r_3p.step hs
                replace r_3q := r_3q.step hs
                apply go
                obtain rfl := Option.some.inj h
                exact ⟨rfl, hp.ch⟩
              ·
                have h := cond_f h hc
                apply go
                obtain ⟨y_3u, q_3v, h⟩ := bind_some h
                refine W.cut (γ := Unit) (fun _ => [(1, v_4), (2, v_7), (11, (.pointer none)), (13, (.pointer (some ⟨g_3g, 0, none⟩)))]) (fun _ w' => y_3u = .go () ∧ w_2a = w') ?_ ?_
                ·
                  apply go
                  apply go
                  apply go
                  refine W.loop q_3v (γ := Unit) (fun _ _ => [(1, v_4), (2, v_7), (11, (.pointer none)), (13, (.pointer (some ⟨g_3g, 0, none⟩))), (15, (.int .i64 0))]) (fun _ _ w' => w_2a = w') () (.c rfl (.c rfl (.c rfl (.c rfl (.c rfl .n))))) rfl ?_
                  rintro ⟨⟩ ⟨⟩ _ y_3w rfl q_3x q_3y
                  unfold law41_TreeClones_L3 at q_3x
                  apply go
                  apply go
                  apply go
                  refine ev0 (rn_len rfl rfl Try.underlying32 r_5) ?_
                  apply go
                  refine sel_of (fun hc => ?_) (fun hc => ?_)
                  ·
                    have q_3x := cond_t q_3x hc
                    apply go
                    apply go
                    apply go
                    apply go
                    apply go
                    obtain ⟨x_3z, q_40, q_3x⟩ := bind_some q_3x
                    refine ev_index rfl rfl rfl Try.underlying32 T42 r_5 q_40 ?_
                    intro p_41 c_42 d_43 a_44
                    obtain ⟨v_45, v_46, rfl, r_47, r_48⟩ := dInput_o d_43
                    refine ev (rn_load rfl rfl (run_loadVarA T42 rfl a_44)) ?_
                    cases q_3x
                  ·
                    have q_3x := cond_f q_3x hc
                    apply go
                    have q_49 := congrArg some (q_3y _ (Option.some.inj q_3x).symm)
                    obtain rfl := Option.some.inj q_49
                    exact ⟨(), (.c rfl (.c rfl (.c rfl (.c rfl .n)))), rfl, rfl⟩
                ·
                  rintro ⟨⟩ _ ⟨hy, rfl⟩
                  replace hy := hy.symm
                  subst hy
                  apply go
                  apply go
                  obtain ⟨x_4a, q_4b, h⟩ := bind_some h
                  refine ev_call rfl rfl C26 (((tree_Runner_Clonenil_ok n) _ _   hp.imm _ q_4b).mono ?_)
                  rintro _ w_4c ⟨I_4d, v_4e, F_4f, hv, hq36998, q_4g⟩
                  replace hv := hv.symm
                  subst hv
                  rcases x_4a with _ | x_4h
                  ·
                    obtain ⟨rfl, rfl⟩ := q_4g
                    have hs := hq36998.st
                    have hp := hp.join0 hq36998
                    replace r_5 := r_5.step hs
                    replace r_8 := r_8.step hs
                    replace r_3m := r_3m.step hs
                    replace r_3n := r_3n.step hs
                    replace r_3o := r_3o.step hs
                    replace r_3p := r_3p.step hs
                    replace r_3q := r_3q.step hs
                    obtain ⟨⟨x_4i, x_4j⟩, q_4k, h⟩ := bind_some h
                    refine ev_call rfl rfl C27 (((ref41_Runner_Clone_ok n) _ _  (Runner_2.mk (Node.mk x_2f.T.Kind x_2f.T.Name x_2f.T.Count x_2f.T.Kids) x_2f.Counters x_2f.On x_2f.Status x_2f.Ticked) g_3g [some (g_3g, ((Value.int .i64 x_2f.T.Kind) :: ((Value.int .i64 x_2f.T.Name) :: ((Value.int .i64 x_2f.T.Count) :: (v_3h :: (c_3i ++ (c_3j ++ (c_3k ++ (v_3l :: [])))))))), 65)] ⟨v_3h, c_3i, c_3j, c_3k, v_3l, rfl, r_3m, r_3n, r_3o, r_3p, r_3q⟩ (hp.lendL [0] (by decide)) _ q_4k).mono ?_)
                    rintro _ w_4l ⟨I_4m, v_4n, F_4o, F_4p, hv, hq37010, q_4q, q_4r⟩
                    replace hv := hv.symm
                    subst hv
                    rcases x_4i with _ | x_4s
                    ·
                      obtain ⟨rfl, rfl⟩ := q_4q
                      obtain ⟨v_4t, c_4u, c_4v, c_4w, v_4x, rfl, r_4y, r_4z, r_50, r_51, r_52⟩ := q_4r
                      have hs := hq37010.st
                      have hp := hp.backL [0] [] (by decide) hq37010
                      replace r_5 := r_5.step hs
                      replace r_8 := r_8.step hs
                      apply go
                      obtain ⟨y_53, q_54, h⟩ := bind_some h
                      refine W.cut (γ := Unit) (fun _ => [(1, v_4), (2, v_7), (11, (.pointer none)), (13, (.pointer (some ⟨g_3g, 0, none⟩))), (16, (.pointer none)), (17, (.pointer none)), (104, (.bool true))]) (fun _ w' => y_53 = () ∧ w_4l = w') ?_ ?_
                      ·
                        apply go
                        refine ev0 (rn_eqNilP rfl rfl rfl Try.underlying28 (b := true) rfl) ?_
                        obtain rfl := Option.some.inj q_54
                        exact ⟨(), (.c rfl (.c rfl (.c rfl (.c rfl (.c rfl (.c rfl (.c rfl .n))))))), rfl, rfl⟩
                      ·
                        rintro ⟨⟩ _ ⟨hy, rfl⟩
                        replace hy := hy.symm
                        subst hy
                        apply go
                        apply go
                        apply go
                        apply go
                        obtain rfl := Option.some.inj h
                        exact ⟨rfl, hp.ch⟩
                    ·
                      obtain ⟨g_55, rfl, v_56, c_57, c_58, c_59, v_5a, rfl, r_5b, r_5c, r_5d, r_5e, r_5f⟩ := q_4q
                      obtain ⟨v_5g, c_5h, c_5i, c_5j, v_5k, rfl, r_5l, r_5m, r_5n, r_5o, r_5p⟩ := q_4r
                      have hs := hq37010.st
                      have hp := hp.backL [0] [] (by decide) hq37010
                      replace r_5 := r_5.step hs
                      replace r_8 := r_8.step hs
                      apply go
                      obtain ⟨y_5q, q_5r, h⟩ := bind_some h
                      refine W.cut (γ := Unit) (fun _ => [(1, v_4), (2, v_7), (11, (.pointer none)), (13, (.pointer (some ⟨g_3g, 0, none⟩))), (16, (.pointer none)), (17, (.pointer (some ⟨g_55, 0, none⟩))), (104, (.bool true))]) (fun _ w' => y_5q = () ∧ w_4l = w') ?_ ?_
                      ·
                        apply go
                        refine ev0 (rn_eqNilP rfl rfl rfl Try.underlying28 (b := true) rfl) ?_
                        obtain rfl := Option.some.inj q_5r
                        exact ⟨(), (.c rfl (.c rfl (.c rfl (.c rfl (.c rfl (.c rfl (.c rfl .n))))))), rfl, rfl⟩
                      ·
                        rintro ⟨⟩ _ ⟨hy, rfl⟩
                        replace hy := hy.symm
                        subst hy
                        apply go
                        apply go
                        apply go
                        apply go
                        obtain rfl := Option.some.inj h
                        exact ⟨rfl, hp.ch⟩
                  ·
                    obtain ⟨g_5s, rfl, v_5t, v_5u, e_5v, v_5w, e_5x, rfl, r_5y, o_5z, o_60⟩ := q_4g
                    have hs := hq36998.st
                    have hp := hp.join0 hq36998
                    replace r_5 := r_5.step hs
                    replace r_8 := r_8.step hs
                    replace r_3m := r_3m.step hs
                    replace r_3n := r_3n.step hs
                    replace r_3o := r_3o.step hs
                    replace r_3p := r_3p.step hs
                    replace r_3q := r_3q.step hs
                    obtain ⟨⟨x_61, x_62⟩, q_63, h⟩ := bind_some h
                    refine ev_call rfl rfl C27 (((ref41_Runner_Clone_ok n) _ _  (Runner_2.mk (Node.mk x_2f.T.Kind x_2f.T.Name x_2f.T.Count x_2f.T.Kids) x_2f.Counters x_2f.On x_2f.Status x_2f.Ticked) g_3g [some (g_3g, ((Value.int .i64 x_2f.T.Kind) :: ((Value.int .i64 x_2f.T.Name) :: ((Value.int .i64 x_2f.T.Count) :: (v_3h :: (c_3i ++ (c_3j ++ (c_3k ++ (v_3l :: [])))))))), 65)] ⟨v_3h, c_3i, c_3j, c_3k, v_3l, rfl, r_3m, r_3n, r_3o, r_3p, r_3q⟩ (hp.lendL [3] (by decide)) _ q_63).mono ?_)
                    rintro _ w_64 ⟨I_65, v_66, F_67, F_68, hv, hq37066, q_69, q_6a⟩
                    replace hv := hv.symm
                    subst hv
                    rcases x_61 with _ | x_6b
                    ·
                      obtain ⟨rfl, rfl⟩ := q_69
                      obtain ⟨v_6c, c_6d, c_6e, c_6f, v_6g, rfl, r_6h, r_6i, r_6j, r_6k, r_6l⟩ := q_6a
                      have hs := hq37066.st
                      have hp := hp.backL [3] [0, 1, 2] (by decide) hq37066
                      replace r_5 := r_5.step hs
                      replace r_8 := r_8.step hs
                      replace r_5y := r_5y.step hs
                      replace o_5z := o_5z.step hs
                      replace o_60 := o_60.step hs
                      apply go
                      obtain ⟨y_6m, q_6n, h⟩ := bind_some h
                      refine W.cut (γ := Unit) (fun _ => [(1, v_4), (2, v_7), (11, (.pointer none)), (13, (.pointer (some ⟨g_3g, 0, none⟩))), (16, (.pointer (some ⟨g_5s, 0, none⟩))), (17, (.pointer none)), (104, (.bool true))]) (fun _ w' => y_6m = () ∧ w_64 = w') ?_ ?_
                      ·
                        apply go
                        refine ev0 (rn_eqNilP rfl rfl rfl Try.underlying28 (b := false) rfl) ?_
                        refine ev0 (rn_eqNilP rfl rfl rfl Try.underlying35 (b := true) rfl) ?_
                        obtain rfl := Option.some.inj q_6n
                        exact ⟨(), (.c rfl (.c rfl (.c rfl (.c rfl (.c rfl (.c rfl (.c rfl .n))))))), rfl, rfl⟩
                      ·
                        rintro ⟨⟩ _ ⟨hy, rfl⟩
                        replace hy := hy.symm
                        subst hy
                        apply go
                        apply go
                        apply go
                        apply go
                        obtain rfl := Option.some.inj h
                        exact ⟨rfl, hp.ch⟩
                    ·
                      obtain ⟨g_6o, rfl, v_6p, c_6q, c_6r, c_6s, v_6t, rfl, r_6u, r_6v, r_6w, r_6x, r_6y⟩ := q_69
                      obtain ⟨v_6z, c_70, c_71, c_72, v_73, rfl, r_74, r_75, r_76, r_77, r_78⟩ := q_6a
                      have hs := hq37066.st
                      have hp := hp.backL [3] [0, 1, 2] (by decide) hq37066
                      replace r_5 := r_5.step hs
                      replace r_8 := r_8.step hs
                      replace r_5y := r_5y.step hs
                      replace o_5z := o_5z.step hs
                      replace o_60 := o_60.step hs
                      apply go
                      obtain ⟨y_79, q_7a, h⟩ := bind_some h
                      refine W.cut (γ := Unit) (fun _ => [(1, v_4), (2, v_7), (11, (.pointer none)), (13, (.pointer (some ⟨g_3g, 0, none⟩))), (16, (.pointer (some ⟨g_5s, 0, none⟩))), (17, (.pointer (some ⟨g_6o, 0, none⟩))), (104, (.bool false))]) (fun _ w' => y_79 = () ∧ w_64 = w') ?_ ?_
                      ·
                        apply go
                        refine ev0 (rn_eqNilP rfl rfl rfl Try.underlying28 (b := false) rfl) ?_
                        refine ev0 (rn_eqNilP rfl rfl rfl Try.underlying35 (b := false) rfl) ?_
                        obtain rfl := Option.some.inj q_7a
                        exact ⟨(), (.c rfl (.c rfl (.c rfl (.c rfl (.c rfl (.c rfl (.c rfl .n))))))), rfl, rfl⟩
                      ·
                        rintro ⟨⟩ _ ⟨hy, rfl⟩
                        replace hy := hy.symm
                        subst hy
                        apply go
                        apply go
                        obtain ⟨y_7b, q_7c, h⟩ := bind_some h
                        refine W.cut (γ := (Nat → Prop)) (fun g => []) (fun g w' => y_7b = .go () ∧ Hp ⟨w0, I0, []⟩ (g) [] w') ?_ ?_
                        ·
                          apply go
                          apply go
                          apply go
                          have hp := hp.perm [1, 3, 4, 2, 0] (by decide)
                          refine W.loop q_7c (γ := (Value × Value × Ent × Value × Ent × Value × (List Value) × (List Value) × (List Value) × Value × (Nat → Prop))) (fun s g => [(1, v_4), (2, v_7), (11, (.pointer none)), (13, (.pointer (some ⟨g_3g, 0, none⟩))), (16, (.pointer (some ⟨g_5s, 0, none⟩))), (17, (.pointer (some ⟨g_6o, 0, none⟩))), (18, (.int .i64 (s.2.2.2.2.2.2.2.2.2.2.2)))]) (fun s g w' => Hp ⟨w0, I0, []⟩ (g.2.2.2.2.2.2.2.2.2.2) [some (g_3g, ((Value.int .i64 x_62.T.Kind) :: ((Value.int .i64 x_62.T.Name) :: ((Value.int .i64 x_62.T.Count) :: (v_6z :: (c_70 ++ (c_71 ++ (c_72 ++ (v_73 :: [])))))))), 65), (g.2.2.1), (g.2.2.2.2.1), some (g_5s, [(g.1), (g.2.1), (g.2.2.2.1)], 61), some (g_6o, ((Value.int .i64 (s.2.2.2.1)) :: ((Value.int .i64 (s.2.2.2.2.1)) :: ((Value.int .i64 (s.2.2.2.2.2.1)) :: ((g.2.2.2.2.2.1) :: ((g.2.2.2.2.2.2.1) ++ ((g.2.2.2.2.2.2.2.1) ++ ((g.2.2.2.2.2.2.2.2.1) ++ ((g.2.2.2.2.2.2.2.2.2.1) :: [])))))))), 65)] w' ∧ RepS dInput w' (g.2.2.2.2.2.2.2.2.2.2) v_4 x_3 ∧ RepS dInput w' (g.2.2.2.2.2.2.2.2.2.2) v_7 x_6 ∧ RepS dNode w' (g.2.2.2.2.2.2.2.2.2.2) v_6z x_62.T.Kids ∧ (dA 64 (dI .i64)).rep w' (g.2.2.2.2.2.2.2.2.2.2) c_70 x_62.Counters ∧ (dA 64 dB).rep w' (g.2.2.2.2.2.2.2.2.2.2) c_71 x_62.On ∧ (dA 64 (dI .i64)).rep w' (g.2.2.2.2.2.2.2.2.2.2) c_72 x_62.Status ∧ RepS (dI .i64) w' (g.2.2.2.2.2.2.2.2.2.2) v_73 x_62.Ticked ∧ RepS dNode_2 w' (g.2.2.2.2.2.2.2.2.2.2) (g.1) (s.1) ∧ OwnS (dI .i64) 3 w' (g.2.2.2.2.2.2.2.2.2.2) (g.2.1) (g.2.2.1) (s.2.1) ∧ OwnS dB 4 w' (g.2.2.2.2.2.2.2.2.2.2) (g.2.2.2.1) (g.2.2.2.2.1) (s.2.2.1) ∧ RepS dNode w' (g.2.2.2.2.2.2.2.2.2.2) (g.2.2.2.2.2.1) (s.2.2.2.2.2.2.1) ∧ (dA 64 (dI .i64)).rep w' (g.2.2.2.2.2.2.2.2.2.2) (g.2.2.2.2.2.2.1) (s.2.2.2.2.2.2.2.1) ∧ (dA 64 dB).rep w' (g.2.2.2.2.2.2.2.2.2.2) (g.2.2.2.2.2.2.2.1) (s.2.2.2.2.2.2.2.2.1) ∧ (dA 64 (dI .i64)).rep w' (g.2.2.2.2.2.2.2.2.2.2) (g.2.2.2.2.2.2.2.2.1) (s.2.2.2.2.2.2.2.2.2.1) ∧ RepS (dI .i64) w' (g.2.2.2.2.2.2.2.2.2.2) (g.2.2.2.2.2.2.2.2.2.1) (s.2.2.2.2.2.2.2.2.2.2.1)) (v_5t, v_5u, e_5v, v_5w, e_5x, v_6p, c_6q, c_6r, c_6s, v_6t, I_65) (.c rfl (.c rfl (.c rfl (.c rfl (.c rfl (.c rfl (.c rfl .n))))))) ⟨hp, r_5, r_8, r_74, r_75, r_76, r_77, r_78, r_5y, o_5z, o_60, r_6u, r_6v, r_6w, r_6x, r_6y⟩ ?_
                          rintro ⟨x_7d, x_7e, x_7f, x_7g, x_7h, x_7i, x_7j, x_7k, x_7l, x_7m, x_7n, x_7o⟩ ⟨v_7p, v_7q, e_7r, v_7s, e_7t, v_7u, c_7v, c_7w, c_7x, v_7y, I_7z⟩ w_80 y_81 ⟨hp, r_5, r_8, r_74, r_75, r_76, r_77, r_78, r_82, o_83, o_84, r_85, r_86, r_87, r_88, r_89⟩ q_8a q_8b
                          unfold law41_TreeClones_L5 at q_8a
                          apply go
                          obtain ⟨y_8c, q_8d, q_8a⟩ := bind_some q_8a
                          refine W.cut (γ := Bool) (fun g => [(1, v_4), (2, v_7), (11, (.pointer none)), (13, (.pointer (some ⟨g_3g, 0, none⟩))), (16, (.pointer (some ⟨g_5s, 0, none⟩))), (17, (.pointer (some ⟨g_6o, 0, none⟩))), (18, (.int .i64 x_7o)), (114, (.bool (g)))]) (fun g w' => y_8c = (g) ∧ w_80 = w') ?_ ?_
                          ·
                            apply go
                            refine ev0 (rn_len rfl rfl Try.underlying32 r_5) ?_
                            refine sel_of (fun hc => ?_) (fun hc => ?_)
                            ·
                              have q_8d := cond_t q_8d hc
                              obtain rfl := Option.some.inj q_8d
                              exact ⟨true, (.c rfl (.c rfl (.c rfl (.c rfl (.c rfl (.c rfl (.c rfl (.c rfl .n)))))))), rfl, rfl⟩
                            ·
                              have q_8d := cond_f q_8d hc
                              refine ev0 (rn_len rfl rfl Try.underlying32 r_8) ?_
                              obtain rfl := Option.some.inj q_8d
                              exact ⟨(decide (x_7o < (x_6.length : Int))), (.c rfl (.c rfl (.c rfl (.c rfl (.c rfl (.c rfl (.c rfl (.c rfl .n)))))))), rfl, rfl⟩
                          ·
                            rintro x_8e _ ⟨hy, rfl⟩
                            replace hy := hy.symm
                            subst hy
                            apply go
                            refine sel_of (fun hc => ?_) (fun hc => ?_)
                            ·
                              have q_8a := cond_t q_8a hc
                              apply go
                              apply go
                              apply go
                              obtain ⟨y_8f, q_8g, q_8a⟩ := bind_some q_8a
                              refine W.cut (γ := ((List Node_2) × (List Int) × (List Bool) × Int × Int × Int × (List Node) × (List Int) × (List Bool) × (List Int) × (List Int) × Bool × Value × Value × Ent × Value × Ent × Value × (List Value) × (List Value) × (List Value) × Value × (Nat → Prop))) (fun g => [(1, v_4), (2, v_7), (11, (.pointer none)), (13, (.pointer (some ⟨g_3g, 0, none⟩))), (16, (.pointer (some ⟨g_5s, 0, none⟩))), (17, (.pointer (some ⟨g_6o, 0, none⟩))), (18, (.int .i64 x_7o)), (146, (.bool (g.2.2.2.2.2.2.2.2.2.2.2.1)))]) (fun g w' => y_8f = ((g.1), (g.2.1), (g.2.2.1), (g.2.2.2.1), (g.2.2.2.2.1), (g.2.2.2.2.2.1), (g.2.2.2.2.2.2.1), (g.2.2.2.2.2.2.2.1), (g.2.2.2.2.2.2.2.2.1), (g.2.2.2.2.2.2.2.2.2.1), (g.2.2.2.2.2.2.2.2.2.2.1), (g.2.2.2.2.2.2.2.2.2.2.2.1)) ∧ Hp ⟨w0, I0, []⟩ (g.2.2.2.2.2.2.2.2.2.2.2.2.2.2.2.2.2.2.2.2.2.2) [some (g_3g, ((Value.int .i64 x_62.T.Kind) :: ((Value.int .i64 x_62.T.Name) :: ((Value.int .i64 x_62.T.Count) :: (v_6z :: (c_70 ++ (c_71 ++ (c_72 ++ (v_73 :: [])))))))), 65), (g.2.2.2.2.2.2.2.2.2.2.2.2.2.2.1), (g.2.2.2.2.2.2.2.2.2.2.2.2.2.2.2.2.1), some (g_5s, [(g.2.2.2.2.2.2.2.2.2.2.2.2.1), (g.2.2.2.2.2.2.2.2.2.2.2.2.2.1), (g.2.2.2.2.2.2.2.2.2.2.2.2.2.2.2.1)], 61), some (g_6o, ((Value.int .i64 (g.2.2.2.1)) :: ((Value.int .i64 (g.2.2.2.2.1)) :: ((Value.int .i64 (g.2.2.2.2.2.1)) :: ((g.2.2.2.2.2.2.2.2.2.2.2.2.2.2.2.2.2.1) :: ((g.2.2.2.2.2.2.2.2.2.2.2.2.2.2.2.2.2.2.1) ++ ((g.2.2.2.2.2.2.2.2.2.2.2.2.2.2.2.2.2.2.2.1) ++ ((g.2.2.2.2.2.2.2.2.2.2.2.2.2.2.2.2.2.2.2.2.1) ++ ((g.2.2.2.2.2.2.2.2.2.2.2.2.2.2.2.2.2.2.2.2.2.1) :: [])))))))), 65)] w' ∧ RepS dInput w' (g.2.2.2.2.2.2.2.2.2.2.2.2.2.2.2.2.2.2.2.2.2.2) v_4 x_3 ∧ RepS dInput w' (g.2.2.2.2.2.2.2.2.2.2.2.2.2.2.2.2.2.2.2.2.2.2) v_7 x_6 ∧ RepS dNode w' (g.2.2.2.2.2.2.2.2.2.2.2.2.2.2.2.2.2.2.2.2.2.2) v_6z x_62.T.Kids ∧ (dA 64 (dI .i64)).rep w' (g.2.2.2.2.2.2.2.2.2.2.2.2.2.2.2.2.2.2.2.2.2.2) c_70 x_62.Counters ∧ (dA 64 dB).rep w' (g.2.2.2.2.2.2.2.2.2.2.2.2.2.2.2.2.2.2.2.2.2.2) c_71 x_62.On ∧ (dA 64 (dI .i64)).rep w' (g.2.2.2.2.2.2.2.2.2.2.2.2.2.2.2.2.2.2.2.2.2.2) c_72 x_62.Status ∧ RepS (dI .i64) w' (g.2.2.2.2.2.2.2.2.2.2.2.2.2.2.2.2.2.2.2.2.2.2) v_73 x_62.Ticked ∧ RepS dNode_2 w' (g.2.2.2.2.2.2.2.2.2.2.2.2.2.2.2.2.2.2.2.2.2.2) (g.2.2.2.2.2.2.2.2.2.2.2.2.1) (g.1) ∧ OwnS (dI .i64) 3 w' (g.2.2.2.2.2.2.2.2.2.2.2.2.2.2.2.2.2.2.2.2.2.2) (g.2.2.2.2.2.2.2.2.2.2.2.2.2.1) (g.2.2.2.2.2.2.2.2.2.2.2.2.2.2.1) (g.2.1) ∧ OwnS dB 4 w' (g.2.2.2.2.2.2.2.2.2.2.2.2.2.2.2.2.2.2.2.2.2.2) (g.2.2.2.2.2.2.2.2.2.2.2.2.2.2.2.1) (g.2.2.2.2.2.2.2.2.2.2.2.2.2.2.2.2.1) (g.2.2.1) ∧ RepS dNode w' (g.2.2.2.2.2.2.2.2.2.2.2.2.2.2.2.2.2.2.2.2.2.2) (g.2.2.2.2.2.2.2.2.2.2.2.2.2.2.2.2.2.1) (g.2.2.2.2.2.2.1) ∧ (dA 64 (dI .i64)).rep w' (g.2.2.2.2.2.2.2.2.2.2.2.2.2.2.2.2.2.2.2.2.2.2) (g.2.2.2.2.2.2.2.2.2.2.2.2.2.2.2.2.2.2.1) (g.2.2.2.2.2.2.2.1) ∧ (dA 64 dB).rep w' (g.2.2.2.2.2.2.2.2.2.2.2.2.2.2.2.2.2.2.2.2.2.2) (g.2.2.2.2.2.2.2.2.2.2.2.2.2.2.2.2.2.2.2.1) (g.2.2.2.2.2.2.2.2.1) ∧ (dA 64 (dI .i64)).rep w' (g.2.2.2.2.2.2.2.2.2.2.2.2.2.2.2.2.2.2.2.2.2.2) (g.2.2.2.2.2.2.2.2.2.2.2.2.2.2.2.2.2.2.2.2.1) (g.2.2.2.2.2.2.2.2.2.1) ∧ RepS (dI .i64) w' (g.2.2.2.2.2.2.2.2.2.2.2.2.2.2.2.2.2.2.2.2.2.2) (g.2.2.2.2.2.2.2.2.2.2.2.2.2.2.2.2.2.2.2.2.2.1) (g.2.2.2.2.2.2.2.2.2.2.1)) ?_ ?_
                              ·
                                apply go
                                refine ev0 (rn_len rfl rfl Try.underlying32 r_8) ?_
                                refine sel_of (fun hc => ?_) (fun hc => ?_)
                                ·
                                  have q_8g := cond_t q_8g hc
                                  obtain ⟨x_8h, q_8i, q_8g⟩ := bind_some q_8g
                                  refine ev_index rfl rfl rfl Try.underlying32 T42 r_8 q_8i ?_
                                  intro p_8j c_8k d_8l a_8m
                                  obtain ⟨v_8n, v_8o, rfl, r_8p, r_8q⟩ := dInput_o d_8l
                                  refine ev (rn_load rfl rfl (run_loadVarA T42 rfl a_8m)) ?_
                                  obtain ⟨⟨x_8r, x_8s, x_8t⟩, q_8u, q_8g⟩ := bind_some q_8g
                                  refine ev_call rfl rfl C19 (((law41_same_ok n) _ _  (Runner.mk x_7d x_7e x_7f) g_5s [some (g_5s, [v_7p, v_7q, v_7s], 61), e_7r, e_7t] ⟨v_7p, v_7q, e_7r, v_7s, e_7t, rfl, r_82, o_83, o_84⟩ (Runner_2.mk (Node.mk x_7g x_7h x_7i x_7j) x_7k x_7l x_7m x_7n) g_6o [some (g_6o, ((Value.int .i64 x_7g) :: ((Value.int .i64 x_7h) :: ((Value.int .i64 x_7i) :: (v_7u :: (c_7v ++ (c_7w ++ (c_7x ++ (v_7y :: [])))))))), 65)] ⟨v_7u, c_7v, c_7w, c_7x, v_7y, rfl, r_85, r_86, r_87, r_88, r_89⟩ (Input.mk x_8h.Actions x_8h.Tests) v_8n r_8p v_8o r_8q (hp.lendL [3, 1, 2, 4] (by decide)) _ q_8u).mono ?_)
                                  rintro _ w_8v ⟨I_8w, F_8x, F_8y, hv, hq38132, q_8z, q_90⟩
                                  replace hv := hv.symm
                                  subst hv
                                  obtain ⟨v_91, v_92, e_93, v_94, e_95, rfl, r_96, o_97, o_98⟩ := q_8z
                                  obtain ⟨v_99, c_9a, c_9b, c_9c, v_9d, rfl, r_9e, r_9f, r_9g, r_9h, r_9i⟩ := q_90
                                  have hs := hq38132.st
                                  have hp := hp.backL [3, 1, 2, 4] [0] (by decide) hq38132
                                  replace r_5 := r_5.step hs
                                  replace r_8 := r_8.step hs
                                  replace a_8m := a_8m.step hs
                                  replace r_8p := r_8p.step hs
                                  replace r_8q := r_8q.step hs
                                  replace r_74 := r_74.step hs
                                  replace r_75 := r_75.step hs
                                  replace r_76 := r_76.step hs
                                  replace r_77 := r_77.step hs
                                  replace r_78 := r_78.step hs
                                  refine sel_of (fun hc => ?_) (fun hc => ?_)
                                  ·
                                    have q_8g := cond_t q_8g hc
                                    obtain rfl := Option.some.inj q_8g
                                    have hp := hp.perm [4, 1, 2, 0, 3] (by decide)
                                    exact ⟨(x_8s.nodes, x_8s.counters, x_8s.active, x_8t.T.Kind, x_8t.T.Name, x_8t.T.Count, x_8t.T.Kids, x_8t.Counters, x_8t.On, x_8t.Status, x_8t.Ticked, true, v_91, v_92, e_93, v_94, e_95, v_99, c_9a, c_9b, c_9c, v_9d, I_8w), (.c rfl (.c rfl (.c rfl (.c rfl (.c rfl (.c rfl (.c rfl (.c rfl .n)))))))), rfl, hp, r_5, r_8, r_74, r_75, r_76, r_77, r_78, r_96, o_97, o_98, r_9e, r_9f, r_9g, r_9h, r_9i⟩
                                  ·
                                    have q_8g := cond_f q_8g hc
                                    refine ev0 (rn_len rfl rfl Try.underlying32 r_5) ?_
                                    refine sel_of (fun hc => ?_) (fun hc => ?_)
                                    ·
                                      have q_8g := cond_t q_8g hc
                                      obtain ⟨x_9j, q_9k, q_8g⟩ := bind_some q_8g
                                      refine ev_index rfl rfl rfl Try.underlying32 T42 r_5 q_9k ?_
                                      intro p_9l c_9m d_9n a_9o
                                      obtain ⟨v_9p, v_9q, rfl, r_9r, r_9s⟩ := dInput_o d_9n
                                      refine ev (rn_load rfl rfl (run_loadVarA T42 rfl a_9o)) ?_
                                      cases q_8g
                                    ·
                                      have q_8g := cond_f q_8g hc
                                      obtain rfl := Option.some.inj q_8g
                                      have hp := hp.perm [4, 1, 2, 0, 3] (by decide)
                                      exact ⟨(x_8s.nodes, x_8s.counters, x_8s.active, x_8t.T.Kind, x_8t.T.Name, x_8t.T.Count, x_8t.T.Kids, x_8t.Counters, x_8t.On, x_8t.Status, x_8t.Ticked, false, v_91, v_92, e_93, v_94, e_95, v_99, c_9a, c_9b, c_9c, v_9d, I_8w), (.c rfl (.c rfl (.c rfl (.c rfl (.c rfl (.c rfl (.c rfl (.c rfl .n)))))))), rfl, hp, r_5, r_8, r_74, r_75, r_76, r_77, r_78, r_96, o_97, o_98, r_9e, r_9f, r_9g, r_9h, r_9i⟩
                                ·
                                  have q_8g := cond_f q_8g hc
                                  refine ev0 (rn_len rfl rfl Try.underlying32 r_5) ?_
                                  refine sel_of (fun hc => ?_) (fun hc => ?_)
                                  ·
                                    have q_8g := cond_t q_8g hc
                                    obtain ⟨x_9t, q_9u, q_8g⟩ := bind_some q_8g
                                    refine ev_index rfl rfl rfl Try.underlying32 T42 r_5 q_9u ?_
                                    intro p_9v c_9w d_9x a_9y
                                    obtain ⟨v_9z, v_a0, rfl, r_a1, r_a2⟩ := dInput_o d_9x
                                    refine ev (rn_load rfl rfl (run_loadVarA T42 rfl a_9y)) ?_
                                    cases q_8g
                                  ·
                                    have q_8g := cond_f q_8g hc
                                    obtain rfl := Option.some.inj q_8g
                                    exact ⟨(x_7d, x_7e, x_7f, x_7g, x_7h, x_7i, x_7j, x_7k, x_7l, x_7m, x_7n, false, v_7p, v_7q, e_7r, v_7s, e_7t, v_7u, c_7v, c_7w, c_7x, v_7y, I_7z), (.c rfl (.c rfl (.c rfl (.c rfl (.c rfl (.c rfl (.c rfl (.c rfl .n)))))))), rfl, hp, r_5, r_8, r_74, r_75, r_76, r_77, r_78, r_82, o_83, o_84, r_85, r_86, r_87, r_88, r_89⟩
                              ·
                                rintro ⟨x_a3, x_a4, x_a5, x_a6, x_a7, x_a8, x_a9, x_aa, x_ab, x_ac, x_ad, x_ae, v_af, v_ag, e_ah, v_ai, e_aj, v_ak, c_al, c_am, c_an, v_ao, I_ap⟩ w_aq ⟨hy, hp, r_5, r_8, r_74, r_75, r_76, r_77, r_78, r_ar, o_as, o_at, r_au, r_av, r_aw, r_ax, r_ay⟩
                                replace hy := hy.symm
                                subst hy
                                apply go
                                refine sel_of (fun hc => ?_) (fun hc => ?_)
                                ·
                                  have q_8a := cond_t q_8a hc
                                  apply go
                                  apply go
                                  apply go
                                  have q_az := congrArg some (q_8b _ (Option.some.inj q_8a).symm)
                                  obtain rfl := Option.some.inj q_az
                                  obtain rfl := Option.some.inj h
                                  exact ⟨rfl, hp.ch⟩
                                ·
                                  have q_8a := cond_f q_8a hc
                                  apply go
                                  apply go
                                  exact ⟨_, (Option.some.inj q_8a).symm, (v_af, v_ag, e_ah, v_ai, e_aj, v_ak, c_al, c_am, c_an, v_ao, I_ap), (.c rfl (.c rfl (.c rfl (.c rfl (.c rfl (.c rfl (.c rfl .n))))))), ⟨hp, r_5, r_8, r_74, r_75, r_76, r_77, r_78, r_ar, o_as, o_at, r_au, r_av, r_aw, r_ax, r_ay⟩⟩
                            ·
                              have q_8a := cond_f q_8a hc
                              apply go
                              have q_b0 := congrArg some (q_8b _ (Option.some.inj q_8a).symm)
                              obtain rfl := Option.some.inj q_b0
                              have hp := hp.sel [] (by decide)
                              exact ⟨I_7z, .n, rfl, hp⟩
                        ·
                          rintro I_b1 w_b2 ⟨hy, hp⟩
                          replace hy := hy.symm
                          subst hy
                          apply go
                          apply go
                          apply go
                          obtain rfl := Option.some.inj h
                          exact ⟨rfl, hp.ch⟩
          ·
            obtain ⟨g_b3, rfl, v_b4, v_b5, e_b6, v_b7, e_b8, rfl, f_b9, o_ba, o_bb⟩ := q_25
            have r_bc := f_b9.imm
            have hs := hq36804.st
            have hp := hp.join0 hq36804
            replace r_5 := r_5.step hs
            replace r_8 := r_8.step hs
            replace a_c := a_c.step hs
            replace r_2 := r_2.step hs
            apply go
            apply go
            refine ev (rn_load rfl rfl (run_loadVarA T24 rfl a_c)) ?_
            obtain ⟨⟨x_bd, x_be⟩, q_bf, h⟩ := bind_some h
            refine ev_call rfl rfl C18 (((ref41_New_ok n) _ _  (Node.mk x_0.Kind x_0.Name x_0.Count x_0.Kids) v_1 r_2 hp.imm _ q_bf).mono ?_)
            rintro _ w_bg ⟨I_bh, v_bi, F_bj, hv, hq38191, q_bk⟩
            replace hv := hv.symm
            subst hv
            rcases x_bd with _ | x_bl
            ·
              obtain ⟨rfl, rfl⟩ := q_bk
              have hs := hq38191.st
              have hp := hp.join0 hq38191
              replace r_5 := r_5.step hs
              replace r_8 := r_8.step hs
              replace a_c := a_c.step hs
              replace r_2 := r_2.step hs
              replace r_bc := r_bc.step hs
              replace o_ba := o_ba.step hs
              replace o_bb := o_bb.step hs
              apply go
              apply go
              apply go
              apply go
              refine sel_of (fun hc => ?_) (fun hc => ?_)
              ·
                have h := cond_t h hc
                apply go
                apply go
                refine ev (rn_load rfl rfl (run_loadVarA T24 rfl a_c)) ?_
                obtain ⟨x_bm, q_bn, h⟩ := bind_some h
                refine ev_call rfl rfl C13 (((ref41_Valid_ok n) _ _  (Node.mk x_0.Kind x_0.Name x_0.Count x_0.Kids) v_1 r_2 hp.imm _ q_bn).mono ?_)
                rintro _ w_bo ⟨rfl, hc⟩
                have hs := hp.stp hc
                replace hp := hp.ext hc
                replace r_bc := r_bc.step hs
                replace o_ba := o_ba.step hs
                replace o_bb := o_bb.step hs
                apply go
                obtain rfl := Option.some.inj h
                exact ⟨rfl, hp.ch⟩
              ·
                have h := cond_f h hc
                apply go
                obtain ⟨y_bp, q_bq, h⟩ := bind_some h
                refine W.cut (γ := Unit) (fun _ => [(1, v_4), (2, v_7), (11, (.pointer (some ⟨g_b3, 0, none⟩))), (13, (.pointer none))]) (fun _ w' => y_bp = .go () ∧ w_bg = w') ?_ ?_
                ·
                  apply go
                  apply go
                  apply go
                  refine W.loop q_bq (γ := Unit) (fun _ _ => [(1, v_4), (2, v_7), (11, (.pointer (some ⟨g_b3, 0, none⟩))), (13, (.pointer none)), (15, (.int .i64 0))]) (fun _ _ w' => w_bg = w') () (.c rfl (.c rfl (.c rfl (.c rfl (.c rfl .n))))) rfl ?_
                  rintro ⟨⟩ ⟨⟩ _ y_br rfl q_bs q_bt
                  unfold law41_TreeClones_L7 at q_bs
                  apply go
                  apply go
                  apply go
                  refine ev0 (rn_len rfl rfl Try.underlying32 r_5) ?_
                  apply go
                  refine sel_of (fun hc => ?_) (fun hc => ?_)
                  ·
                    have q_bs := cond_t q_bs hc
                    apply go
                    apply go
                    apply go
                    apply go
                    apply go
                    obtain ⟨x_bu, q_bv, q_bs⟩ := bind_some q_bs
                    refine ev_index rfl rfl rfl Try.underlying32 T42 r_5 q_bv ?_
                    intro p_bw c_bx d_by a_bz
                    obtain ⟨v_c0, v_c1, rfl, r_c2, r_c3⟩ := dInput_o d_by
                    refine ev (rn_load rfl rfl (run_loadVarA T42 rfl a_bz)) ?_
                    cases q_bs
                  ·
                    have q_bs := cond_f q_bs hc
                    apply go
                    have q_c4 := congrArg some (q_bt _ (Option.some.inj q_bs).symm)
                    obtain rfl := Option.some.inj q_c4
                    exact ⟨(), (.c rfl (.c rfl (.c rfl (.c rfl .n)))), rfl, rfl⟩
                ·
                  rintro ⟨⟩ _ ⟨hy, rfl⟩
                  replace hy := hy.symm
                  subst hy
                  apply go
                  apply go
                  obtain ⟨⟨x_c5, x_c6⟩, q_c7, h⟩ := bind_some h
                  refine ev_call rfl rfl C26 (((tree_Runner_Clone_ok n) _ _  (Runner.mk x_26.nodes x_26.counters x_26.active) g_b3 [some (g_b3, [v_b4, v_b5, v_b7], 61), e_b6, e_b8] ⟨v_b4, v_b5, e_b6, v_b7, e_b8, rfl, r_bc, o_ba, o_bb⟩ (hp.lendL [0, 1, 2] (by decide)) _ q_c7).mono ?_)
                  rintro _ w_c8 ⟨I_c9, v_ca, F_cb, F_cc, hv, hq38276, q_cd, q_ce⟩
                  replace hv := hv.symm
                  subst hv
                  rcases x_c5 with _ | x_cf
                  ·
                    obtain ⟨rfl, rfl⟩ := q_cd
                    obtain ⟨v_cg, v_ch, e_ci, v_cj, e_ck, rfl, r_cl, o_cm, o_cn⟩ := q_ce
                    have hs := hq38276.st
                    have hp := hp.backL [0, 1, 2] [] (by decide) hq38276
                    replace r_5 := r_5.step hs
                    replace r_8 := r_8.step hs
                    cases h
                  ·
                    obtain ⟨g_co, rfl, v_cp, v_cq, e_cr, v_cs, e_ct, rfl, r_cu, o_cv, o_cw⟩ := q_cd
                    obtain ⟨v_cx, v_cy, e_cz, v_d0, e_d1, rfl, r_d2, o_d3, o_d4⟩ := q_ce
                    have hs := hq38276.st
                    have hp := hp.backL [0, 1, 2] [] (by decide) hq38276
                    replace r_5 := r_5.step hs
                    replace r_8 := r_8.step hs
                    cases h
            ·
              obtain ⟨g_d5, rfl, v_d6, c_d7, c_d8, c_d9, v_da, rfl, r_db, r_dc, r_dd, r_de, r_df⟩ := q_bk
              have hs := hq38191.st
              have hp := hp.join0 hq38191
              replace r_5 := r_5.step hs
              replace r_8 := r_8.step hs
              replace a_c := a_c.step hs
              replace r_2 := r_2.step hs
              replace r_bc := r_bc.step hs
              replace o_ba := o_ba.step hs
              replace o_bb := o_bb.step hs
              apply go
              apply go
              apply go
              apply go
              refine sel_of (fun hc => ?_) (fun hc => ?_)
              ·
                have h := cond_t h hc
                apply go
                apply go
                refine ev (rn_load rfl rfl (run_loadVarA T24 rfl a_c)) ?_
                obtain ⟨x_dg, q_dh, h⟩ := bind_some h
                refine ev_call rfl rfl C13 (((ref41_Valid_ok n) _ _  (Node.mk x_0.Kind x_0.Name x_0.Count x_0.Kids) v_1 r_2 hp.imm _ q_dh).mono ?_)
                rintro _ w_di ⟨rfl, hc⟩
                have hs := hp.stp hc
                replace hp := hp.ext hc
                replace r_db := r_db.step hs
                replace r_dc := r_dc.step hs
                replace r_dd := r_dd.step hs
                replace r_de := r_de.step hs
                replace r_df := r_df.step hs
                replace r_bc := r_bc.step hs
                replace o_ba := o_ba.step hs
                replace o_bb := o_bb.step hs
                apply go
                obtain rfl := Option.some.inj h
                exact ⟨rfl, hp.ch⟩
              ·
                have h := cond_f h hc
                apply go
                obtain ⟨y_dj, q_dk, h⟩ := bind_some h
                refine W.cut (γ := ((List Node_2) × (List Int) × (List Bool) × Int × Int × Int × (List Node) × (List Int) × (List Bool) × (List Int) × (List Int) × Value × Value × Ent × Value × Ent × Value × (List Value) × (List Value) × (List Value) × Value × (Nat → Prop))) (fun g => [(1, v_4), (2, v_7), (11, (.pointer (some ⟨g_b3, 0, none⟩))), (13, (.pointer (some ⟨g_d5, 0, none⟩)))]) (fun g w' => y_dj = .go ((g.1), (g.2.1), (g.2.2.1), (g.2.2.2.1), (g.2.2.2.2.1), (g.2.2.2.2.2.1), (g.2.2.2.2.2.2.1), (g.2.2.2.2.2.2.2.1), (g.2.2.2.2.2.2.2.2.1), (g.2.2.2.2.2.2.2.2.2.1), (g.2.2.2.2.2.2.2.2.2.2.1)) ∧ Hp ⟨w0, I0, []⟩ (g.2.2.2.2.2.2.2.2.2.2.2.2.2.2.2.2.2.2.2.2.2) [(g.2.2.2.2.2.2.2.2.2.2.2.2.2.1), (g.2.2.2.2.2.2.2.2.2.2.2.2.2.2.2.1), some (g_b3, [(g.2.2.2.2.2.2.2.2.2.2.2.1), (g.2.2.2.2.2.2.2.2.2.2.2.2.1), (g.2.2.2.2.2.2.2.2.2.2.2.2.2.2.1)], 61), some (g_d5, ((Value.int .i64 (g.2.2.2.1)) :: ((Value.int .i64 (g.2.2.2.2.1)) :: ((Value.int .i64 (g.2.2.2.2.2.1)) :: ((g.2.2.2.2.2.2.2.2.2.2.2.2.2.2.2.2.1) :: ((g.2.2.2.2.2.2.2.2.2.2.2.2.2.2.2.2.2.1) ++ ((g.2.2.2.2.2.2.2.2.2.2.2.2.2.2.2.2.2.2.1) ++ ((g.2.2.2.2.2.2.2.2.2.2.2.2.2.2.2.2.2.2.2.1) ++ ((g.2.2.2.2.2.2.2.2.2.2.2.2.2.2.2.2.2.2.2.2.1) :: [])))))))), 65)] w' ∧ RepS dInput w' (g.2.2.2.2.2.2.2.2.2.2.2.2.2.2.2.2.2.2.2.2.2) v_4 x_3 ∧ RepS dInput w' (g.2.2.2.2.2.2.2.2.2.2.2.2.2.2.2.2.2.2.2.2.2) v_7 x_6 ∧ RepS dNode_2 w' (g.2.2.2.2.2.2.2.2.2.2.2.2.2.2.2.2.2.2.2.2.2) (g.2.2.2.2.2.2.2.2.2.2.2.1) (g.1) ∧ OwnS (dI .i64) 3 w' (g.2.2.2.2.2.2.2.2.2.2.2.2.2.2.2.2.2.2.2.2.2) (g.2.2.2.2.2.2.2.2.2.2.2.2.1) (g.2.2.2.2.2.2.2.2.2.2.2.2.2.1) (g.2.1) ∧ OwnS dB 4 w' (g.2.2.2.2.2.2.2.2.2.2.2.2.2.2.2.2.2.2.2.2.2) (g.2.2.2.2.2.2.2.2.2.2.2.2.2.2.1) (g.2.2.2.2.2.2.2.2.2.2.2.2.2.2.2.1) (g.2.2.1) ∧ RepS dNode w' (g.2.2.2.2.2.2.2.2.2.2.2.2.2.2.2.2.2.2.2.2.2) (g.2.2.2.2.2.2.2.2.2.2.2.2.2.2.2.2.1) (g.2.2.2.2.2.2.1) ∧ (dA 64 (dI .i64)).rep w' (g.2.2.2.2.2.2.2.2.2.2.2.2.2.2.2.2.2.2.2.2.2) (g.2.2.2.2.2.2.2.2.2.2.2.2.2.2.2.2.2.1) (g.2.2.2.2.2.2.2.1) ∧ (dA 64 dB).rep w' (g.2.2.2.2.2.2.2.2.2.2.2.2.2.2.2.2.2.2.2.2.2) (g.2.2.2.2.2.2.2.2.2.2.2.2.2.2.2.2.2.2.1) (g.2.2.2.2.2.2.2.2.1) ∧ (dA 64 (dI .i64)).rep w' (g.2.2.2.2.2.2.2.2.2.2.2.2.2.2.2.2.2.2.2.2.2) (g.2.2.2.2.2.2.2.2.2.2.2.2.2.2.2.2.2.2.2.1) (g.2.2.2.2.2.2.2.2.2.1) ∧ RepS (dI .i64) w' (g.2.2.2.2.2.2.2.2.2.2.2.2.2.2.2.2.2.2.2.2.2) (g.2.2.2.2.2.2.2.2.2.2.2.2.2.2.2.2.2.2.2.2.1) (g.2.2.2.2.2.2.2.2.2.2.1)) ?_ ?_
                ·
                  apply go
                  apply go
                  apply go
                  have hp := hp.perm [2, 3, 1, 0] (by decide)
                  refine W.loop q_dk (γ := (Value × Value × Ent × Value × Ent × Value × (List Value) × (List Value) × (List Value) × Value × (Nat → Prop))) (fun s g => [(1, v_4), (2, v_7), (11, (.pointer (some ⟨g_b3, 0, none⟩))), (13, (.pointer (some ⟨g_d5, 0, none⟩))), (15, (.int .i64 (s.2.2.2.2.2.2.2.2.2.2.2)))]) (fun s g w' => Hp ⟨w0, I0, []⟩ (g.2.2.2.2.2.2.2.2.2.2) [(g.2.2.1), (g.2.2.2.2.1), some (g_b3, [(g.1), (g.2.1), (g.2.2.2.1)], 61), some (g_d5, ((Value.int .i64 (s.2.2.2.1)) :: ((Value.int .i64 (s.2.2.2.2.1)) :: ((Value.int .i64 (s.2.2.2.2.2.1)) :: ((g.2.2.2.2.2.1) :: ((g.2.2.2.2.2.2.1) ++ ((g.2.2.2.2.2.2.2.1) ++ ((g.2.2.2.2.2.2.2.2.1) ++ ((g.2.2.2.2.2.2.2.2.2.1) :: [])))))))), 65)] w' ∧ RepS dInput w' (g.2.2.2.2.2.2.2.2.2.2) v_4 x_3 ∧ RepS dInput w' (g.2.2.2.2.2.2.2.2.2.2) v_7 x_6 ∧ RepS dNode_2 w' (g.2.2.2.2.2.2.2.2.2.2) (g.1) (s.1) ∧ OwnS (dI .i64) 3 w' (g.2.2.2.2.2.2.2.2.2.2) (g.2.1) (g.2.2.1) (s.2.1) ∧ OwnS dB 4 w' (g.2.2.2.2.2.2.2.2.2.2) (g.2.2.2.1) (g.2.2.2.2.1) (s.2.2.1) ∧ RepS dNode w' (g.2.2.2.2.2.2.2.2.2.2) (g.2.2.2.2.2.1) (s.2.2.2.2.2.2.1) ∧ (dA 64 (dI .i64)).rep w' (g.2.2.2.2.2.2.2.2.2.2) (g.2.2.2.2.2.2.1) (s.2.2.2.2.2.2.2.1) ∧ (dA 64 dB).rep w' (g.2.2.2.2.2.2.2.2.2.2) (g.2.2.2.2.2.2.2.1) (s.2.2.2.2.2.2.2.2.1) ∧ (dA 64 (dI .i64)).rep w' (g.2.2.2.2.2.2.2.2.2.2) (g.2.2.2.2.2.2.2.2.1) (s.2.2.2.2.2.2.2.2.2.1) ∧ RepS (dI .i64) w' (g.2.2.2.2.2.2.2.2.2.2) (g.2.2.2.2.2.2.2.2.2.1) (s.2.2.2.2.2.2.2.2.2.2.1)) (v_b4, v_b5, e_b6, v_b7, e_b8, v_d6, c_d7, c_d8, c_d9, v_da, I_bh) (.c rfl (.c rfl (.c rfl (.c rfl (.c rfl .n))))) ⟨hp, r_5, r_8, r_bc, o_ba, o_bb, r_db, r_dc, r_dd, r_de, r_df⟩ ?_
                  rintro ⟨x_dl, x_dm, x_dn, x_do, x_dp, x_dq, x_dr, x_ds, x_dt, x_du, x_dv, x_dw⟩ ⟨v_dx, v_dy, e_dz, v_e0, e_e1, v_e2, c_e3, c_e4, c_e5, v_e6, I_e7⟩ w_e8 y_e9 ⟨hp, r_5, r_8, r_ea, o_eb, o_ec, r_ed, r_ee, r_ef, r_eg, r_eh⟩ q_ei q_ej
                  unfold law41_TreeClones_L9 at q_ei
                  apply go
                  apply go
                  apply go
                  refine ev0 (rn_len rfl rfl Try.underlying32 r_5) ?_
                  apply go
                  refine sel_of (fun hc => ?_) (fun hc => ?_)
                  ·
                    have q_ei := cond_t q_ei hc
                    apply go
                    apply go
                    apply go
                    apply go
                    apply go
                    obtain ⟨x_ek, q_el, q_ei⟩ := bind_some q_ei
                    refine ev_index rfl rfl rfl Try.underlying32 T42 r_5 q_el ?_
                    intro p_em c_en d_eo a_ep
                    obtain ⟨v_eq, v_er, rfl, r_es, r_et⟩ := dInput_o d_eo
                    refine ev (rn_load rfl rfl (run_loadVarA T42 rfl a_ep)) ?_
                    obtain ⟨⟨x_eu, x_ev, x_ew⟩, q_ex, q_ei⟩ := bind_some q_ei
                    refine ev_call rfl rfl C19 (((law41_same_ok n) _ _  (Runner.mk x_dl x_dm x_dn) g_b3 [some (g_b3, [v_dx, v_dy, v_e0], 61), e_dz, e_e1] ⟨v_dx, v_dy, e_dz, v_e0, e_e1, rfl, r_ea, o_eb, o_ec⟩ (Runner_2.mk (Node.mk x_do x_dp x_dq x_dr) x_ds x_dt x_du x_dv) g_d5 [some (g_d5, ((Value.int .i64 x_do) :: ((Value.int .i64 x_dp) :: ((Value.int .i64 x_dq) :: (v_e2 :: (c_e3 ++ (c_e4 ++ (c_e5 ++ (v_e6 :: [])))))))), 65)] ⟨v_e2, c_e3, c_e4, c_e5, v_e6, rfl, r_ed, r_ee, r_ef, r_eg, r_eh⟩ (Input.mk x_ek.Actions x_ek.Tests) v_eq r_es v_er r_et (hp.lendL [2, 0, 1, 3] (by decide)) _ q_ex).mono ?_)
                    rintro _ w_ey ⟨I_ez, F_f0, F_f1, hv, hq38699, q_f2, q_f3⟩
                    replace hv := hv.symm
                    subst hv
                    obtain ⟨v_f4, v_f5, e_f6, v_f7, e_f8, rfl, r_f9, o_fa, o_fb⟩ := q_f2
                    obtain ⟨v_fc, c_fd, c_fe, c_ff, v_fg, rfl, r_fh, r_fi, r_fj, r_fk, r_fl⟩ := q_f3
                    have hs := hq38699.st
                    have hp := hp.backL [2, 0, 1, 3] [] (by decide) hq38699
                    replace r_5 := r_5.step hs
                    replace r_8 := r_8.step hs
                    apply go
                    refine sel_of (fun hc => ?_) (fun hc => ?_)
                    ·
                      have q_ei := cond_t q_ei hc
                      apply go
                      apply go
                      apply go
                      have q_fm := congrArg some (q_ej _ (Option.some.inj q_ei).symm)
                      obtain rfl := Option.some.inj q_fm
                      obtain rfl := Option.some.inj h
                      exact ⟨rfl, hp.ch⟩
                    ·
                      have q_ei := cond_f q_ei hc
                      apply go
                      apply go
                      have hp := hp.perm [1, 2, 0, 3] (by decide)
                      exact ⟨_, (Option.some.inj q_ei).symm, (v_f4, v_f5, e_f6, v_f7, e_f8, v_fc, c_fd, c_fe, c_ff, v_fg, I_ez), (.c rfl (.c rfl (.c rfl (.c rfl (.c rfl .n))))), ⟨hp, r_5, r_8, r_f9, o_fa, o_fb, r_fh, r_fi, r_fj, r_fk, r_fl⟩⟩
                  ·
                    have q_ei := cond_f q_ei hc
                    apply go
                    have q_fn := congrArg some (q_ej _ (Option.some.inj q_ei).symm)
                    obtain rfl := Option.some.inj q_fn
                    exact ⟨(x_dl, x_dm, x_dn, x_do, x_dp, x_dq, x_dr, x_ds, x_dt, x_du, x_dv, v_dx, v_dy, e_dz, v_e0, e_e1, v_e2, c_e3, c_e4, c_e5, v_e6, I_e7), (.c rfl (.c rfl (.c rfl (.c rfl .n)))), rfl, hp, r_5, r_8, r_ea, o_eb, o_ec, r_ed, r_ee, r_ef, r_eg, r_eh⟩
                ·
                  rintro ⟨x_fo, x_fp, x_fq, x_fr, x_fs, x_ft, x_fu, x_fv, x_fw, x_fx, x_fy, v_fz, v_g0, e_g1, v_g2, e_g3, v_g4, c_g5, c_g6, c_g7, v_g8, I_g9⟩ w_ga ⟨hy, hp, r_5, r_8, r_gb, o_gc, o_gd, r_ge, r_gf, r_gg, r_gh, r_gi⟩
                  replace hy := hy.symm
                  subst hy
                  apply go
                  apply go
                  obtain ⟨⟨x_gj, x_gk⟩, q_gl, h⟩ := bind_some h
                  refine ev_call rfl rfl C26 (((tree_Runner_Clone_ok n) _ _  (Runner.mk x_fo x_fp x_fq) g_b3 [some (g_b3, [v_fz, v_g0, v_g2], 61), e_g1, e_g3] ⟨v_fz, v_g0, e_g1, v_g2, e_g3, rfl, r_gb, o_gc, o_gd⟩ (hp.lendL [2, 0, 1] (by decide)) _ q_gl).mono ?_)
                  rintro _ w_gm ⟨I_gn, v_go, F_gp, F_gq, hv, hq38730, q_gr, q_gs⟩
                  replace hv := hv.symm
                  subst hv
                  rcases x_gj with _ | x_gt
                  ·
                    obtain ⟨rfl, rfl⟩ := q_gr
                    obtain ⟨v_gu, v_gv, e_gw, v_gx, e_gy, rfl, r_gz, o_h0, o_h1⟩ := q_gs
                    have hs := hq38730.st
                    have hp := hp.backL [2, 0, 1] [3] (by decide) hq38730
                    replace r_5 := r_5.step hs
                    replace r_8 := r_8.step hs
                    replace r_ge := r_ge.step hs
                    replace r_gf := r_gf.step hs
                    replace r_gg := r_gg.step hs
                    replace r_gh := r_gh.step hs
                    replace r_gi := r_gi.step hs
                    obtain ⟨⟨x_h2, x_h3⟩, q_h4, h⟩ := bind_some h
                    refine ev_call rfl rfl C27 (((ref41_Runner_Clone_ok n) _ _  (Runner_2.mk (Node.mk x_fr x_fs x_ft x_fu) x_fv x_fw x_fx x_fy) g_d5 [some (g_d5, ((Value.int .i64 x_fr) :: ((Value.int .i64 x_fs) :: ((Value.int .i64 x_ft) :: (v_g4 :: (c_g5 ++ (c_g6 ++ (c_g7 ++ (v_g8 :: [])))))))), 65)] ⟨v_g4, c_g5, c_g6, c_g7, v_g8, rfl, r_ge, r_gf, r_gg, r_gh, r_gi⟩ (hp.lendL [3] (by decide)) _ q_h4).mono ?_)
                    rintro _ w_h5 ⟨I_h6, v_h7, F_h8, F_h9, hv, hq38750, q_ha, q_hb⟩
                    replace hv := hv.symm
                    subst hv
                    rcases x_h2 with _ | x_hc
                    ·
                      obtain ⟨rfl, rfl⟩ := q_ha
                      obtain ⟨v_hd, c_he, c_hf, c_hg, v_hh, rfl, r_hi, r_hj, r_hk, r_hl, r_hm⟩ := q_hb
                      have hs := hq38750.st
                      have hp := hp.backL [3] [0, 1, 2] (by decide) hq38750
                      replace r_5 := r_5.step hs
                      replace r_8 := r_8.step hs
                      replace r_gz := r_gz.step hs
                      replace o_h0 := o_h0.step hs
                      replace o_h1 := o_h1.step hs
                      apply go
                      obtain ⟨y_hn, q_ho, h⟩ := bind_some h
                      refine W.cut (γ := Unit) (fun _ => [(1, v_4), (2, v_7), (11, (.pointer (some ⟨g_b3, 0, none⟩))), (13, (.pointer (some ⟨g_d5, 0, none⟩))), (16, (.pointer none)), (17, (.pointer none)), (104, (.bool true))]) (fun _ w' => y_hn = () ∧ w_h5 = w') ?_ ?_
                      ·
                        apply go
                        refine ev0 (rn_eqNilP rfl rfl rfl Try.underlying28 (b := true) rfl) ?_
                        obtain rfl := Option.some.inj q_ho
                        exact ⟨(), (.c rfl (.c rfl (.c rfl (.c rfl (.c rfl (.c rfl (.c rfl .n))))))), rfl, rfl⟩
                      ·
                        rintro ⟨⟩ _ ⟨hy, rfl⟩
                        replace hy := hy.symm
                        subst hy
                        apply go
                        apply go
                        apply go
                        apply go
                        obtain rfl := Option.some.inj h
                        exact ⟨rfl, hp.ch⟩
                    ·
                      obtain ⟨g_hp, rfl, v_hq, c_hr, c_hs, c_ht, v_hu, rfl, r_hv, r_hw, r_hx, r_hy, r_hz⟩ := q_ha
                      obtain ⟨v_i0, c_i1, c_i2, c_i3, v_i4, rfl, r_i5, r_i6, r_i7, r_i8, r_i9⟩ := q_hb
                      have hs := hq38750.st
                      have hp := hp.backL [3] [0, 1, 2] (by decide) hq38750
                      replace r_5 := r_5.step hs
                      replace r_8 := r_8.step hs
                      replace r_gz := r_gz.step hs
                      replace o_h0 := o_h0.step hs
                      replace o_h1 := o_h1.step hs
                      apply go
                      obtain ⟨y_ia, q_ib, h⟩ := bind_some h
                      refine W.cut (γ := Unit) (fun _ => [(1, v_4), (2, v_7), (11, (.pointer (some ⟨g_b3, 0, none⟩))), (13, (.pointer (some ⟨g_d5, 0, none⟩))), (16, (.pointer none)), (17, (.pointer (some ⟨g_hp, 0, none⟩))), (104, (.bool true))]) (fun _ w' => y_ia = () ∧ w_h5 = w') ?_ ?_
                      ·
                        apply go
                        refine ev0 (rn_eqNilP rfl rfl rfl Try.underlying28 (b := true) rfl) ?_
                        obtain rfl := Option.some.inj q_ib
                        exact ⟨(), (.c rfl (.c rfl (.c rfl (.c rfl (.c rfl (.c rfl (.c rfl .n))))))), rfl, rfl⟩
                      ·
                        rintro ⟨⟩ _ ⟨hy, rfl⟩
                        replace hy := hy.symm
                        subst hy
                        apply go
                        apply go
                        apply go
                        apply go
                        obtain rfl := Option.some.inj h
                        exact ⟨rfl, hp.ch⟩
                  ·
                    obtain ⟨g_ic, rfl, v_id, v_ie, e_if, v_ig, e_ih, rfl, r_ii, o_ij, o_ik⟩ := q_gr
                    obtain ⟨v_il, v_im, e_in, v_io, e_ip, rfl, r_iq, o_ir, o_is⟩ := q_gs
                    have hs := hq38730.st
                    have hp := hp.backL [2, 0, 1] [3] (by decide) hq38730
                    replace r_5 := r_5.step hs
                    replace r_8 := r_8.step hs
                    replace r_ge := r_ge.step hs
                    replace r_gf := r_gf.step hs
                    replace r_gg := r_gg.step hs
                    replace r_gh := r_gh.step hs
                    replace r_gi := r_gi.step hs
                    obtain ⟨⟨x_it, x_iu⟩, q_iv, h⟩ := bind_some h
                    refine ev_call rfl rfl C27 (((ref41_Runner_Clone_ok n) _ _  (Runner_2.mk (Node.mk x_fr x_fs x_ft x_fu) x_fv x_fw x_fx x_fy) g_d5 [some (g_d5, ((Value.int .i64 x_fr) :: ((Value.int .i64 x_fs) :: ((Value.int .i64 x_ft) :: (v_g4 :: (c_g5 ++ (c_g6 ++ (c_g7 ++ (v_g8 :: [])))))))), 65)] ⟨v_g4, c_g5, c_g6, c_g7, v_g8, rfl, r_ge, r_gf, r_gg, r_gh, r_gi⟩ (hp.lendL [6] (by decide)) _ q_iv).mono ?_)
                    rintro _ w_iw ⟨I_ix, v_iy, F_iz, F_j0, hv, hq38814, q_j1, q_j2⟩
                    replace hv := hv.symm
                    subst hv
                    rcases x_it with _ | x_j3
                    ·
                      obtain ⟨rfl, rfl⟩ := q_j1
                      obtain ⟨v_j4, c_j5, c_j6, c_j7, v_j8, rfl, r_j9, r_ja, r_jb, r_jc, r_jd⟩ := q_j2
                      have hs := hq38814.st
                      have hp := hp.backL [6] [0, 1, 2, 3, 4, 5] (by decide) hq38814
                      replace r_5 := r_5.step hs
                      replace r_8 := r_8.step hs
                      replace r_ii := r_ii.step hs
                      replace o_ij := o_ij.step hs
                      replace o_ik := o_ik.step hs
                      replace r_iq := r_iq.step hs
                      replace o_ir := o_ir.step hs
                      replace o_is := o_is.step hs
                      apply go
                      obtain ⟨y_je, q_jf, h⟩ := bind_some h
                      refine W.cut (γ := Unit) (fun _ => [(1, v_4), (2, v_7), (11, (.pointer (some ⟨g_b3, 0, none⟩))), (13, (.pointer (some ⟨g_d5, 0, none⟩))), (16, (.pointer (some ⟨g_ic, 0, none⟩))), (17, (.pointer none)), (104, (.bool true))]) (fun _ w' => y_je = () ∧ w_iw = w') ?_ ?_
                      ·
                        apply go
                        refine ev0 (rn_eqNilP rfl rfl rfl Try.underlying28 (b := false) rfl) ?_
                        refine ev0 (rn_eqNilP rfl rfl rfl Try.underlying35 (b := true) rfl) ?_
                        obtain rfl := Option.some.inj q_jf
                        exact ⟨(), (.c rfl (.c rfl (.c rfl (.c rfl (.c rfl (.c rfl (.c rfl .n))))))), rfl, rfl⟩
                      ·
                        rintro ⟨⟩ _ ⟨hy, rfl⟩
                        replace hy := hy.symm
                        subst hy
                        apply go
                        apply go
                        apply go
                        apply go
                        obtain rfl := Option.some.inj h
                        exact ⟨rfl, hp.ch⟩
                    ·
                      obtain ⟨g_jg, rfl, v_jh, c_ji, c_jj, c_jk, v_jl, rfl, r_jm, r_jn, r_jo, r_jp, r_jq⟩ := q_j1
                      obtain ⟨v_jr, c_js, c_jt, c_ju, v_jv, rfl, r_jw, r_jx, r_jy, r_jz, r_k0⟩ := q_j2
                      have hs := hq38814.st
                      have hp := hp.backL [6] [0, 1, 2, 3, 4, 5] (by decide) hq38814
                      replace r_5 := r_5.step hs
                      replace r_8 := r_8.step hs
                      replace r_ii := r_ii.step hs
                      replace o_ij := o_ij.step hs
                      replace o_ik := o_ik.step hs
                      replace r_iq := r_iq.step hs
                      replace o_ir := o_ir.step hs
                      replace o_is := o_is.step hs
                      apply go
                      obtain ⟨y_k1, q_k2, h⟩ := bind_some h
                      refine W.cut (γ := Unit) (fun _ => [(1, v_4), (2, v_7), (11, (.pointer (some ⟨g_b3, 0, none⟩))), (13, (.pointer (some ⟨g_d5, 0, none⟩))), (16, (.pointer (some ⟨g_ic, 0, none⟩))), (17, (.pointer (some ⟨g_jg, 0, none⟩))), (104, (.bool false))]) (fun _ w' => y_k1 = () ∧ w_iw = w') ?_ ?_
                      ·
                        apply go
                        refine ev0 (rn_eqNilP rfl rfl rfl Try.underlying28 (b := false) rfl) ?_
                        refine ev0 (rn_eqNilP rfl rfl rfl Try.underlying35 (b := false) rfl) ?_
                        obtain rfl := Option.some.inj q_k2
                        exact ⟨(), (.c rfl (.c rfl (.c rfl (.c rfl (.c rfl (.c rfl (.c rfl .n))))))), rfl, rfl⟩
                      ·
                        rintro ⟨⟩ _ ⟨hy, rfl⟩
                        replace hy := hy.symm
                        subst hy
                        apply go
                        apply go
                        obtain ⟨y_k3, q_k4, h⟩ := bind_some h
                        refine W.cut (γ := (Nat → Prop)) (fun g => []) (fun g w' => y_k3 = .go () ∧ Hp ⟨w0, I0, []⟩ (g) [] w') ?_ ?_
                        ·
                          apply go
                          apply go
                          apply go
                          have hp := hp.perm [6, 7, 5, 1, 3, 4, 2, 0] (by decide)
                          refine W.loop q_k4 (γ := (Value × Value × Ent × Value × Ent × Value × (List Value) × (List Value) × (List Value) × Value × Value × Value × Ent × Value × Ent × Value × (List Value) × (List Value) × (List Value) × Value × (Nat → Prop))) (fun s g => [(1, v_4), (2, v_7), (11, (.pointer (some ⟨g_b3, 0, none⟩))), (13, (.pointer (some ⟨g_d5, 0, none⟩))), (16, (.pointer (some ⟨g_ic, 0, none⟩))), (17, (.pointer (some ⟨g_jg, 0, none⟩))), (18, (.int .i64 (s.2.2.2.2.2.2.2.2.2.2.2.2.2.2.2.2.2.2.2.2.2.2)))]) (fun s g w' => Hp ⟨w0, I0, []⟩ (g.2.2.2.2.2.2.2.2.2.2.2.2.2.2.2.2.2.2.2.2) [(g.2.2.1), (g.2.2.2.2.1), some (g_b3, [(g.1), (g.2.1), (g.2.2.2.1)], 61), some (g_d5, ((Value.int .i64 (s.2.2.2.1)) :: ((Value.int .i64 (s.2.2.2.2.1)) :: ((Value.int .i64 (s.2.2.2.2.2.1)) :: ((g.2.2.2.2.2.1) :: ((g.2.2.2.2.2.2.1) ++ ((g.2.2.2.2.2.2.2.1) ++ ((g.2.2.2.2.2.2.2.2.1) ++ ((g.2.2.2.2.2.2.2.2.2.1) :: [])))))))), 65), (g.2.2.2.2.2.2.2.2.2.2.2.2.1), (g.2.2.2.2.2.2.2.2.2.2.2.2.2.2.1), some (g_ic, [(g.2.2.2.2.2.2.2.2.2.2.1), (g.2.2.2.2.2.2.2.2.2.2.2.1), (g.2.2.2.2.2.2.2.2.2.2.2.2.2.1)], 61), some (g_jg, ((Value.int .i64 (s.2.2.2.2.2.2.2.2.2.2.2.2.2.2.1)) :: ((Value.int .i64 (s.2.2.2.2.2.2.2.2.2.2.2.2.2.2.2.1)) :: ((Value.int .i64 (s.2.2.2.2.2.2.2.2.2.2.2.2.2.2.2.2.1)) :: ((g.2.2.2.2.2.2.2.2.2.2.2.2.2.2.2.1) :: ((g.2.2.2.2.2.2.2.2.2.2.2.2.2.2.2.2.1) ++ ((g.2.2.2.2.2.2.2.2.2.2.2.2.2.2.2.2.2.1) ++ ((g.2.2.2.2.2.2.2.2.2.2.2.2.2.2.2.2.2.2.1) ++ ((g.2.2.2.2.2.2.2.2.2.2.2.2.2.2.2.2.2.2.2.1) :: [])))))))), 65)] w' ∧ RepS dInput w' (g.2.2.2.2.2.2.2.2.2.2.2.2.2.2.2.2.2.2.2.2) v_4 x_3 ∧ RepS dInput w' (g.2.2.2.2.2.2.2.2.2.2.2.2.2.2.2.2.2.2.2.2) v_7 x_6 ∧ RepS dNode_2 w' (g.2.2.2.2.2.2.2.2.2.2.2.2.2.2.2.2.2.2.2.2) (g.1) (s.1) ∧ OwnS (dI .i64) 3 w' (g.2.2.2.2.2.2.2.2.2.2.2.2.2.2.2.2.2.2.2.2) (g.2.1) (g.2.2.1) (s.2.1) ∧ OwnS dB 4 w' (g.2.2.2.2.2.2.2.2.2.2.2.2.2.2.2.2.2.2.2.2) (g.2.2.2.1) (g.2.2.2.2.1) (s.2.2.1) ∧ RepS dNode w' (g.2.2.2.2.2.2.2.2.2.2.2.2.2.2.2.2.2.2.2.2) (g.2.2.2.2.2.1) (s.2.2.2.2.2.2.1) ∧ (dA 64 (dI .i64)).rep w' (g.2.2.2.2.2.2.2.2.2.2.2.2.2.2.2.2.2.2.2.2) (g.2.2.2.2.2.2.1) (s.2.2.2.2.2.2.2.1) ∧ (dA 64 dB).rep w' (g.2.2.2.2.2.2.2.2.2.2.2.2.2.2.2.2.2.2.2.2) (g.2.2.2.2.2.2.2.1) (s.2.2.2.2.2.2.2.2.1) ∧ (dA 64 (dI .i64)).rep w' (g.2.2.2.2.2.2.2.2.2.2.2.2.2.2.2.2.2.2.2.2) (g.2.2.2.2.2.2.2.2.1) (s.2.2.2.2.2.2.2.2.2.1) ∧ RepS (dI .i64) w' (g.2.2.2.2.2.2.2.2.2.2.2.2.2.2.2.2.2.2.2.2) (g.2.2.2.2.2.2.2.2.2.1) (s.2.2.2.2.2.2.2.2.2.2.1) ∧ RepS dNode_2 w' (g.2.2.2.2.2.2.2.2.2.2.2.2.2.2.2.2.2.2.2.2) (g.2.2.2.2.2.2.2.2.2.2.1) (s.2.2.2.2.2.2.2.2.2.2.2.1) ∧ OwnS (dI .i64) 3 w' (g.2.2.2.2.2.2.2.2.2.2.2.2.2.2.2.2.2.2.2.2) (g.2.2.2.2.2.2.2.2.2.2.2.1) (g.2.2.2.2.2.2.2.2.2.2.2.2.1) (s.2.2.2.2.2.2.2.2.2.2.2.2.1) ∧ OwnS dB 4 w' (g.2.2.2.2.2.2.2.2.2.2.2.2.2.2.2.2.2.2.2.2) (g.2.2.2.2.2.2.2.2.2.2.2.2.2.1) (g.2.2.2.2.2.2.2.2.2.2.2.2.2.2.1) (s.2.2.2.2.2.2.2.2.2.2.2.2.2.1) ∧ RepS dNode w' (g.2.2.2.2.2.2.2.2.2.2.2.2.2.2.2.2.2.2.2.2) (g.2.2.2.2.2.2.2.2.2.2.2.2.2.2.2.1) (s.2.2.2.2.2.2.2.2.2.2.2.2.2.2.2.2.2.1) ∧ (dA 64 (dI .i64)).rep w' (g.2.2.2.2.2.2.2.2.2.2.2.2.2.2.2.2.2.2.2.2) (g.2.2.2.2.2.2.2.2.2.2.2.2.2.2.2.2.1) (s.2.2.2.2.2.2.2.2.2.2.2.2.2.2.2.2.2.2.1) ∧ (dA 64 dB).rep w' (g.2.2.2.2.2.2.2.2.2.2.2.2.2.2.2.2.2.2.2.2) (g.2.2.2.2.2.2.2.2.2.2.2.2.2.2.2.2.2.1) (s.2.2.2.2.2.2.2.2.2.2.2.2.2.2.2.2.2.2.2.1) ∧ (dA 64 (dI .i64)).rep w' (g.2.2.2.2.2.2.2.2.2.2.2.2.2.2.2.2.2.2.2.2) (g.2.2.2.2.2.2.2.2.2.2.2.2.2.2.2.2.2.2.1) (s.2.2.2.2.2.2.2.2.2.2.2.2.2.2.2.2.2.2.2.2.1) ∧ RepS (dI .i64) w' (g.2.2.2.2.2.2.2.2.2.2.2.2.2.2.2.2.2.2.2.2) (g.2.2.2.2.2.2.2.2.2.2.2.2.2.2.2.2.2.2.2.1) (s.2.2.2.2.2.2.2.2.2.2.2.2.2.2.2.2.2.2.2.2.2.1)) (v_il, v_im, e_in, v_io, e_ip, v_jr, c_js, c_jt, c_ju, v_jv, v_id, v_ie, e_if, v_ig, e_ih, v_jh, c_ji, c_jj, c_jk, v_jl, I_ix) (.c rfl (.c rfl (.c rfl (.c rfl (.c rfl (.c rfl (.c rfl .n))))))) ⟨hp, r_5, r_8, r_iq, o_ir, o_is, r_jw, r_jx, r_jy, r_jz, r_k0, r_ii, o_ij, o_ik, r_jm, r_jn, r_jo, r_jp, r_jq⟩ ?_
                          rintro ⟨x_k5, x_k6, x_k7, x_k8, x_k9, x_ka, x_kb, x_kc, x_kd, x_ke, x_kf, x_kg, x_kh, x_ki, x_kj, x_kk, x_kl, x_km, x_kn, x_ko, x_kp, x_kq, x_kr⟩ ⟨v_ks, v_kt, e_ku, v_kv, e_kw, v_kx, c_ky, c_kz, c_l0, v_l1, v_l2, v_l3, e_l4, v_l5, e_l6, v_l7, c_l8, c_l9, c_la, v_lb, I_lc⟩ w_ld y_le ⟨hp, r_5, r_8, r_lf, o_lg, o_lh, r_li, r_lj, r_lk, r_ll, r_lm, r_ln, o_lo, o_lp, r_lq, r_lr, r_ls, r_lt, r_lu⟩ q_lv q_lw
                          unfold law41_TreeClones_L11 at q_lv
                          apply go
                          obtain ⟨y_lx, q_ly, q_lv⟩ := bind_some q_lv
                          refine W.cut (γ := Bool) (fun g => [(1, v_4), (2, v_7), (11, (.pointer (some ⟨g_b3, 0, none⟩))), (13, (.pointer (some ⟨g_d5, 0, none⟩))), (16, (.pointer (some ⟨g_ic, 0, none⟩))), (17, (.pointer (some ⟨g_jg, 0, none⟩))), (18, (.int .i64 x_kr)), (114, (.bool (g)))]) (fun g w' => y_lx = (g) ∧ w_ld = w') ?_ ?_
                          ·
                            apply go
                            refine ev0 (rn_len rfl rfl Try.underlying32 r_5) ?_
                            refine sel_of (fun hc => ?_) (fun hc => ?_)
                            ·
                              have q_ly := cond_t q_ly hc
                              obtain rfl := Option.some.inj q_ly
                              exact ⟨true, (.c rfl (.c rfl (.c rfl (.c rfl (.c rfl (.c rfl (.c rfl (.c rfl .n)))))))), rfl, rfl⟩
                            ·
                              have q_ly := cond_f q_ly hc
                              refine ev0 (rn_len rfl rfl Try.underlying32 r_8) ?_
                              obtain rfl := Option.some.inj q_ly
                              exact ⟨(decide (x_kr < (x_6.length : Int))), (.c rfl (.c rfl (.c rfl (.c rfl (.c rfl (.c rfl (.c rfl (.c rfl .n)))))))), rfl, rfl⟩
                          ·
                            rintro x_lz _ ⟨hy, rfl⟩
                            replace hy := hy.symm
                            subst hy
                            apply go
                            refine sel_of (fun hc => ?_) (fun hc => ?_)
                            ·
                              have q_lv := cond_t q_lv hc
                              apply go
                              apply go
                              apply go
                              obtain ⟨y_m0, q_m1, q_lv⟩ := bind_some q_lv
                              refine W.cut (γ := ((List Node_2) × (List Int) × (List Bool) × Int × Int × Int × (List Node) × (List Int) × (List Bool) × (List Int) × (List Int) × (List Node_2) × (List Int) × (List Bool) × Int × Int × Int × (List Node) × (List Int) × (List Bool) × (List Int) × (List Int) × Bool × Value × Value × Ent × Value × Ent × Value × (List Value) × (List Value) × (List Value) × Value × Value × Value × Ent × Value × Ent × Value × (List Value) × (List Value) × (List Value) × Value × (Nat → Prop))) (fun g => [(1, v_4), (2, v_7), (11, (.pointer (some ⟨g_b3, 0, none⟩))), (13, (.pointer (some ⟨g_d5, 0, none⟩))), (16, (.pointer (some ⟨g_ic, 0, none⟩))), (17, (.pointer (some ⟨g_jg, 0, none⟩))), (18, (.int .i64 x_kr)), (146, (.bool (g.2.2.2.2.2.2.2.2.2.2.2.2.2.2.2.2.2.2.2.2.2.2.1)))]) (fun g w' => y_m0 = ((g.1), (g.2.1), (g.2.2.1), (g.2.2.2.1), (g.2.2.2.2.1), (g.2.2.2.2.2.1), (g.2.2.2.2.2.2.1), (g.2.2.2.2.2.2.2.1), (g.2.2.2.2.2.2.2.2.1), (g.2.2.2.2.2.2.2.2.2.1), (g.2.2.2.2.2.2.2.2.2.2.1), (g.2.2.2.2.2.2.2.2.2.2.2.1), (g.2.2.2.2.2.2.2.2.2.2.2.2.1), (g.2.2.2.2.2.2.2.2.2.2.2.2.2.1), (g.2.2.2.2.2.2.2.2.2.2.2.2.2.2.1), (g.2.2.2.2.2.2.2.2.2.2.2.2.2.2.2.1), (g.2.2.2.2.2.2.2.2.2.2.2.2.2.2.2.2.1), (g.2.2.2.2.2.2.2.2.2.2.2.2.2.2.2.2.2.1), (g.2.2.2.2.2.2.2.2.2.2.2.2.2.2.2.2.2.2.1), (g.2.2.2.2.2.2.2.2.2.2.2.2.2.2.2.2.2.2.2.1), (g.2.2.2.2.2.2.2.2.2.2.2.2.2.2.2.2.2.2.2.2.1), (g.2.2.2.2.2.2.2.2.2.2.2.2.2.2.2.2.2.2.2.2.2.1), (g.2.2.2.2.2.2.2.2.2.2.2.2.2.2.2.2.2.2.2.2.2.2.1)) ∧ Hp ⟨w0, I0, []⟩ (g.2.2.2.2.2.2.2.2.2.2.2.2.2.2.2.2.2.2.2.2.2.2.2.2.2.2.2.2.2.2.2.2.2.2.2.2.2.2.2.2.2.2.2) [(g.2.2.2.2.2.2.2.2.2.2.2.2.2.2.2.2.2.2.2.2.2.2.2.2.2.1), (g.2.2.2.2.2.2.2.2.2.2.2.2.2.2.2.2.2.2.2.2.2.2.2.2.2.2.2.1), some (g_b3, [(g.2.2.2.2.2.2.2.2.2.2.2.2.2.2.2.2.2.2.2.2.2.2.2.1), (g.2.2.2.2.2.2.2.2.2.2.2.2.2.2.2.2.2.2.2.2.2.2.2.2.1), (g.2.2.2.2.2.2.2.2.2.2.2.2.2.2.2.2.2.2.2.2.2.2.2.2.2.2.1)], 61), some (g_d5, ((Value.int .i64 (g.2.2.2.1)) :: ((Value.int .i64 (g.2.2.2.2.1)) :: ((Value.int .i64 (g.2.2.2.2.2.1)) :: ((g.2.2.2.2.2.2.2.2.2.2.2.2.2.2.2.2.2.2.2.2.2.2.2.2.2.2.2.2.1) :: ((g.2.2.2.2.2.2.2.2.2.2.2.2.2.2.2.2.2.2.2.2.2.2.2.2.2.2.2.2.2.1) ++ ((g.2.2.2.2.2.2.2.2.2.2.2.2.2.2.2.2.2.2.2.2.2.2.2.2.2.2.2.2.2.2.1) ++ ((g.2.2.2.2.2.2.2.2.2.2.2.2.2.2.2.2.2.2.2.2.2.2.2.2.2.2.2.2.2.2.2.1) ++ ((g.2.2.2.2.2.2.2.2.2.2.2.2.2.2.2.2.2.2.2.2.2.2.2.2.2.2.2.2.2.2.2.2.1) :: [])))))))), 65), (g.2.2.2.2.2.2.2.2.2.2.2.2.2.2.2.2.2.2.2.2.2.2.2.2.2.2.2.2.2.2.2.2.2.2.2.1), (g.2.2.2.2.2.2.2.2.2.2.2.2.2.2.2.2.2.2.2.2.2.2.2.2.2.2.2.2.2.2.2.2.2.2.2.2.2.1), some (g_ic, [(g.2.2.2.2.2.2.2.2.2.2.2.2.2.2.2.2.2.2.2.2.2.2.2.2.2.2.2.2.2.2.2.2.2.1), (g.2.2.2.2.2.2.2.2.2.2.2.2.2.2.2.2.2.2.2.2.2.2.2.2.2.2.2.2.2.2.2.2.2.2.1), (g.2.2.2.2.2.2.2.2.2.2.2.2.2.2.2.2.2.2.2.2.2.2.2.2.2.2.2.2.2.2.2.2.2.2.2.2.1)], 61), some (g_jg, ((Value.int .i64 (g.2.2.2.2.2.2.2.2.2.2.2.2.2.2.1)) :: ((Value.int .i64 (g.2.2.2.2.2.2.2.2.2.2.2.2.2.2.2.1)) :: ((Value.int .i64 (g.2.2.2.2.2.2.2.2.2.2.2.2.2.2.2.2.1)) :: ((g.2.2.2.2.2.2.2.2.2.2.2.2.2.2.2.2.2.2.2.2.2.2.2.2.2.2.2.2.2.2.2.2.2.2.2.2.2.2.1) :: ((g.2.2.2.2.2.2.2.2.2.2.2.2.2.2.2.2.2.2.2.2.2.2.2.2.2.2.2.2.2.2.2.2.2.2.2.2.2.2.2.1) ++ ((g.2.2.2.2.2.2.2.2.2.2.2.2.2.2.2.2.2.2.2.2.2.2.2.2.2.2.2.2.2.2.2.2.2.2.2.2.2.2.2.2.1) ++ ((g.2.2.2.2.2.2.2.2.2.2.2.2.2.2.2.2.2.2.2.2.2.2.2.2.2.2.2.2.2.2.2.2.2.2.2.2.2.2.2.2.2.1) ++ ((g.2.2.2.2.2.2.2.2.2.2.2.2.2.2.2.2.2.2.2.2.2.2.2.2.2.2.2.2.2.2.2.2.2.2.2.2.2.2.2.2.2.2.1) :: [])))))))), 65)] w' ∧ RepS dInput w' (g.2.2.2.2.2.2.2.2.2.2.2.2.2.2.2.2.2.2.2.2.2.2.2.2.2.2.2.2.2.2.2.2.2.2.2.2.2.2.2.2.2.2.2) v_4 x_3 ∧ RepS dInput w' (g.2.2.2.2.2.2.2.2.2.2.2.2.2.2.2.2.2.2.2.2.2.2.2.2.2.2.2.2.2.2.2.2.2.2.2.2.2.2.2.2.2.2.2) v_7 x_6 ∧ RepS dNode_2 w' (g.2.2.2.2.2.2.2.2.2.2.2.2.2.2.2.2.2.2.2.2.2.2.2.2.2.2.2.2.2.2.2.2.2.2.2.2.2.2.2.2.2.2.2) (g.2.2.2.2.2.2.2.2.2.2.2.2.2.2.2.2.2.2.2.2.2.2.2.1) (g.1) ∧ OwnS (dI .i64) 3 w' (g.2.2.2.2.2.2.2.2.2.2.2.2.2.2.2.2.2.2.2.2.2.2.2.2.2.2.2.2.2.2.2.2.2.2.2.2.2.2.2.2.2.2.2) (g.2.2.2.2.2.2.2.2.2.2.2.2.2.2.2.2.2.2.2.2.2.2.2.2.1) (g.2.2.2.2.2.2.2.2.2.2.2.2.2.2.2.2.2.2.2.2.2.2.2.2.2.1) (g.2.1) ∧ OwnS dB 4 w' (g.2.2.2.2.2.2.2.2.2.2.2.2.2.2.2.2.2.2.2.2.2.2.2.2.2.2.2.2.2.2.2.2.2.2.2.2.2.2.2.2.2.2.2) (g.2.2.2.2.2.2.2.2.2.2.2.2.2.2.2.2.2.2.2.2.2.2.2.2.2.2.1) (g.2.2.2.2.2.2.2.2.2.2.2.2.2.2.2.2.2.2.2.2.2.2.2.2.2.2.2.1) (g.2.2.1) ∧ RepS dNode w' (g.2.2.2.2.2.2.2.2.2.2.2.2.2.2.2.2.2.2.2.2.2.2.2.2.2.2.2.2.2.2.2.2.2.2.2.2.2.2.2.2.2.2.2) (g.2.2.2.2.2.2.2.2.2.2.2.2.2.2.2.2.2.2.2.2.2.2.2.2.2.2.2.2.1) (g.2.2.2.2.2.2.1) ∧ (dA 64 (dI .i64)).rep w' (g.2.2.2.2.2.2.2.2.2.2.2.2.2.2.2.2.2.2.2.2.2.2.2.2.2.2.2.2.2.2.2.2.2.2.2.2.2.2.2.2.2.2.2) (g.2.2.2.2.2.2.2.2.2.2.2.2.2.2.2.2.2.2.2.2.2.2.2.2.2.2.2.2.2.1) (g.2.2.2.2.2.2.2.1) ∧ (dA 64 dB).rep w' (g.2.2.2.2.2.2.2.2.2.2.2.2.2.2.2.2.2.2.2.2.2.2.2.2.2.2.2.2.2.2.2.2.2.2.2.2.2.2.2.2.2.2.2) (g.2.2.2.2.2.2.2.2.2.2.2.2.2.2.2.2.2.2.2.2.2.2.2.2.2.2.2.2.2.2.1) (g.2.2.2.2.2.2.2.2.1) ∧ (dA 64 (dI .i64)).rep w' (g.2.2.2.2.2.2.2.2.2.2.2.2.2.2.2.2.2.2.2.2.2.2.2.2.2.2.2.2.2.2.2.2.2.2.2.2.2.2.2.2.2.2.2) (g.2.2.2.2.2.2.2.2.2.2.2.2.2.2.2.2.2.2.2.2.2.2.2.2.2.2.2.2.2.2.2.1) (g.2.2.2.2.2.2.2.2.2.1) ∧ RepS (dI .i64) w' (g.2.2.2.2.2.2.2.2.2.2.2.2.2.2.2.2.2.2.2.2.2.2.2.2.2.2.2.2.2.2.2.2.2.2.2.2.2.2.2.2.2.2.2) (g.2.2.2.2.2.2.2.2.2.2.2.2.2.2.2.2.2.2.2.2.2.2.2.2.2.2.2.2.2.2.2.2.1) (g.2.2.2.2.2.2.2.2.2.2.1) ∧ RepS dNode_2 w' (g.2.2.2.2.2.2.2.2.2.2.2.2.2.2.2.2.2.2.2.2.2.2.2.2.2.2.2.2.2.2.2.2.2.2.2.2.2.2.2.2.2.2.2) (g.2.2.2.2.2.2.2.2.2.2.2.2.2.2.2.2.2.2.2.2.2.2.2.2.2.2.2.2.2.2.2.2.2.1) (g.2.2.2.2.2.2.2.2.2.2.2.1) ∧ OwnS (dI .i64) 3 w' (g.2.2.2.2.2.2.2.2.2.2.2.2.2.2.2.2.2.2.2.2.2.2.2.2.2.2.2.2.2.2.2.2.2.2.2.2.2.2.2.2.2.2.2) (g.2.2.2.2.2.2.2.2.2.2.2.2.2.2.2.2.2.2.2.2.2.2.2.2.2.2.2.2.2.2.2.2.2.2.1) (g.2.2.2.2.2.2.2.2.2.2.2.2.2.2.2.2.2.2.2.2.2.2.2.2.2.2.2.2.2.2.2.2.2.2.2.1) (g.2.2.2.2.2.2.2.2.2.2.2.2.1) ∧ OwnS dB 4 w' (g.2.2.2.2.2.2.2.2.2.2.2.2.2.2.2.2.2.2.2.2.2.2.2.2.2.2.2.2.2.2.2.2.2.2.2.2.2.2.2.2.2.2.2) (g.2.2.2.2.2.2.2.2.2.2.2.2.2.2.2.2.2.2.2.2.2.2.2.2.2.2.2.2.2.2.2.2.2.2.2.2.1) (g.2.2.2.2.2.2.2.2.2.2.2.2.2.2.2.2.2.2.2.2.2.2.2.2.2.2.2.2.2.2.2.2.2.2.2.2.2.1) (g.2.2.2.2.2.2.2.2.2.2.2.2.2.1) ∧ RepS dNode w' (g.2.2.2.2.2.2.2.2.2.2.2.2.2.2.2.2.2.2.2.2.2.2.2.2.2.2.2.2.2.2.2.2.2.2.2.2.2.2.2.2.2.2.2) (g.2.2.2.2.2.2.2.2.2.2.2.2.2.2.2.2.2.2.2.2.2.2.2.2.2.2.2.2.2.2.2.2.2.2.2.2.2.2.1) (g.2.2.2.2.2.2.2.2.2.2.2.2.2.2.2.2.2.1) ∧ (dA 64 (dI .i64)).rep w' (g.2.2.2.2.2.2.2.2.2.2.2.2.2.2.2.2.2.2.2.2.2.2.2.2.2.2.2.2.2.2.2.2.2.2.2.2.2.2.2.2.2.2.2) (g.2.2.2.2.2.2.2.2.2.2.2.2.2.2.2.2.2.2.2.2.2.2.2.2.2.2.2.2.2.2.2.2.2.2.2.2.2.2.2.1) (g.2.2.2.2.2.2.2.2.2.2.2.2.2.2.2.2.2.2.1) ∧ (dA 64 dB).rep w' (g.2.2.2.2.2.2.2.2.2.2.2.2.2.2.2.2.2.2.2.2.2.2.2.2.2.2.2.2.2.2.2.2.2.2.2.2.2.2.2.2.2.2.2) (g.2.2.2.2.2.2.2.2.2.2.2.2.2.2.2.2.2.2.2.2.2.2.2.2.2.2.2.2.2.2.2.2.2.2.2.2.2.2.2.2.1) (g.2.2.2.2.2.2.2.2.2.2.2.2.2.2.2.2.2.2.2.1) ∧ (dA 64 (dI .i64)).rep w' (g.2.2.2.2.2.2.2.2.2.2.2.2.2.2.2.2.2.2.2.2.2.2.2.2.2.2.2.2.2.2.2.2.2.2.2.2.2.2.2.2.2.2.2) (g.2.2.2.2.2.2.2.2.2.2.2.2.2.2.2.2.2.2.2.2.2.2.2.2.2.2.2.2.2.2.2.2.2.2.2.2.2.2.2.2.2.1) (g.2.2.2.2.2.2.2.2.2.2.2.2.2.2.2.2.2.2.2.2.1) ∧ RepS (dI .i64) w' (g.2.2.2.2.2.2.2.2.2.2.2.2.2.2.2.2.2.2.2.2.2.2.2.2.2.2.2.2.2.2.2.2.2.2.2.2.2.2.2.2.2.2.2) (g.2.2.2.2.2.2.2.2.2.2.2.2.2.2.2.2.2.2.2.2.2.2.2.2.2.2.2.2.2.2.2.2.2.2.2.2.2.2.2.2.2.2.1) (g.2.2.2.2.2.2.2.2.2.2.2.2.2.2.2.2.2.2.2.2.2.1)) ?_ ?_
                              ·
                                apply go
                                refine ev0 (rn_len rfl rfl Try.underlying32 r_8) ?_
                                refine sel_of (fun hc => ?_) (fun hc => ?_)
                                ·
                                  have q_m1 := cond_t q_m1 hc
                                  obtain ⟨x_m2, q_m3, q_m1⟩ := bind_some q_m1
                                  refine ev_index rfl rfl rfl Try.underlying32 T42 r_8 q_m3 ?_
                                  intro p_m4 c_m5 d_m6 a_m7
                                  obtain ⟨v_m8, v_m9, rfl, r_ma, r_mb⟩ := dInput_o d_m6
                                  refine ev (rn_load rfl rfl (run_loadVarA T42 rfl a_m7)) ?_
                                  obtain ⟨⟨x_mc, x_md, x_me⟩, q_mf, q_m1⟩ := bind_some q_m1
                                  refine ev_call rfl rfl C19 (((law41_same_ok n) _ _  (Runner.mk x_kg x_kh x_ki) g_ic [some (g_ic, [v_l2, v_l3, v_l5], 61), e_l4, e_l6] ⟨v_l2, v_l3, e_l4, v_l5, e_l6, rfl, r_ln, o_lo, o_lp⟩ (Runner_2.mk (Node.mk x_kj x_kk x_kl x_km) x_kn x_ko x_kp x_kq) g_jg [some (g_jg, ((Value.int .i64 x_kj) :: ((Value.int .i64 x_kk) :: ((Value.int .i64 x_kl) :: (v_l7 :: (c_l8 ++ (c_l9 ++ (c_la ++ (v_lb :: [])))))))), 65)] ⟨v_l7, c_l8, c_l9, c_la, v_lb, rfl, r_lq, r_lr, r_ls, r_lt, r_lu⟩ (Input.mk x_m2.Actions x_m2.Tests) v_m8 r_ma v_m9 r_mb (hp.lendL [6, 4, 5, 7] (by decide)) _ q_mf).mono ?_)
                                  rintro _ w_mg ⟨I_mh, F_mi, F_mj, hv, hq40808, q_mk, q_ml⟩
                                  replace hv := hv.symm
                                  subst hv
                                  obtain ⟨v_mm, v_mn, e_mo, v_mp, e_mq, rfl, r_mr, o_ms, o_mt⟩ := q_mk
                                  obtain ⟨v_mu, c_mv, c_mw, c_mx, v_my, rfl, r_mz, r_n0, r_n1, r_n2, r_n3⟩ := q_ml
                                  have hs := hq40808.st
                                  have hp := hp.backL [6, 4, 5, 7] [0, 1, 2, 3] (by decide) hq40808
                                  replace r_5 := r_5.step hs
                                  replace r_8 := r_8.step hs
                                  replace a_m7 := a_m7.step hs
                                  replace r_ma := r_ma.step hs
                                  replace r_mb := r_mb.step hs
                                  replace r_lf := r_lf.step hs
                                  replace o_lg := o_lg.step hs
                                  replace o_lh := o_lh.step hs
                                  replace r_li := r_li.step hs
                                  replace r_lj := r_lj.step hs
                                  replace r_lk := r_lk.step hs
                                  replace r_ll := r_ll.step hs
                                  replace r_lm := r_lm.step hs
                                  refine sel_of (fun hc => ?_) (fun hc => ?_)
                                  ·
                                    have q_m1 := cond_t q_m1 hc
                                    obtain rfl := Option.some.inj q_m1
                                    have hp := hp.perm [4, 5, 6, 7, 1, 2, 0, 3] (by decide)
                                    exact ⟨(x_k5, x_k6, x_k7, x_k8, x_k9, x_ka, x_kb, x_kc, x_kd, x_ke, x_kf, x_md.nodes, x_md.counters, x_md.active, x_me.T.Kind, x_me.T.Name, x_me.T.Count, x_me.T.Kids, x_me.Counters, x_me.On, x_me.Status, x_me.Ticked, true, v_ks, v_kt, e_ku, v_kv, e_kw, v_kx, c_ky, c_kz, c_l0, v_l1, v_mm, v_mn, e_mo, v_mp, e_mq, v_mu, c_mv, c_mw, c_mx, v_my, I_mh), (.c rfl (.c rfl (.c rfl (.c rfl (.c rfl (.c rfl (.c rfl (.c rfl .n)))))))), rfl, hp, r_5, r_8, r_lf, o_lg, o_lh, r_li, r_lj, r_lk, r_ll, r_lm, r_mr, o_ms, o_mt, r_mz, r_n0, r_n1, r_n2, r_n3⟩
                                  ·
                                    have q_m1 := cond_f q_m1 hc
                                    refine ev0 (rn_len rfl rfl Try.underlying32 r_5) ?_
                                    refine sel_of (fun hc => ?_) (fun hc => ?_)
                                    ·
                                      have q_m1 := cond_t q_m1 hc
                                      obtain ⟨x_n4, q_n5, q_m1⟩ := bind_some q_m1
                                      refine ev_index rfl rfl rfl Try.underlying32 T42 r_5 q_n5 ?_
                                      intro p_n6 c_n7 d_n8 a_n9
                                      obtain ⟨v_na, v_nb, rfl, r_nc, r_nd⟩ := dInput_o d_n8
                                      refine ev (rn_load rfl rfl (run_loadVarA T42 rfl a_n9)) ?_
                                      obtain ⟨⟨x_ne, x_nf, x_ng⟩, q_nh, q_m1⟩ := bind_some q_m1
                                      refine ev_call rfl rfl C19 (((law41_same_ok n) _ _  (Runner.mk x_k5 x_k6 x_k7) g_b3 [some (g_b3, [v_ks, v_kt, v_kv], 61), e_ku, e_kw] ⟨v_ks, v_kt, e_ku, v_kv, e_kw, rfl, r_lf, o_lg, o_lh⟩ (Runner_2.mk (Node.mk x_k8 x_k9 x_ka x_kb) x_kc x_kd x_ke x_kf) g_d5 [some (g_d5, ((Value.int .i64 x_k8) :: ((Value.int .i64 x_k9) :: ((Value.int .i64 x_ka) :: (v_kx :: (c_ky ++ (c_kz ++ (c_l0 ++ (v_l1 :: [])))))))), 65)] ⟨v_kx, c_ky, c_kz, c_l0, v_l1, rfl, r_li, r_lj, r_lk, r_ll, r_lm⟩ (Input.mk x_n4.Actions x_n4.Tests) v_na r_nc v_nb r_nd (hp.lendL [6, 4, 5, 7] (by decide)) _ q_nh).mono ?_)
                                      rintro _ w_ni ⟨I_nj, F_nk, F_nl, hv, hq40847, q_nm, q_nn⟩
                                      replace hv := hv.symm
                                      subst hv
                                      obtain ⟨v_no, v_np, e_nq, v_nr, e_ns, rfl, r_nt, o_nu, o_nv⟩ := q_nm
                                      obtain ⟨v_nw, c_nx, c_ny, c_nz, v_o0, rfl, r_o1, r_o2, r_o3, r_o4, r_o5⟩ := q_nn
                                      have hs := hq40847.st
                                      have hp := hp.backL [6, 4, 5, 7] [0, 1, 2, 3] (by decide) hq40847
                                      replace r_5 := r_5.step hs
                                      replace r_8 := r_8.step hs
                                      replace a_m7 := a_m7.step hs
                                      replace r_ma := r_ma.step hs
                                      replace r_mb := r_mb.step hs
                                      replace a_n9 := a_n9.step hs
                                      replace r_nc := r_nc.step hs
                                      replace r_nd := r_nd.step hs
                                      replace r_mr := r_mr.step hs
                                      replace o_ms := o_ms.step hs
                                      replace o_mt := o_mt.step hs
                                      replace r_mz := r_mz.step hs
                                      replace r_n0 := r_n0.step hs
                                      replace r_n1 := r_n1.step hs
                                      replace r_n2 := r_n2.step hs
                                      replace r_n3 := r_n3.step hs
                                      obtain rfl := Option.some.inj q_m1
                                      have hp := hp.perm [1, 2, 0, 3, 5, 6, 4, 7] (by decide)
                                      exact ⟨(x_nf.nodes, x_nf.counters, x_nf.active, x_ng.T.Kind, x_ng.T.Name, x_ng.T.Count, x_ng.T.Kids, x_ng.Counters, x_ng.On, x_ng.Status, x_ng.Ticked, x_md.nodes, x_md.counters, x_md.active, x_me.T.Kind, x_me.T.Name, x_me.T.Count, x_me.T.Kids, x_me.Counters, x_me.On, x_me.Status, x_me.Ticked, (!x_ne), v_no, v_np, e_nq, v_nr, e_ns, v_nw, c_nx, c_ny, c_nz, v_o0, v_mm, v_mn, e_mo, v_mp, e_mq, v_mu, c_mv, c_mw, c_mx, v_my, I_nj), (.c rfl (.c rfl (.c rfl (.c rfl (.c rfl (.c rfl (.c rfl (.c rfl .n)))))))), rfl, hp, r_5, r_8, r_nt, o_nu, o_nv, r_o1, r_o2, r_o3, r_o4, r_o5, r_mr, o_ms, o_mt, r_mz, r_n0, r_n1, r_n2, r_n3⟩
                                    ·
                                      have q_m1 := cond_f q_m1 hc
                                      obtain rfl := Option.some.inj q_m1
                                      have hp := hp.perm [4, 5, 6, 7, 1, 2, 0, 3] (by decide)
                                      exact ⟨(x_k5, x_k6, x_k7, x_k8, x_k9, x_ka, x_kb, x_kc, x_kd, x_ke, x_kf, x_md.nodes, x_md.counters, x_md.active, x_me.T.Kind, x_me.T.Name, x_me.T.Count, x_me.T.Kids, x_me.Counters, x_me.On, x_me.Status, x_me.Ticked, false, v_ks, v_kt, e_ku, v_kv, e_kw, v_kx, c_ky, c_kz, c_l0, v_l1, v_mm, v_mn, e_mo, v_mp, e_mq, v_mu, c_mv, c_mw, c_mx, v_my, I_mh), (.c rfl (.c rfl (.c rfl (.c rfl (.c rfl (.c rfl (.c rfl (.c rfl .n)))))))), rfl, hp, r_5, r_8, r_lf, o_lg, o_lh, r_li, r_lj, r_lk, r_ll, r_lm, r_mr, o_ms, o_mt, r_mz, r_n0, r_n1, r_n2, r_n3⟩
                                ·
                                  have q_m1 := cond_f q_m1 hc
                                  refine ev0 (rn_len rfl rfl Try.underlying32 r_5) ?_
                                  refine sel_of (fun hc => ?_) (fun hc => ?_)
                                  ·
                                    have q_m1 := cond_t q_m1 hc
                                    obtain ⟨x_o6, q_o7, q_m1⟩ := bind_some q_m1
                                    refine ev_index rfl rfl rfl Try.underlying32 T42 r_5 q_o7 ?_
                                    intro p_o8 c_o9 d_oa a_ob
                                    obtain ⟨v_oc, v_od, rfl, r_oe, r_of⟩ := dInput_o d_oa
                                    refine ev (rn_load rfl rfl (run_loadVarA T42 rfl a_ob)) ?_
                                    obtain ⟨⟨x_og, x_oh, x_oi⟩, q_oj, q_m1⟩ := bind_some q_m1
                                    refine ev_call rfl rfl C19 (((law41_same_ok n) _ _  (Runner.mk x_k5 x_k6 x_k7) g_b3 [some (g_b3, [v_ks, v_kt, v_kv], 61), e_ku, e_kw] ⟨v_ks, v_kt, e_ku, v_kv, e_kw, rfl, r_lf, o_lg, o_lh⟩ (Runner_2.mk (Node.mk x_k8 x_k9 x_ka x_kb) x_kc x_kd x_ke x_kf) g_d5 [some (g_d5, ((Value.int .i64 x_k8) :: ((Value.int .i64 x_k9) :: ((Value.int .i64 x_ka) :: (v_kx :: (c_ky ++ (c_kz ++ (c_l0 ++ (v_l1 :: [])))))))), 65)] ⟨v_kx, c_ky, c_kz, c_l0, v_l1, rfl, r_li, r_lj, r_lk, r_ll, r_lm⟩ (Input.mk x_o6.Actions x_o6.Tests) v_oc r_oe v_od r_of (hp.lendL [2, 0, 1, 3] (by decide)) _ q_oj).mono ?_)
                                    rintro _ w_ok ⟨I_ol, F_om, F_on, hv, hq40886, q_oo, q_op⟩
                                    replace hv := hv.symm
                                    subst hv
                                    obtain ⟨v_oq, v_or, e_os, v_ot, e_ou, rfl, r_ov, o_ow, o_ox⟩ := q_oo
                                    obtain ⟨v_oy, c_oz, c_p0, c_p1, v_p2, rfl, r_p3, r_p4, r_p5, r_p6, r_p7⟩ := q_op
                                    have hs := hq40886.st
                                    have hp := hp.backL [2, 0, 1, 3] [4, 5, 6, 7] (by decide) hq40886
                                    replace r_5 := r_5.step hs
                                    replace r_8 := r_8.step hs
                                    replace a_ob := a_ob.step hs
                                    replace r_oe := r_oe.step hs
                                    replace r_of := r_of.step hs
                                    replace r_ln := r_ln.step hs
                                    replace o_lo := o_lo.step hs
                                    replace o_lp := o_lp.step hs
                                    replace r_lq := r_lq.step hs
                                    replace r_lr := r_lr.step hs
                                    replace r_ls := r_ls.step hs
                                    replace r_lt := r_lt.step hs
                                    replace r_lu := r_lu.step hs
                                    obtain rfl := Option.some.inj q_m1
                                    have hp := hp.perm [1, 2, 0, 3, 4, 5, 6, 7] (by decide)
                                    exact ⟨(x_oh.nodes, x_oh.counters, x_oh.active, x_oi.T.Kind, x_oi.T.Name, x_oi.T.Count, x_oi.T.Kids, x_oi.Counters, x_oi.On, x_oi.Status, x_oi.Ticked, x_kg, x_kh, x_ki, x_kj, x_kk, x_kl, x_km, x_kn, x_ko, x_kp, x_kq, (!x_og), v_oq, v_or, e_os, v_ot, e_ou, v_oy, c_oz, c_p0, c_p1, v_p2, v_l2, v_l3, e_l4, v_l5, e_l6, v_l7, c_l8, c_l9, c_la, v_lb, I_ol), (.c rfl (.c rfl (.c rfl (.c rfl (.c rfl (.c rfl (.c rfl (.c rfl .n)))))))), rfl, hp, r_5, r_8, r_ov, o_ow, o_ox, r_p3, r_p4, r_p5, r_p6, r_p7, r_ln, o_lo, o_lp, r_lq, r_lr, r_ls, r_lt, r_lu⟩
                                  ·
                                    have q_m1 := cond_f q_m1 hc
                                    obtain rfl := Option.some.inj q_m1
                                    exact ⟨(x_k5, x_k6, x_k7, x_k8, x_k9, x_ka, x_kb, x_kc, x_kd, x_ke, x_kf, x_kg, x_kh, x_ki, x_kj, x_kk, x_kl, x_km, x_kn, x_ko, x_kp, x_kq, false, v_ks, v_kt, e_ku, v_kv, e_kw, v_kx, c_ky, c_kz, c_l0, v_l1, v_l2, v_l3, e_l4, v_l5, e_l6, v_l7, c_l8, c_l9, c_la, v_lb, I_lc), (.c rfl (.c rfl (.c rfl (.c rfl (.c rfl (.c rfl (.c rfl (.c rfl .n)))))))), rfl, hp, r_5, r_8, r_lf, o_lg, o_lh, r_li, r_lj, r_lk, r_ll, r_lm, r_ln, o_lo, o_lp, r_lq, r_lr, r_ls, r_lt, r_lu⟩
                              ·
                                rintro ⟨x_p8, x_p9, x_pa, x_pb, x_pc, x_pd, x_pe, x_pf, x_pg, x_ph, x_pi, x_pj, x_pk, x_pl, x_pm, x_pn, x_po, x_pp, x_pq, x_pr, x_ps, x_pt, x_pu, v_pv, v_pw, e_px, v_py, e_pz, v_q0, c_q1, c_q2, c_q3, v_q4, v_q5, v_q6, e_q7, v_q8, e_q9, v_qa, c_qb, c_qc, c_qd, v_qe, I_qf⟩ w_qg ⟨hy, hp, r_5, r_8, r_qh, o_qi, o_qj, r_qk, r_ql, r_qm, r_qn, r_qo, r_qp, o_qq, o_qr, r_qs, r_qt, r_qu, r_qv, r_qw⟩
                                replace hy := hy.symm
                                subst hy
                                apply go
                                refine sel_of (fun hc => ?_) (fun hc => ?_)
                                ·
                                  have q_lv := cond_t q_lv hc
                                  apply go
                                  apply go
                                  apply go
                                  have q_qx := congrArg some (q_lw _ (Option.some.inj q_lv).symm)
                                  obtain rfl := Option.some.inj q_qx
                                  obtain rfl := Option.some.inj h
                                  exact ⟨rfl, hp.ch⟩
                                ·
                                  have q_lv := cond_f q_lv hc
                                  apply go
                                  apply go
                                  exact ⟨_, (Option.some.inj q_lv).symm, (v_pv, v_pw, e_px, v_py, e_pz, v_q0, c_q1, c_q2, c_q3, v_q4, v_q5, v_q6, e_q7, v_q8, e_q9, v_qa, c_qb, c_qc, c_qd, v_qe, I_qf), (.c rfl (.c rfl (.c rfl (.c rfl (.c rfl (.c rfl (.c rfl .n))))))), ⟨hp, r_5, r_8, r_qh, o_qi, o_qj, r_qk, r_ql, r_qm, r_qn, r_qo, r_qp, o_qq, o_qr, r_qs, r_qt, r_qu, r_qv, r_qw⟩⟩
                            ·
                              have q_lv := cond_f q_lv hc
                              apply go
                              have q_qy := congrArg some (q_lw _ (Option.some.inj q_lv).symm)
                              obtain rfl := Option.some.inj q_qy
                              have hp := hp.sel [] (by decide)
                              exact ⟨I_lc, .n, rfl, hp⟩
                        ·
                          rintro I_qz w_r0 ⟨hy, hp⟩
                          replace hy := hy.symm
                          subst hy
                          apply go
                          apply go
                          apply go
                          obtain rfl := Option.some.inj h
                          exact ⟨rfl, hp.ch⟩

end Go.Proofs.Ytknnmbcaoekgmaa
