/-
  Each function of the program computes the plain function of its name.
-/
import Derived.Test.YtknnmbcaoekgmaaFactsA
import Derived.Test.YtknnmbcaoekgmaaWalkA
namespace Go.Proofs.Ytknnmbcaoekgmaa
open Go Go.Proofs.Ytknnmbcaoekgmaa.Gw Go.RowKit
set_option linter.unusedVariables false
attribute [local irreducible] Ev EvQ EvS EvH
def ref41_Runner_tick_S (f : Runner_2 → Node → Int → (List Int) → (List Bool) → Option (Int × Runner_2)) : Prop := ∀ (w0 : World) (I0 : Nat → Prop) (x_0 : Runner_2) (g_1 : Nat) (E_2 : List Ent) (q_3 : qV w0 I0 g_1 E_2 x_0) (x_4 : Node) (v_5 : Value) (r_6 : RepS dNode w0 I0 v_5 x_4.Kids) (x_7 : Int) (x_8 : (List Int)) (v_9 : Value) (r_a : RepS (dI .i64) w0 I0 v_9 x_8) (x_b : (List Bool)) (v_c : Value) (r_d : RepS dB w0 I0 v_c x_b) (hp : Hp ⟨w0, I0, blks E_2⟩ I0 E_2 w0) (r : (Int × Runner_2)), f x_0 x_4 x_7 x_8 x_b = some r →
    Ret Try.prog 41 #[(.pointer (some ⟨g_1, 0, none⟩)), (.agg #[(.int .i64 x_4.Kind), (.int .i64 x_4.Name), (.int .i64 x_4.Count), v_5]), (.int .i64 x_7), v_9, v_c] w0 fun v w1 => ∃ (I1 : Nat → Prop) (u_e : List Ent), v = (.int .i64 r.1) ∧ Hp ⟨w0, I0, blks E_2⟩ I1 u_e w1 ∧ qV w1 I1 g_1 u_e r.2
theorem ref41_Runner_tick_F_ok (n : Nat) (self : Runner_2 → Node → Int → (List Int) → (List Bool) → Option (Int × Runner_2)) (ih : ref41_Runner_tick_S self) : ref41_Runner_tick_S (ref41_Runner_tick_F n self) := by
  intro w0 I0 x_0 g_1 E_2 q_3 x_4 v_5 r_6 x_7 x_8 v_9 r_a x_b v_c r_d hp r h
  unfold ref41_Runner_tick_F at h
  refine enter Try.func41 rfl (Nat.le_of_ble_eq_true rfl) ?_
  generalize blks E_2 = B at hp ⊢
  obtain ⟨v_e, c_f, c_g, c_h, v_i, e_j, rfl, r_k, r_l, r_m, r_n, o_o⟩ := q_3
  have hp : Hp ⟨w0, I0, B⟩ I0 [some (g_1, ((Value.int .i64 x_0.T.Kind) :: ((Value.int .i64 x_0.T.Name) :: ((Value.int .i64 x_0.T.Count) :: (v_e :: (c_f ++ (c_g ++ (c_h ++ (v_i :: [])))))))), 65), e_j] w0 := hp
  apply go
  apply go
  refine ev_boxI hp rfl rfl ?_
  intro p_p I_q w_r hp hs a_s
  replace r_a := r_a.step hs
  replace r_d := r_d.step hs
  replace r_6 := r_6.step hs
  replace r_k := r_k.step hs
  replace r_l := r_l.step hs
  replace r_m := r_m.step hs
  replace r_n := r_n.step hs
  replace o_o := o_o.step hs
  obtain ⟨y_t, q_u, h⟩ := bind_some h
  refine W.cut (γ := ((List Int) × Value × Ent × (Nat → Prop))) (fun g => [(0, (.pointer (some ⟨g_1, 0, none⟩))), (2, (.int .i64 x_7)), (3, v_9), (4, v_c), (6, (.pointer (some (p_p))))]) (fun g w' => y_t = (g.1) ∧ Hp ⟨w0, I0, B⟩ (g.2.2.2) [(g.2.2.1), some (g_1, ((Value.int .i64 x_0.T.Kind) :: ((Value.int .i64 x_0.T.Name) :: ((Value.int .i64 x_0.T.Count) :: (v_e :: (c_f ++ (c_g ++ (c_h ++ ((g.2.1) :: [])))))))), 65)] w' ∧ RepS dNode w' (g.2.2.2) v_e x_0.T.Kids ∧ (dA 64 (dI .i64)).rep w' (g.2.2.2) c_f x_0.Counters ∧ (dA 64 dB).rep w' (g.2.2.2) c_g x_0.On ∧ (dA 64 (dI .i64)).rep w' (g.2.2.2) c_h x_0.Status ∧ OwnS (dI .i64) 3 w' (g.2.2.2) (g.2.1) (g.2.2.1) (g.1) ∧ RepS (dI .i64) w' (g.2.2.2) v_9 x_8 ∧ RepS dB w' (g.2.2.2) v_c x_b ∧ RepS dNode w' (g.2.2.2) v_5 x_4.Kids ∧ At w' (g.2.2.2) p_p [(.int .i64 x_4.Kind), (.int .i64 x_4.Name), (.int .i64 x_4.Count), v_5]) ?_ ?_
  ·
    apply go
    apply go
    refine ev0 (rn_field rfl rfl FO24_0) ?_
    refine ev (rn_load rfl rfl (run_loadVar1 T3 (a_s.2 0 _ rfl))) ?_
    apply go
    refine sel_of (fun hc => ?_) (fun hc => ?_)
    ·
      have q_u := cond_t q_u hc
      apply go
      refine ev0 (rn_field rfl rfl FO65_4) ?_
      refine ev (rn_load rfl rfl (run_loadVar1 T39 (hp.cell (i := 0) (off := 196) rfl (show (((Value.int .i64 x_0.T.Kind) :: ((Value.int .i64 x_0.T.Name) :: ((Value.int .i64 x_0.T.Count) :: (v_e :: (c_f ++ (c_g ++ (c_h ++ (v_i :: [])))))))) : List Value)[196]? = some _ from (gt_cons (n := 195) (by omega) (gt_cons (n := 194) (by omega) (gt_cons (n := 193) (by omega) (gt_cons (n := 192) (by omega) (gt_skip (n := 128) (Desc.len _ r_l) (by show _ = 64 + _; omega) (gt_skip (n := 64) (Desc.len _ r_m) (by show _ = 64 + _; omega) (gt_skip (n := 0) (Desc.len _ r_n) (by show _ = 64 + _; omega) gt_here))))))))))) ?_
      refine ev_litN (d := (dI .i64)) (xs := [x_7]) (cs := [(.int .i64 x_7)]) hp rfl rfl Try.underlying39 T3 (by decide) rfl rfl (Elems.cons (d := (dI .i64)) (xs := _) rfl (Elems.nil _ _ _ _)) ?_
      intro v_v I_w w_x hp hs r_y
      replace r_a := r_a.step hs
      replace r_d := r_d.step hs
      replace a_s := a_s.step hs
      replace r_6 := r_6.step hs
      replace o_o := o_o.step hs
      replace r_k := r_k.step hs
      replace r_l := r_l.step hs
      replace r_m := r_m.step hs
      replace r_n := r_n.step hs
      obtain ⟨x_z, q_10, q_u⟩ := bind_some q_u
      refine ev_append hp (i := 1) rfl rfl rfl rfl Try.underlying39 T3 rfl rfl o_o r_y q_10 ?_
      rintro v_11 e_12 w_13 hp hs o_14
      replace r_a := r_a.step hs
      replace r_d := r_d.step hs
      replace a_s := a_s.step hs
      replace r_6 := r_6.step hs
      replace r_k := r_k.step hs
      replace r_l := r_l.step hs
      replace r_m := r_m.step hs
      replace r_n := r_n.step hs
      replace o_o := o_o.step hs
      refine ev0 (rn_field rfl rfl FO65_4) ?_
      refine ev_store1 hp (i := 0) (off := 196) rfl rfl rfl rfl T39 o_14.one (by simp only [List.length_cons, List.length_append, List.length_nil, Desc.len _ r_l, Desc.len _ r_m, Desc.len _ r_n]; exact Nat.le_of_ble_eq_true rfl) ?_
      intro w_15 hp hs
      replace hp := (show (((Value.int .i64 x_0.T.Kind) :: ((Value.int .i64 x_0.T.Name) :: ((Value.int .i64 x_0.T.Count) :: (v_e :: (c_f ++ (c_g ++ (c_h ++ (v_i :: [])))))))) : List Value).set 196 v_11 = ((Value.int .i64 x_0.T.Kind) :: ((Value.int .i64 x_0.T.Name) :: ((Value.int .i64 x_0.T.Count) :: (v_e :: (c_f ++ (c_g ++ (c_h ++ (v_11 :: [])))))))) from (st_cons (n := 195) (by omega) (st_cons (n := 194) (by omega) (st_cons (n := 193) (by omega) (st_cons (n := 192) (by omega) (st_skip (n := 128) (Desc.len _ r_l) (by show _ = 64 + _; omega) (st_skip (n := 64) (Desc.len _ r_m) (by show _ = 64 + _; omega) (st_skip (n := 0) (Desc.len _ r_n) (by show _ = 64 + _; omega) st_here1)))))))) ▸ hp
      replace r_a := r_a.step hs
      replace r_d := r_d.step hs
      replace a_s := a_s.step hs
      replace r_6 := r_6.step hs
      replace r_k := r_k.step hs
      replace r_l := r_l.step hs
      replace r_m := r_m.step hs
      replace r_n := r_n.step hs
      replace o_14 := o_14.step hs
      obtain rfl := Option.some.inj q_u
      have hp := hp.perm [1, 0] (by decide)
      exact ⟨(x_z, v_11, e_12, I_w), (.c rfl (.c rfl (.c rfl (.c rfl (.c rfl .n))))), rfl, hp, r_k, r_l, r_m, r_n, o_14, r_a, r_d, r_6, a_s⟩
    ·
      have q_u := cond_f q_u hc
      apply go
      obtain rfl := Option.some.inj q_u
      have hp := hp.perm [1, 0] (by decide)
      exact ⟨(x_0.Ticked, v_i, e_j, I_q), (.c rfl (.c rfl (.c rfl (.c rfl (.c rfl .n))))), rfl, hp, r_k, r_l, r_m, r_n, o_o, r_a, r_d, r_6, a_s⟩
  ·
    rintro ⟨x_16, v_17, e_18, I_19⟩ w_1a ⟨hy, hp, r_k, r_l, r_m, r_n, o_1b, r_a, r_d, r_6, a_s⟩
    replace hy := hy.symm
    subst hy
    apply go
    obtain ⟨y_1c, q_1d, h⟩ := bind_some h
    refine W.cut (γ := Bool) (fun g => [(0, (.pointer (some ⟨g_1, 0, none⟩))), (2, (.int .i64 x_7)), (3, v_9), (4, v_c), (6, (.pointer (some (p_p)))), (36, (.bool (g)))]) (fun g w' => y_1c = (g) ∧ w_1a = w') ?_ ?_
    ·
      apply go
      refine ev0 (rn_field rfl rfl FO24_0) ?_
      refine ev (rn_load rfl rfl (run_loadVar1 T3 (a_s.2 0 _ rfl))) ?_
      refine sel_of (fun hc => ?_) (fun hc => ?_)
      ·
        have q_1d := cond_t q_1d hc
        obtain rfl := Option.some.inj q_1d
        exact ⟨true, (.c rfl (.c rfl (.c rfl (.c rfl (.c rfl (.c rfl .n)))))), rfl, rfl⟩
      ·
        have q_1d := cond_f q_1d hc
        refine ev0 (rn_field rfl rfl FO24_0) ?_
        refine ev (rn_load rfl rfl (run_loadVar1 T3 (a_s.2 0 _ rfl))) ?_
        obtain rfl := Option.some.inj q_1d
        exact ⟨(x_4.Kind == 2), (.c rfl (.c rfl (.c rfl (.c rfl (.c rfl (.c rfl .n)))))), rfl, rfl⟩
    ·
      rintro x_1e _ ⟨hy, rfl⟩
      replace hy := hy.symm
      subst hy
      apply go
      refine sel_of (fun hc => ?_) (fun hc => ?_)
      ·
        have h := cond_t h hc
        apply go
        apply go
        refine ev (rn_load rfl rfl (run_loadVarA T24 rfl a_s)) ?_
        obtain ⟨x_1f, q_1g, h⟩ := bind_some h
        refine ev_call rfl rfl C48 (((ref41_leaf_ok n) _ _  (Node.mk x_4.Kind x_4.Name x_4.Count x_4.Kids) v_5 r_6 x_8 v_9 r_a x_b v_c r_d hp.imm _ q_1g).mono ?_)
        rintro _ w_1h ⟨rfl, hc⟩
        have hs := hp.stp hc
        replace hp := hp.ext hc
        replace r_k := r_k.step hs
        replace r_l := r_l.step hs
        replace r_m := r_m.step hs
        replace r_n := r_n.step hs
        replace o_1b := o_1b.step hs
        obtain ⟨⟨x_1i, x_1j⟩, q_1k, h⟩ := bind_some h
        refine ev_call rfl rfl C47 (((ref41_Runner_done_ok n) _ _  (Runner_2.mk (Node.mk x_0.T.Kind x_0.T.Name x_0.T.Count x_0.T.Kids) x_0.Counters x_0.On x_0.Status x_16) g_1 [some (g_1, ((Value.int .i64 x_0.T.Kind) :: ((Value.int .i64 x_0.T.Name) :: ((Value.int .i64 x_0.T.Count) :: (v_e :: (c_f ++ (c_g ++ (c_h ++ (v_17 :: [])))))))), 65), e_18] ⟨v_e, c_f, c_g, c_h, v_17, e_18, rfl, r_k, r_l, r_m, r_n, o_1b⟩ x_7 x_1f (hp.lendL [1, 0] (by decide)) _ q_1k).mono ?_)
        rintro _ w_1l ⟨I_1m, F_1n, hv, hq6873, q_1o⟩
        replace hv := hv.symm
        subst hv
        obtain ⟨v_1p, c_1q, c_1r, c_1s, v_1t, e_1u, rfl, r_1v, r_1w, r_1x, r_1y, o_1z⟩ := q_1o
        have hs := hq6873.st
        have hp := hp.backL [1, 0] [] (by decide) hq6873
        apply go
        obtain rfl := Option.some.inj h
        exact ⟨I_1m, [some (g_1, ((Value.int .i64 x_1j.T.Kind) :: ((Value.int .i64 x_1j.T.Name) :: ((Value.int .i64 x_1j.T.Count) :: (v_1p :: (c_1q ++ (c_1r ++ (c_1s ++ (v_1t :: [])))))))), 65), e_1u], rfl, hp, ⟨v_1p, c_1q, c_1r, c_1s, v_1t, e_1u, rfl, r_1v, r_1w, r_1x, r_1y, o_1z⟩⟩
      ·
        have h := cond_f h hc
        apply go
        apply go
        apply go
        apply go
        apply go
        obtain ⟨y_20, q_21, h⟩ := bind_some h
        refine W.cut (γ := (Int × Int × Int × (List Node) × (List Int) × (List Bool) × (List Int) × (List Int) × Int × Int × Int × Value × (List Value) × (List Value) × (List Value) × Value × Ent × (Nat → Prop))) (fun g => [(0, (.pointer (some ⟨g_1, 0, none⟩))), (2, (.int .i64 x_7)), (6, (.pointer (some (p_p)))), (12, (.int .i64 (g.2.2.2.2.2.2.2.2.1))), (13, (.int .i64 (g.2.2.2.2.2.2.2.2.2.1))), (14, (.int .i64 (g.2.2.2.2.2.2.2.2.2.2.1)))]) (fun g w' => y_20 = .go ((g.1), (g.2.1), (g.2.2.1), (g.2.2.2.1), (g.2.2.2.2.1), (g.2.2.2.2.2.1), (g.2.2.2.2.2.2.1), (g.2.2.2.2.2.2.2.1), (g.2.2.2.2.2.2.2.2.1), (g.2.2.2.2.2.2.2.2.2.1), (g.2.2.2.2.2.2.2.2.2.2.1)) ∧ Hp ⟨w0, I0, B⟩ (g.2.2.2.2.2.2.2.2.2.2.2.2.2.2.2.2.2) [(g.2.2.2.2.2.2.2.2.2.2.2.2.2.2.2.2.1), some (g_1, ((Value.int .i64 (g.1)) :: ((Value.int .i64 (g.2.1)) :: ((Value.int .i64 (g.2.2.1)) :: ((g.2.2.2.2.2.2.2.2.2.2.2.1) :: ((g.2.2.2.2.2.2.2.2.2.2.2.2.1) ++ ((g.2.2.2.2.2.2.2.2.2.2.2.2.2.1) ++ ((g.2.2.2.2.2.2.2.2.2.2.2.2.2.2.1) ++ ((g.2.2.2.2.2.2.2.2.2.2.2.2.2.2.2.1) :: [])))))))), 65)] w' ∧ RepS dNode w' (g.2.2.2.2.2.2.2.2.2.2.2.2.2.2.2.2.2) (g.2.2.2.2.2.2.2.2.2.2.2.1) (g.2.2.2.1) ∧ (dA 64 (dI .i64)).rep w' (g.2.2.2.2.2.2.2.2.2.2.2.2.2.2.2.2.2) (g.2.2.2.2.2.2.2.2.2.2.2.2.1) (g.2.2.2.2.1) ∧ (dA 64 dB).rep w' (g.2.2.2.2.2.2.2.2.2.2.2.2.2.2.2.2.2) (g.2.2.2.2.2.2.2.2.2.2.2.2.2.1) (g.2.2.2.2.2.1) ∧ (dA 64 (dI .i64)).rep w' (g.2.2.2.2.2.2.2.2.2.2.2.2.2.2.2.2.2) (g.2.2.2.2.2.2.2.2.2.2.2.2.2.2.1) (g.2.2.2.2.2.2.1) ∧ OwnS (dI .i64) 3 w' (g.2.2.2.2.2.2.2.2.2.2.2.2.2.2.2.2.2) (g.2.2.2.2.2.2.2.2.2.2.2.2.2.2.2.1) (g.2.2.2.2.2.2.2.2.2.2.2.2.2.2.2.2.1) (g.2.2.2.2.2.2.2.1) ∧ RepS dNode w' (g.2.2.2.2.2.2.2.2.2.2.2.2.2.2.2.2.2) v_5 x_4.Kids ∧ At w' (g.2.2.2.2.2.2.2.2.2.2.2.2.2.2.2.2.2) p_p [(.int .i64 x_4.Kind), (.int .i64 x_4.Name), (.int .i64 x_4.Count), v_5]) ?_ ?_
        ·
          apply go
          apply go
          apply go
          refine W.loop q_21 (γ := (Value × (List Value) × (List Value) × (List Value) × Value × Ent × (Nat → Prop))) (fun s g => [(0, (.pointer (some ⟨g_1, 0, none⟩))), (2, (.int .i64 x_7)), (3, v_9), (4, v_c), (6, (.pointer (some (p_p)))), (11, (.int .i64 (s.2.2.2.2.2.2.2.2.1))), (12, (.int .i64 (s.2.2.2.2.2.2.2.2.2.1))), (13, (.int .i64 (s.2.2.2.2.2.2.2.2.2.2.1))), (14, (.int .i64 (s.2.2.2.2.2.2.2.2.2.2.2.1))), (15, (.int .i64 (s.2.2.2.2.2.2.2.2.2.2.2.2)))]) (fun s g w' => Hp ⟨w0, I0, B⟩ (g.2.2.2.2.2.2) [(g.2.2.2.2.2.1), some (g_1, ((Value.int .i64 (s.1)) :: ((Value.int .i64 (s.2.1)) :: ((Value.int .i64 (s.2.2.1)) :: ((g.1) :: ((g.2.1) ++ ((g.2.2.1) ++ ((g.2.2.2.1) ++ ((g.2.2.2.2.1) :: [])))))))), 65)] w' ∧ RepS dNode w' (g.2.2.2.2.2.2) (g.1) (s.2.2.2.1) ∧ (dA 64 (dI .i64)).rep w' (g.2.2.2.2.2.2) (g.2.1) (s.2.2.2.2.1) ∧ (dA 64 dB).rep w' (g.2.2.2.2.2.2) (g.2.2.1) (s.2.2.2.2.2.1) ∧ (dA 64 (dI .i64)).rep w' (g.2.2.2.2.2.2) (g.2.2.2.1) (s.2.2.2.2.2.2.1) ∧ OwnS (dI .i64) 3 w' (g.2.2.2.2.2.2) (g.2.2.2.2.1) (g.2.2.2.2.2.1) (s.2.2.2.2.2.2.2.1) ∧ RepS (dI .i64) w' (g.2.2.2.2.2.2) v_9 x_8 ∧ RepS dB w' (g.2.2.2.2.2.2) v_c x_b ∧ RepS dNode w' (g.2.2.2.2.2.2) v_5 x_4.Kids ∧ At w' (g.2.2.2.2.2.2) p_p [(.int .i64 x_4.Kind), (.int .i64 x_4.Name), (.int .i64 x_4.Count), v_5]) (v_e, c_f, c_g, c_h, v_17, e_18, I_19) (.c rfl (.c rfl (.c rfl (.c rfl (.c rfl (.c rfl (.c rfl (.c rfl (.c rfl (.c rfl .n)))))))))) ⟨hp, r_k, r_l, r_m, r_n, o_1b, r_a, r_d, r_6, a_s⟩ ?_
          rintro ⟨x_22, x_23, x_24, x_25, x_26, x_27, x_28, x_29, x_2a, x_2b, x_2c, x_2d, x_2e⟩ ⟨v_2f, c_2g, c_2h, c_2i, v_2j, e_2k, I_2l⟩ w_2m y_2n ⟨hp, r_2o, r_2p, r_2q, r_2r, o_2s, r_a, r_d, r_6, a_s⟩ q_2t q_2u
          unfold ref41_Runner_tick_L1 at q_2t
          apply go
          apply go
          apply go
          refine ev0 (rn_field rfl rfl FO24_3) ?_
          refine ev (rn_load rfl rfl (run_loadVar1 T22 (a_s.2 3 _ rfl))) ?_
          refine ev0 (rn_len rfl rfl Try.underlying22 r_6) ?_
          apply go
          refine sel_of (fun hc => ?_) (fun hc => ?_)
          ·
            have q_2t := cond_t q_2t hc
            apply go
            apply go
            apply go
            apply go
            apply go
            refine ev0 (rn_field rfl rfl FO24_3) ?_
            refine ev (rn_load rfl rfl (run_loadVar1 T22 (a_s.2 3 _ rfl))) ?_
            obtain ⟨x_2v, q_2w, q_2t⟩ := bind_some q_2t
            refine ev_index rfl rfl rfl Try.underlying22 T24 r_6 q_2w ?_
            intro p_2x c_2y d_2z a_30
            obtain ⟨v_31, rfl, r_32⟩ := dNode_o d_2z
            refine ev (rn_load rfl rfl (run_loadVarA T24 rfl a_30)) ?_
            obtain ⟨⟨x_33, x_34⟩, q_35, q_2t⟩ := bind_some q_2t
            refine ev_call rfl rfl C41 ((ih _ _  (Runner_2.mk (Node.mk x_22 x_23 x_24 x_25) x_26 x_27 x_28 x_29) g_1 [some (g_1, ((Value.int .i64 x_22) :: ((Value.int .i64 x_23) :: ((Value.int .i64 x_24) :: (v_2f :: (c_2g ++ (c_2h ++ (c_2i ++ (v_2j :: [])))))))), 65), e_2k] ⟨v_2f, c_2g, c_2h, c_2i, v_2j, e_2k, rfl, r_2o, r_2p, r_2q, r_2r, o_2s⟩ (Node.mk x_2v.Kind x_2v.Name x_2v.Count x_2v.Kids) v_31 r_32 x_2a x_8 v_9 r_a x_b v_c r_d (hp.lendL [1, 0] (by decide)) _ q_35).mono ?_)
            rintro _ w_36 ⟨I_37, F_38, hv, hq7366, q_39⟩
            replace hv := hv.symm
            subst hv
            obtain ⟨v_3a, c_3b, c_3c, c_3d, v_3e, e_3f, rfl, r_3g, r_3h, r_3i, r_3j, o_3k⟩ := q_39
            have hs := hq7366.st
            have hp := hp.backL [1, 0] [] (by decide) hq7366
            replace r_a := r_a.step hs
            replace r_d := r_d.step hs
            replace a_s := a_s.step hs
            replace r_6 := r_6.step hs
            apply go
            apply go
            refine ev0 (rn_field rfl rfl FO24_3) ?_
            refine ev (rn_load rfl rfl (run_loadVar1 T22 (a_s.2 3 _ rfl))) ?_
            obtain ⟨x_3l, q_3m, q_2t⟩ := bind_some q_2t
            refine ev_index rfl rfl rfl Try.underlying22 T24 r_6 q_3m ?_
            intro p_3n c_3o d_3p a_3q
            obtain ⟨v_3r, rfl, r_3s⟩ := dNode_o d_3p
            refine ev (rn_load rfl rfl (run_loadVarA T24 rfl a_3q)) ?_
            obtain ⟨x_3t, q_3u, q_2t⟩ := bind_some q_2t
            refine ev_call rfl rfl C11 (((ref41_Size_ok n) _ _  (Node.mk x_3l.Kind x_3l.Name x_3l.Count x_3l.Kids) v_3r r_3s hp.imm _ q_3u).mono ?_)
            rintro _ w_3v ⟨rfl, hc⟩
            have hs := hp.stp hc
            replace hp := hp.ext hc
            replace r_a := r_a.step hs
            replace r_d := r_d.step hs
            replace a_s := a_s.step hs
            replace r_6 := r_6.step hs
            replace r_3g := r_3g.step hs
            replace r_3h := r_3h.step hs
            replace r_3i := r_3i.step hs
            replace r_3j := r_3j.step hs
            replace o_3k := o_3k.step hs
            obtain ⟨y_3w, q_3x, q_2t⟩ := bind_some q_2t
            refine W.cut (γ := Int) (fun g => [(0, (.pointer (some ⟨g_1, 0, none⟩))), (2, (.int .i64 x_7)), (3, v_9), (4, v_c), (6, (.pointer (some (p_p)))), (11, (.int .i64 (IntKind.i64.wrap (x_2a + x_3t)))), (12, (.int .i64 (g))), (13, (.int .i64 x_2c)), (14, (.int .i64 x_33)), (15, (.int .i64 x_2e))]) (fun g w' => y_3w = (g) ∧ w_3v = w') ?_ ?_
            ·
              apply go
              apply go
              apply go
              refine sel_of (fun hc => ?_) (fun hc => ?_)
              ·
                have q_3x := cond_t q_3x hc
                apply go
                obtain rfl := Option.some.inj q_3x
                exact ⟨(IntKind.i64.wrap (x_2b + 1)), (.c rfl (.c rfl (.c rfl (.c rfl (.c rfl (.c rfl (.c rfl (.c rfl (.c rfl (.c rfl .n)))))))))), rfl, rfl⟩
              ·
                have q_3x := cond_f q_3x hc
                apply go
                obtain rfl := Option.some.inj q_3x
                exact ⟨x_2b, (.c rfl (.c rfl (.c rfl (.c rfl (.c rfl (.c rfl (.c rfl (.c rfl (.c rfl (.c rfl .n)))))))))), rfl, rfl⟩
            ·
              rintro x_3y _ ⟨hy, rfl⟩
              replace hy := hy.symm
              subst hy
              obtain ⟨y_3z, q_40, q_2t⟩ := bind_some q_2t
              refine W.cut (γ := Int) (fun g => [(0, (.pointer (some ⟨g_1, 0, none⟩))), (2, (.int .i64 x_7)), (3, v_9), (4, v_c), (6, (.pointer (some (p_p)))), (11, (.int .i64 (IntKind.i64.wrap (x_2a + x_3t)))), (12, (.int .i64 x_3y)), (13, (.int .i64 (g))), (14, (.int .i64 x_33)), (15, (.int .i64 x_2e))]) (fun g w' => y_3z = (g) ∧ w_3v = w') ?_ ?_
              ·
                apply go
                apply go
                apply go
                refine sel_of (fun hc => ?_) (fun hc => ?_)
                ·
                  have q_40 := cond_t q_40 hc
                  apply go
                  obtain rfl := Option.some.inj q_40
                  exact ⟨(IntKind.i64.wrap (x_2c + 1)), (.c rfl (.c rfl (.c rfl (.c rfl (.c rfl (.c rfl (.c rfl (.c rfl (.c rfl (.c rfl .n)))))))))), rfl, rfl⟩
                ·
                  have q_40 := cond_f q_40 hc
                  apply go
                  obtain rfl := Option.some.inj q_40
                  exact ⟨x_2c, (.c rfl (.c rfl (.c rfl (.c rfl (.c rfl (.c rfl (.c rfl (.c rfl (.c rfl (.c rfl .n)))))))))), rfl, rfl⟩
              ·
                rintro x_41 _ ⟨hy, rfl⟩
                replace hy := hy.symm
                subst hy
                obtain ⟨y_42, q_43, q_2t⟩ := bind_some q_2t
                refine W.cut (γ := Bool) (fun g => [(0, (.pointer (some ⟨g_1, 0, none⟩))), (2, (.int .i64 x_7)), (3, v_9), (4, v_c), (6, (.pointer (some (p_p)))), (11, (.int .i64 (IntKind.i64.wrap (x_2a + x_3t)))), (12, (.int .i64 x_3y)), (13, (.int .i64 x_41)), (14, (.int .i64 x_33)), (15, (.int .i64 x_2e)), (94, (.bool (g)))]) (fun g w' => y_42 = (g) ∧ w_3v = w') ?_ ?_
                ·
                  apply go
                  refine ev0 (rn_field rfl rfl FO24_0) ?_
                  refine ev (rn_load rfl rfl (run_loadVar1 T3 (a_s.2 0 _ rfl))) ?_
                  refine sel_of (fun hc => ?_) (fun hc => ?_)
                  ·
                    have q_43 := cond_t q_43 hc
                    refine sel_of (fun hc => ?_) (fun hc => ?_)
                    ·
                      have q_43 := cond_t q_43 hc
                      obtain rfl := Option.some.inj q_43
                      exact ⟨true, (.c rfl (.c rfl (.c rfl (.c rfl (.c rfl (.c rfl (.c rfl (.c rfl (.c rfl (.c rfl (.c rfl .n))))))))))), rfl, rfl⟩
                    ·
                      have q_43 := cond_f q_43 hc
                      refine ev0 (rn_field rfl rfl FO24_0) ?_
                      refine ev (rn_load rfl rfl (run_loadVar1 T3 (a_s.2 0 _ rfl))) ?_
                      refine sel_of (fun hc => ?_) (fun hc => ?_)
                      ·
                        have q_43 := cond_t q_43 hc
                        obtain rfl := Option.some.inj q_43
                        exact ⟨(x_33 != 3), (.c rfl (.c rfl (.c rfl (.c rfl (.c rfl (.c rfl (.c rfl (.c rfl (.c rfl (.c rfl (.c rfl .n))))))))))), rfl, rfl⟩
                      ·
                        have q_43 := cond_f q_43 hc
                        obtain rfl := Option.some.inj q_43
                        exact ⟨false, (.c rfl (.c rfl (.c rfl (.c rfl (.c rfl (.c rfl (.c rfl (.c rfl (.c rfl (.c rfl (.c rfl .n))))))))))), rfl, rfl⟩
                  ·
                    have q_43 := cond_f q_43 hc
                    refine ev0 (rn_field rfl rfl FO24_0) ?_
                    refine ev (rn_load rfl rfl (run_loadVar1 T3 (a_s.2 0 _ rfl))) ?_
                    refine sel_of (fun hc => ?_) (fun hc => ?_)
                    ·
                      have q_43 := cond_t q_43 hc
                      obtain rfl := Option.some.inj q_43
                      exact ⟨(x_33 != 3), (.c rfl (.c rfl (.c rfl (.c rfl (.c rfl (.c rfl (.c rfl (.c rfl (.c rfl (.c rfl (.c rfl .n))))))))))), rfl, rfl⟩
                    ·
                      have q_43 := cond_f q_43 hc
                      obtain rfl := Option.some.inj q_43
                      exact ⟨false, (.c rfl (.c rfl (.c rfl (.c rfl (.c rfl (.c rfl (.c rfl (.c rfl (.c rfl (.c rfl (.c rfl .n))))))))))), rfl, rfl⟩
                ·
                  rintro x_44 _ ⟨hy, rfl⟩
                  replace hy := hy.symm
                  subst hy
                  apply go
                  refine sel_of (fun hc => ?_) (fun hc => ?_)
                  ·
                    have q_2t := cond_t q_2t hc
                    apply go
                    apply go
                    obtain ⟨⟨x_45, x_46⟩, q_47, q_2t⟩ := bind_some q_2t
                    refine ev_call rfl rfl C47 (((ref41_Runner_done_ok n) _ _  (Runner_2.mk (Node.mk x_34.T.Kind x_34.T.Name x_34.T.Count x_34.T.Kids) x_34.Counters x_34.On x_34.Status x_34.Ticked) g_1 [some (g_1, ((Value.int .i64 x_34.T.Kind) :: ((Value.int .i64 x_34.T.Name) :: ((Value.int .i64 x_34.T.Count) :: (v_3a :: (c_3b ++ (c_3c ++ (c_3d ++ (v_3e :: [])))))))), 65), e_3f] ⟨v_3a, c_3b, c_3c, c_3d, v_3e, e_3f, rfl, r_3g, r_3h, r_3i, r_3j, o_3k⟩ x_7 x_33 (hp.lendL [0, 1] (by decide)) _ q_47).mono ?_)
                    rintro _ w_48 ⟨I_49, F_4a, hv, hq7405, q_4b⟩
                    replace hv := hv.symm
                    subst hv
                    obtain ⟨v_4c, c_4d, c_4e, c_4f, v_4g, e_4h, rfl, r_4i, r_4j, r_4k, r_4l, o_4m⟩ := q_4b
                    have hs := hq7405.st
                    have hp := hp.backL [0, 1] [] (by decide) hq7405
                    apply go
                    have q_4n := congrArg some (q_2u _ (Option.some.inj q_2t).symm)
                    obtain rfl := Option.some.inj q_4n
                    obtain rfl := Option.some.inj h
                    exact ⟨I_49, [some (g_1, ((Value.int .i64 x_46.T.Kind) :: ((Value.int .i64 x_46.T.Name) :: ((Value.int .i64 x_46.T.Count) :: (v_4c :: (c_4d ++ (c_4e ++ (c_4f ++ (v_4g :: [])))))))), 65), e_4h], rfl, hp, ⟨v_4c, c_4d, c_4e, c_4f, v_4g, e_4h, rfl, r_4i, r_4j, r_4k, r_4l, o_4m⟩⟩
                  ·
                    have q_2t := cond_f q_2t hc
                    apply go
                    apply go
                    have hp := hp.perm [1, 0] (by decide)
                    exact ⟨_, (Option.some.inj q_2t).symm, (v_3a, c_3b, c_3c, c_3d, v_3e, e_3f, I_37), (.c rfl (.c rfl (.c rfl (.c rfl (.c rfl (.c rfl (.c rfl (.c rfl (.c rfl (.c rfl .n)))))))))), ⟨hp, r_3g, r_3h, r_3i, r_3j, o_3k, r_a, r_d, r_6, a_s⟩⟩
          ·
            have q_2t := cond_f q_2t hc
            apply go
            have q_4o := congrArg some (q_2u _ (Option.some.inj q_2t).symm)
            obtain rfl := Option.some.inj q_4o
            exact ⟨(x_22, x_23, x_24, x_25, x_26, x_27, x_28, x_29, x_2b, x_2c, x_2d, v_2f, c_2g, c_2h, c_2i, v_2j, e_2k, I_2l), (.c rfl (.c rfl (.c rfl (.c rfl (.c rfl (.c rfl .n)))))), rfl, hp, r_2o, r_2p, r_2q, r_2r, o_2s, r_6, a_s⟩
        ·
          rintro ⟨x_4p, x_4q, x_4r, x_4s, x_4t, x_4u, x_4v, x_4w, x_4x, x_4y, x_4z, v_50, c_51, c_52, c_53, v_54, e_55, I_56⟩ w_57 ⟨hy, hp, r_58, r_59, r_5a, r_5b, o_5c, r_6, a_s⟩
          replace hy := hy.symm
          subst hy
          apply go
          apply go
          apply go
          apply go
          refine ev0 (rn_field rfl rfl FO24_0) ?_
          refine ev (rn_load rfl rfl (run_loadVar1 T3 (a_s.2 0 _ rfl))) ?_
          apply go
          refine sel_of (fun hc => ?_) (fun hc => ?_)
          ·
            have h := cond_t h hc
            apply go
            apply go
            obtain ⟨⟨x_5d, x_5e⟩, q_5f, h⟩ := bind_some h
            refine ev_call rfl rfl C47 (((ref41_Runner_done_ok n) _ _  (Runner_2.mk (Node.mk x_4p x_4q x_4r x_4s) x_4t x_4u x_4v x_4w) g_1 [some (g_1, ((Value.int .i64 x_4p) :: ((Value.int .i64 x_4q) :: ((Value.int .i64 x_4r) :: (v_50 :: (c_51 ++ (c_52 ++ (c_53 ++ (v_54 :: [])))))))), 65), e_55] ⟨v_50, c_51, c_52, c_53, v_54, e_55, rfl, r_58, r_59, r_5a, r_5b, o_5c⟩ x_7 2 (hp.lendL [1, 0] (by decide)) _ q_5f).mono ?_)
            rintro _ w_5g ⟨I_5h, F_5i, hv, hq7426, q_5j⟩
            replace hv := hv.symm
            subst hv
            obtain ⟨v_5k, c_5l, c_5m, c_5n, v_5o, e_5p, rfl, r_5q, r_5r, r_5s, r_5t, o_5u⟩ := q_5j
            have hs := hq7426.st
            have hp := hp.backL [1, 0] [] (by decide) hq7426
            apply go
            obtain rfl := Option.some.inj h
            exact ⟨I_5h, [some (g_1, ((Value.int .i64 x_5e.T.Kind) :: ((Value.int .i64 x_5e.T.Name) :: ((Value.int .i64 x_5e.T.Count) :: (v_5k :: (c_5l ++ (c_5m ++ (c_5n ++ (v_5o :: [])))))))), 65), e_5p], rfl, hp, ⟨v_5k, c_5l, c_5m, c_5n, v_5o, e_5p, rfl, r_5q, r_5r, r_5s, r_5t, o_5u⟩⟩
          ·
            have h := cond_f h hc
            apply go
            apply go
            refine ev0 (rn_field rfl rfl FO24_0) ?_
            refine ev (rn_load rfl rfl (run_loadVar1 T3 (a_s.2 0 _ rfl))) ?_
            apply go
            refine sel_of (fun hc => ?_) (fun hc => ?_)
            ·
              have h := cond_t h hc
              apply go
              apply go
              obtain ⟨⟨x_5v, x_5w⟩, q_5x, h⟩ := bind_some h
              refine ev_call rfl rfl C47 (((ref41_Runner_done_ok n) _ _  (Runner_2.mk (Node.mk x_4p x_4q x_4r x_4s) x_4t x_4u x_4v x_4w) g_1 [some (g_1, ((Value.int .i64 x_4p) :: ((Value.int .i64 x_4q) :: ((Value.int .i64 x_4r) :: (v_50 :: (c_51 ++ (c_52 ++ (c_53 ++ (v_54 :: [])))))))), 65), e_55] ⟨v_50, c_51, c_52, c_53, v_54, e_55, rfl, r_58, r_59, r_5a, r_5b, o_5c⟩ x_7 3 (hp.lendL [1, 0] (by decide)) _ q_5x).mono ?_)
              rintro _ w_5y ⟨I_5z, F_60, hv, hq7445, q_61⟩
              replace hv := hv.symm
              subst hv
              obtain ⟨v_62, c_63, c_64, c_65, v_66, e_67, rfl, r_68, r_69, r_6a, r_6b, o_6c⟩ := q_61
              have hs := hq7445.st
              have hp := hp.backL [1, 0] [] (by decide) hq7445
              apply go
              obtain rfl := Option.some.inj h
              exact ⟨I_5z, [some (g_1, ((Value.int .i64 x_5w.T.Kind) :: ((Value.int .i64 x_5w.T.Name) :: ((Value.int .i64 x_5w.T.Count) :: (v_62 :: (c_63 ++ (c_64 ++ (c_65 ++ (v_66 :: [])))))))), 65), e_67], rfl, hp, ⟨v_62, c_63, c_64, c_65, v_66, e_67, rfl, r_68, r_69, r_6a, r_6b, o_6c⟩⟩
            ·
              have h := cond_f h hc
              obtain ⟨y_6d, q_6e, h⟩ := bind_some h
              refine W.cut (γ := Bool) (fun g => [(0, (.pointer (some ⟨g_1, 0, none⟩))), (2, (.int .i64 x_7)), (6, (.pointer (some (p_p)))), (13, (.int .i64 x_4y)), (14, (.int .i64 x_4z)), (113, (.bool (g)))]) (fun g w' => y_6d = (g) ∧ w_57 = w') ?_ ?_
              ·
                apply go
                refine ev0 (rn_field rfl rfl FO24_0) ?_
                refine ev (rn_load rfl rfl (run_loadVar1 T3 (a_s.2 0 _ rfl))) ?_
                refine sel_of (fun hc => ?_) (fun hc => ?_)
                ·
                  have q_6e := cond_t q_6e hc
                  refine ev0 (rn_field rfl rfl FO24_2) ?_
                  refine ev (rn_load rfl rfl (run_loadVar1 T3 (a_s.2 2 _ rfl))) ?_
                  obtain rfl := Option.some.inj q_6e
                  exact ⟨(decide (x_4x ≥ x_4.Count)), (.c rfl (.c rfl (.c rfl (.c rfl (.c rfl (.c rfl .n)))))), rfl, rfl⟩
                ·
                  have q_6e := cond_f q_6e hc
                  obtain rfl := Option.some.inj q_6e
                  exact ⟨false, (.c rfl (.c rfl (.c rfl (.c rfl (.c rfl (.c rfl .n)))))), rfl, rfl⟩
              ·
                rintro x_6f _ ⟨hy, rfl⟩
                replace hy := hy.symm
                subst hy
                apply go
                refine sel_of (fun hc => ?_) (fun hc => ?_)
                ·
                  have h := cond_t h hc
                  apply go
                  apply go
                  obtain ⟨⟨x_6g, x_6h⟩, q_6i, h⟩ := bind_some h
                  refine ev_call rfl rfl C47 (((ref41_Runner_done_ok n) _ _  (Runner_2.mk (Node.mk x_4p x_4q x_4r x_4s) x_4t x_4u x_4v x_4w) g_1 [some (g_1, ((Value.int .i64 x_4p) :: ((Value.int .i64 x_4q) :: ((Value.int .i64 x_4r) :: (v_50 :: (c_51 ++ (c_52 ++ (c_53 ++ (v_54 :: [])))))))), 65), e_55] ⟨v_50, c_51, c_52, c_53, v_54, e_55, rfl, r_58, r_59, r_5a, r_5b, o_5c⟩ x_7 2 (hp.lendL [1, 0] (by decide)) _ q_6i).mono ?_)
                  rintro _ w_6j ⟨I_6k, F_6l, hv, hq7467, q_6m⟩
                  replace hv := hv.symm
                  subst hv
                  obtain ⟨v_6n, c_6o, c_6p, c_6q, v_6r, e_6s, rfl, r_6t, r_6u, r_6v, r_6w, o_6x⟩ := q_6m
                  have hs := hq7467.st
                  have hp := hp.backL [1, 0] [] (by decide) hq7467
                  apply go
                  obtain rfl := Option.some.inj h
                  exact ⟨I_6k, [some (g_1, ((Value.int .i64 x_6h.T.Kind) :: ((Value.int .i64 x_6h.T.Name) :: ((Value.int .i64 x_6h.T.Count) :: (v_6n :: (c_6o ++ (c_6p ++ (c_6q ++ (v_6r :: [])))))))), 65), e_6s], rfl, hp, ⟨v_6n, c_6o, c_6p, c_6q, v_6r, e_6s, rfl, r_6t, r_6u, r_6v, r_6w, o_6x⟩⟩
                ·
                  have h := cond_f h hc
                  obtain ⟨y_6y, q_6z, h⟩ := bind_some h
                  refine W.cut (γ := Bool) (fun g => [(0, (.pointer (some ⟨g_1, 0, none⟩))), (2, (.int .i64 x_7)), (6, (.pointer (some (p_p)))), (14, (.int .i64 x_4z)), (126, (.bool (g)))]) (fun g w' => y_6y = (g) ∧ w_57 = w') ?_ ?_
                  ·
                    apply go
                    refine ev0 (rn_field rfl rfl FO24_0) ?_
                    refine ev (rn_load rfl rfl (run_loadVar1 T3 (a_s.2 0 _ rfl))) ?_
                    refine sel_of (fun hc => ?_) (fun hc => ?_)
                    ·
                      have q_6z := cond_t q_6z hc
                      refine ev0 (rn_field rfl rfl FO24_3) ?_
                      refine ev (rn_load rfl rfl (run_loadVar1 T22 (a_s.2 3 _ rfl))) ?_
                      refine ev0 (rn_len rfl rfl Try.underlying22 r_6) ?_
                      refine ev0 (rn_field rfl rfl FO24_2) ?_
                      refine ev (rn_load rfl rfl (run_loadVar1 T3 (a_s.2 2 _ rfl))) ?_
                      obtain rfl := Option.some.inj q_6z
                      exact ⟨(decide (x_4y > (IntKind.i64.wrap ((x_4.Kids.length : Int) - x_4.Count)))), (.c rfl (.c rfl (.c rfl (.c rfl (.c rfl .n))))), rfl, rfl⟩
                    ·
                      have q_6z := cond_f q_6z hc
                      obtain rfl := Option.some.inj q_6z
                      exact ⟨false, (.c rfl (.c rfl (.c rfl (.c rfl (.c rfl .n))))), rfl, rfl⟩
                  ·
                    rintro x_70 _ ⟨hy, rfl⟩
                    replace hy := hy.symm
                    subst hy
                    apply go
                    refine sel_of (fun hc => ?_) (fun hc => ?_)
                    ·
                      have h := cond_t h hc
                      apply go
                      apply go
                      obtain ⟨⟨x_71, x_72⟩, q_73, h⟩ := bind_some h
                      refine ev_call rfl rfl C47 (((ref41_Runner_done_ok n) _ _  (Runner_2.mk (Node.mk x_4p x_4q x_4r x_4s) x_4t x_4u x_4v x_4w) g_1 [some (g_1, ((Value.int .i64 x_4p) :: ((Value.int .i64 x_4q) :: ((Value.int .i64 x_4r) :: (v_50 :: (c_51 ++ (c_52 ++ (c_53 ++ (v_54 :: [])))))))), 65), e_55] ⟨v_50, c_51, c_52, c_53, v_54, e_55, rfl, r_58, r_59, r_5a, r_5b, o_5c⟩ x_7 3 (hp.lendL [1, 0] (by decide)) _ q_73).mono ?_)
                      rintro _ w_74 ⟨I_75, F_76, hv, hq7489, q_77⟩
                      replace hv := hv.symm
                      subst hv
                      obtain ⟨v_78, c_79, c_7a, c_7b, v_7c, e_7d, rfl, r_7e, r_7f, r_7g, r_7h, o_7i⟩ := q_77
                      have hs := hq7489.st
                      have hp := hp.backL [1, 0] [] (by decide) hq7489
                      apply go
                      obtain rfl := Option.some.inj h
                      exact ⟨I_75, [some (g_1, ((Value.int .i64 x_72.T.Kind) :: ((Value.int .i64 x_72.T.Name) :: ((Value.int .i64 x_72.T.Count) :: (v_78 :: (c_79 ++ (c_7a ++ (c_7b ++ (v_7c :: [])))))))), 65), e_7d], rfl, hp, ⟨v_78, c_79, c_7a, c_7b, v_7c, e_7d, rfl, r_7e, r_7f, r_7g, r_7h, o_7i⟩⟩
                    ·
                      have h := cond_f h hc
                      apply go
                      apply go
                      refine ev0 (rn_field rfl rfl FO24_0) ?_
                      refine ev (rn_load rfl rfl (run_loadVar1 T3 (a_s.2 0 _ rfl))) ?_
                      apply go
                      refine sel_of (fun hc => ?_) (fun hc => ?_)
                      ·
                        have h := cond_t h hc
                        apply go
                        apply go
                        obtain ⟨⟨x_7j, x_7k⟩, q_7l, h⟩ := bind_some h
                        refine ev_call rfl rfl C47 (((ref41_Runner_done_ok n) _ _  (Runner_2.mk (Node.mk x_4p x_4q x_4r x_4s) x_4t x_4u x_4v x_4w) g_1 [some (g_1, ((Value.int .i64 x_4p) :: ((Value.int .i64 x_4q) :: ((Value.int .i64 x_4r) :: (v_50 :: (c_51 ++ (c_52 ++ (c_53 ++ (v_54 :: [])))))))), 65), e_55] ⟨v_50, c_51, c_52, c_53, v_54, e_55, rfl, r_58, r_59, r_5a, r_5b, o_5c⟩ x_7 1 (hp.lendL [1, 0] (by decide)) _ q_7l).mono ?_)
                        rintro _ w_7m ⟨I_7n, F_7o, hv, hq7508, q_7p⟩
                        replace hv := hv.symm
                        subst hv
                        obtain ⟨v_7q, c_7r, c_7s, c_7t, v_7u, e_7v, rfl, r_7w, r_7x, r_7y, r_7z, o_80⟩ := q_7p
                        have hs := hq7508.st
                        have hp := hp.backL [1, 0] [] (by decide) hq7508
                        apply go
                        obtain rfl := Option.some.inj h
                        exact ⟨I_7n, [some (g_1, ((Value.int .i64 x_7k.T.Kind) :: ((Value.int .i64 x_7k.T.Name) :: ((Value.int .i64 x_7k.T.Count) :: (v_7q :: (c_7r ++ (c_7s ++ (c_7t ++ (v_7u :: [])))))))), 65), e_7v], rfl, hp, ⟨v_7q, c_7r, c_7s, c_7t, v_7u, e_7v, rfl, r_7w, r_7x, r_7y, r_7z, o_80⟩⟩
                      ·
                        have h := cond_f h hc
                        obtain ⟨y_81, q_82, h⟩ := bind_some h
                        refine W.cut (γ := Bool) (fun g => [(0, (.pointer (some ⟨g_1, 0, none⟩))), (2, (.int .i64 x_7)), (6, (.pointer (some (p_p)))), (14, (.int .i64 x_4z)), (150, (.bool (g)))]) (fun g w' => y_81 = (g) ∧ w_57 = w') ?_ ?_
                        ·
                          apply go
                          refine ev0 (rn_field rfl rfl FO24_0) ?_
                          refine ev (rn_load rfl rfl (run_loadVar1 T3 (a_s.2 0 _ rfl))) ?_
                          refine sel_of (fun hc => ?_) (fun hc => ?_)
                          ·
                            have q_82 := cond_t q_82 hc
                            obtain rfl := Option.some.inj q_82
                            exact ⟨(x_4z != 1), (.c rfl (.c rfl (.c rfl (.c rfl (.c rfl .n))))), rfl, rfl⟩
                          ·
                            have q_82 := cond_f q_82 hc
                            obtain rfl := Option.some.inj q_82
                            exact ⟨false, (.c rfl (.c rfl (.c rfl (.c rfl (.c rfl .n))))), rfl, rfl⟩
                        ·
                          rintro x_83 _ ⟨hy, rfl⟩
                          replace hy := hy.symm
                          subst hy
                          apply go
                          refine sel_of (fun hc => ?_) (fun hc => ?_)
                          ·
                            have h := cond_t h hc
                            apply go
                            apply go
                            obtain ⟨⟨x_84, x_85⟩, q_86, h⟩ := bind_some h
                            refine ev_call rfl rfl C47 (((ref41_Runner_done_ok n) _ _  (Runner_2.mk (Node.mk x_4p x_4q x_4r x_4s) x_4t x_4u x_4v x_4w) g_1 [some (g_1, ((Value.int .i64 x_4p) :: ((Value.int .i64 x_4q) :: ((Value.int .i64 x_4r) :: (v_50 :: (c_51 ++ (c_52 ++ (c_53 ++ (v_54 :: [])))))))), 65), e_55] ⟨v_50, c_51, c_52, c_53, v_54, e_55, rfl, r_58, r_59, r_5a, r_5b, o_5c⟩ x_7 (IntKind.i64.wrap (5 - x_4z)) (hp.lendL [1, 0] (by decide)) _ q_86).mono ?_)
                            rintro _ w_87 ⟨I_88, F_89, hv, hq7530, q_8a⟩
                            replace hv := hv.symm
                            subst hv
                            obtain ⟨v_8b, c_8c, c_8d, c_8e, v_8f, e_8g, rfl, r_8h, r_8i, r_8j, r_8k, o_8l⟩ := q_8a
                            have hs := hq7530.st
                            have hp := hp.backL [1, 0] [] (by decide) hq7530
                            apply go
                            obtain rfl := Option.some.inj h
                            exact ⟨I_88, [some (g_1, ((Value.int .i64 x_85.T.Kind) :: ((Value.int .i64 x_85.T.Name) :: ((Value.int .i64 x_85.T.Count) :: (v_8b :: (c_8c ++ (c_8d ++ (c_8e ++ (v_8f :: [])))))))), 65), e_8g], rfl, hp, ⟨v_8b, c_8c, c_8d, c_8e, v_8f, e_8g, rfl, r_8h, r_8i, r_8j, r_8k, o_8l⟩⟩
                          ·
                            have h := cond_f h hc
                            obtain ⟨y_8m, q_8n, h⟩ := bind_some h
                            refine W.cut (γ := (Int × Int × Int × (List Node) × (List Int) × (List Bool) × (List Int) × (List Int) × Bool × Value × (List Value) × (List Value) × (List Value) × Value × Ent × (Nat → Prop))) (fun g => [(0, (.pointer (some ⟨g_1, 0, none⟩))), (2, (.int .i64 x_7)), (6, (.pointer (some (p_p)))), (14, (.int .i64 x_4z)), (163, (.bool (g.2.2.2.2.2.2.2.2.1)))]) (fun g w' => y_8m = ((g.1), (g.2.1), (g.2.2.1), (g.2.2.2.1), (g.2.2.2.2.1), (g.2.2.2.2.2.1), (g.2.2.2.2.2.2.1), (g.2.2.2.2.2.2.2.1), (g.2.2.2.2.2.2.2.2.1)) ∧ Hp ⟨w0, I0, B⟩ (g.2.2.2.2.2.2.2.2.2.2.2.2.2.2.2) [(g.2.2.2.2.2.2.2.2.2.2.2.2.2.2.1), some (g_1, ((Value.int .i64 (g.1)) :: ((Value.int .i64 (g.2.1)) :: ((Value.int .i64 (g.2.2.1)) :: ((g.2.2.2.2.2.2.2.2.2.1) :: ((g.2.2.2.2.2.2.2.2.2.2.1) ++ ((g.2.2.2.2.2.2.2.2.2.2.2.1) ++ ((g.2.2.2.2.2.2.2.2.2.2.2.2.1) ++ ((g.2.2.2.2.2.2.2.2.2.2.2.2.2.1) :: [])))))))), 65)] w' ∧ RepS dNode w' (g.2.2.2.2.2.2.2.2.2.2.2.2.2.2.2) (g.2.2.2.2.2.2.2.2.2.1) (g.2.2.2.1) ∧ (dA 64 (dI .i64)).rep w' (g.2.2.2.2.2.2.2.2.2.2.2.2.2.2.2) (g.2.2.2.2.2.2.2.2.2.2.1) (g.2.2.2.2.1) ∧ (dA 64 dB).rep w' (g.2.2.2.2.2.2.2.2.2.2.2.2.2.2.2) (g.2.2.2.2.2.2.2.2.2.2.2.1) (g.2.2.2.2.2.1) ∧ (dA 64 (dI .i64)).rep w' (g.2.2.2.2.2.2.2.2.2.2.2.2.2.2.2) (g.2.2.2.2.2.2.2.2.2.2.2.2.1) (g.2.2.2.2.2.2.1) ∧ OwnS (dI .i64) 3 w' (g.2.2.2.2.2.2.2.2.2.2.2.2.2.2.2) (g.2.2.2.2.2.2.2.2.2.2.2.2.2.1) (g.2.2.2.2.2.2.2.2.2.2.2.2.2.2.1) (g.2.2.2.2.2.2.2.1) ∧ RepS dNode w' (g.2.2.2.2.2.2.2.2.2.2.2.2.2.2.2) v_5 x_4.Kids ∧ At w' (g.2.2.2.2.2.2.2.2.2.2.2.2.2.2.2) p_p [(.int .i64 x_4.Kind), (.int .i64 x_4.Name), (.int .i64 x_4.Count), v_5]) ?_ ?_
                            ·
                              apply go
                              refine ev0 (rn_field rfl rfl FO24_0) ?_
                              refine ev (rn_load rfl rfl (run_loadVar1 T3 (a_s.2 0 _ rfl))) ?_
                              refine sel_of (fun hc => ?_) (fun hc => ?_)
                              ·
                                have q_8n := cond_t q_8n hc
                                refine sel_of (fun hc => ?_) (fun hc => ?_)
                                ·
                                  have q_8n := cond_t q_8n hc
                                  refine ev0 (rn_field rfl rfl FO24_2) ?_
                                  refine ev (rn_load rfl rfl (run_loadVar1 T3 (a_s.2 2 _ rfl))) ?_
                                  obtain ⟨⟨x_8o, x_8p⟩, q_8q, q_8n⟩ := bind_some q_8n
                                  refine ev_call rfl rfl C49 (((ref41_Runner_count_ok n) _ _  (Runner_2.mk (Node.mk x_4p x_4q x_4r x_4s) x_4t x_4u x_4v x_4w) g_1 [some (g_1, ((Value.int .i64 x_4p) :: ((Value.int .i64 x_4q) :: ((Value.int .i64 x_4r) :: (v_50 :: (c_51 ++ (c_52 ++ (c_53 ++ (v_54 :: [])))))))), 65), e_55] ⟨v_50, c_51, c_52, c_53, v_54, e_55, rfl, r_58, r_59, r_5a, r_5b, o_5c⟩ x_7 x_4.Count (hp.lendL [1, 0] (by decide)) _ q_8q).mono ?_)
                                  rintro _ w_8r ⟨I_8s, F_8t, hv, hq7592, q_8u⟩
                                  replace hv := hv.symm
                                  subst hv
                                  obtain ⟨v_8v, c_8w, c_8x, c_8y, v_8z, e_90, rfl, r_91, r_92, r_93, r_94, o_95⟩ := q_8u
                                  have hs := hq7592.st
                                  have hp := hp.backL [1, 0] [] (by decide) hq7592
                                  replace a_s := a_s.step hs
                                  replace r_6 := r_6.step hs
                                  obtain rfl := Option.some.inj q_8n
                                  have hp := hp.perm [1, 0] (by decide)
                                  exact ⟨(x_8p.T.Kind, x_8p.T.Name, x_8p.T.Count, x_8p.T.Kids, x_8p.Counters, x_8p.On, x_8p.Status, x_8p.Ticked, x_8o, v_8v, c_8w, c_8x, c_8y, v_8z, e_90, I_8s), (.c rfl (.c rfl (.c rfl (.c rfl (.c rfl .n))))), rfl, hp, r_91, r_92, r_93, r_94, o_95, r_6, a_s⟩
                                ·
                                  have q_8n := cond_f q_8n hc
                                  obtain rfl := Option.some.inj q_8n
                                  exact ⟨(x_4p, x_4q, x_4r, x_4s, x_4t, x_4u, x_4v, x_4w, false, v_50, c_51, c_52, c_53, v_54, e_55, I_56), (.c rfl (.c rfl (.c rfl (.c rfl (.c rfl .n))))), rfl, hp, r_58, r_59, r_5a, r_5b, o_5c, r_6, a_s⟩
                              ·
                                have q_8n := cond_f q_8n hc
                                obtain rfl := Option.some.inj q_8n
                                exact ⟨(x_4p, x_4q, x_4r, x_4s, x_4t, x_4u, x_4v, x_4w, false, v_50, c_51, c_52, c_53, v_54, e_55, I_56), (.c rfl (.c rfl (.c rfl (.c rfl (.c rfl .n))))), rfl, hp, r_58, r_59, r_5a, r_5b, o_5c, r_6, a_s⟩
                            ·
                              rintro ⟨x_96, x_97, x_98, x_99, x_9a, x_9b, x_9c, x_9d, x_9e, v_9f, c_9g, c_9h, c_9i, v_9j, e_9k, I_9l⟩ w_9m ⟨hy, hp, r_9n, r_9o, r_9p, r_9q, o_9r, r_6, a_s⟩
                              replace hy := hy.symm
                              subst hy
                              apply go
                              refine sel_of (fun hc => ?_) (fun hc => ?_)
                              ·
                                have h := cond_t h hc
                                apply go
                                apply go
                                obtain ⟨⟨x_9s, x_9t⟩, q_9u, h⟩ := bind_some h
                                refine ev_call rfl rfl C47 (((ref41_Runner_done_ok n) _ _  (Runner_2.mk (Node.mk x_96 x_97 x_98 x_99) x_9a x_9b x_9c x_9d) g_1 [some (g_1, ((Value.int .i64 x_96) :: ((Value.int .i64 x_97) :: ((Value.int .i64 x_98) :: (v_9f :: (c_9g ++ (c_9h ++ (c_9i ++ (v_9j :: [])))))))), 65), e_9k] ⟨v_9f, c_9g, c_9h, c_9i, v_9j, e_9k, rfl, r_9n, r_9o, r_9p, r_9q, o_9r⟩ x_7 1 (hp.lendL [1, 0] (by decide)) _ q_9u).mono ?_)
                                rintro _ w_9v ⟨I_9w, F_9x, hv, hq7611, q_9y⟩
                                replace hv := hv.symm
                                subst hv
                                obtain ⟨v_9z, c_a0, c_a1, c_a2, v_a3, e_a4, rfl, r_a5, r_a6, r_a7, r_a8, o_a9⟩ := q_9y
                                have hs := hq7611.st
                                have hp := hp.backL [1, 0] [] (by decide) hq7611
                                apply go
                                obtain rfl := Option.some.inj h
                                exact ⟨I_9w, [some (g_1, ((Value.int .i64 x_9t.T.Kind) :: ((Value.int .i64 x_9t.T.Name) :: ((Value.int .i64 x_9t.T.Count) :: (v_9z :: (c_a0 ++ (c_a1 ++ (c_a2 ++ (v_a3 :: [])))))))), 65), e_a4], rfl, hp, ⟨v_9z, c_a0, c_a1, c_a2, v_a3, e_a4, rfl, r_a5, r_a6, r_a7, r_a8, o_a9⟩⟩
                              ·
                                have h := cond_f h hc
                                obtain ⟨y_aa, q_ab, h⟩ := bind_some h
                                refine W.cut (γ := (Int × Int × Int × (List Node) × (List Int) × (List Bool) × (List Int) × (List Int) × Bool × Value × (List Value) × (List Value) × (List Value) × Value × Ent × (Nat → Prop))) (fun g => [(0, (.pointer (some ⟨g_1, 0, none⟩))), (2, (.int .i64 x_7)), (14, (.int .i64 x_4z)), (181, (.bool (g.2.2.2.2.2.2.2.2.1)))]) (fun g w' => y_aa = ((g.1), (g.2.1), (g.2.2.1), (g.2.2.2.1), (g.2.2.2.2.1), (g.2.2.2.2.2.1), (g.2.2.2.2.2.2.1), (g.2.2.2.2.2.2.2.1), (g.2.2.2.2.2.2.2.2.1)) ∧ Hp ⟨w0, I0, B⟩ (g.2.2.2.2.2.2.2.2.2.2.2.2.2.2.2) [(g.2.2.2.2.2.2.2.2.2.2.2.2.2.2.1), some (g_1, ((Value.int .i64 (g.1)) :: ((Value.int .i64 (g.2.1)) :: ((Value.int .i64 (g.2.2.1)) :: ((g.2.2.2.2.2.2.2.2.2.1) :: ((g.2.2.2.2.2.2.2.2.2.2.1) ++ ((g.2.2.2.2.2.2.2.2.2.2.2.1) ++ ((g.2.2.2.2.2.2.2.2.2.2.2.2.1) ++ ((g.2.2.2.2.2.2.2.2.2.2.2.2.2.1) :: [])))))))), 65)] w' ∧ RepS dNode w' (g.2.2.2.2.2.2.2.2.2.2.2.2.2.2.2) (g.2.2.2.2.2.2.2.2.2.1) (g.2.2.2.1) ∧ (dA 64 (dI .i64)).rep w' (g.2.2.2.2.2.2.2.2.2.2.2.2.2.2.2) (g.2.2.2.2.2.2.2.2.2.2.1) (g.2.2.2.2.1) ∧ (dA 64 dB).rep w' (g.2.2.2.2.2.2.2.2.2.2.2.2.2.2.2) (g.2.2.2.2.2.2.2.2.2.2.2.1) (g.2.2.2.2.2.1) ∧ (dA 64 (dI .i64)).rep w' (g.2.2.2.2.2.2.2.2.2.2.2.2.2.2.2) (g.2.2.2.2.2.2.2.2.2.2.2.2.1) (g.2.2.2.2.2.2.1) ∧ OwnS (dI .i64) 3 w' (g.2.2.2.2.2.2.2.2.2.2.2.2.2.2.2) (g.2.2.2.2.2.2.2.2.2.2.2.2.2.1) (g.2.2.2.2.2.2.2.2.2.2.2.2.2.2.1) (g.2.2.2.2.2.2.2.1)) ?_ ?_
                                ·
                                  apply go
                                  refine ev0 (rn_field rfl rfl FO24_0) ?_
                                  refine ev (rn_load rfl rfl (run_loadVar1 T3 (a_s.2 0 _ rfl))) ?_
                                  refine sel_of (fun hc => ?_) (fun hc => ?_)
                                  ·
                                    have q_ab := cond_t q_ab hc
                                    refine sel_of (fun hc => ?_) (fun hc => ?_)
                                    ·
                                      have q_ab := cond_t q_ab hc
                                      refine ev0 (rn_field rfl rfl FO24_2) ?_
                                      refine ev (rn_load rfl rfl (run_loadVar1 T3 (a_s.2 2 _ rfl))) ?_
                                      obtain ⟨⟨x_ac, x_ad⟩, q_ae, q_ab⟩ := bind_some q_ab
                                      refine ev_call rfl rfl C49 (((ref41_Runner_count_ok n) _ _  (Runner_2.mk (Node.mk x_96 x_97 x_98 x_99) x_9a x_9b x_9c x_9d) g_1 [some (g_1, ((Value.int .i64 x_96) :: ((Value.int .i64 x_97) :: ((Value.int .i64 x_98) :: (v_9f :: (c_9g ++ (c_9h ++ (c_9i ++ (v_9j :: [])))))))), 65), e_9k] ⟨v_9f, c_9g, c_9h, c_9i, v_9j, e_9k, rfl, r_9n, r_9o, r_9p, r_9q, o_9r⟩ x_7 x_4.Count (hp.lendL [1, 0] (by decide)) _ q_ae).mono ?_)
                                      rintro _ w_af ⟨I_ag, F_ah, hv, hq7673, q_ai⟩
                                      replace hv := hv.symm
                                      subst hv
                                      obtain ⟨v_aj, c_ak, c_al, c_am, v_an, e_ao, rfl, r_ap, r_aq, r_ar, r_as, o_at⟩ := q_ai
                                      have hs := hq7673.st
                                      have hp := hp.backL [1, 0] [] (by decide) hq7673
                                      obtain rfl := Option.some.inj q_ab
                                      have hp := hp.perm [1, 0] (by decide)
                                      exact ⟨(x_ad.T.Kind, x_ad.T.Name, x_ad.T.Count, x_ad.T.Kids, x_ad.Counters, x_ad.On, x_ad.Status, x_ad.Ticked, (!x_ac), v_aj, c_ak, c_al, c_am, v_an, e_ao, I_ag), (.c rfl (.c rfl (.c rfl (.c rfl .n)))), rfl, hp, r_ap, r_aq, r_ar, r_as, o_at⟩
                                    ·
                                      have q_ab := cond_f q_ab hc
                                      obtain rfl := Option.some.inj q_ab
                                      exact ⟨(x_96, x_97, x_98, x_99, x_9a, x_9b, x_9c, x_9d, false, v_9f, c_9g, c_9h, c_9i, v_9j, e_9k, I_9l), (.c rfl (.c rfl (.c rfl (.c rfl .n)))), rfl, hp, r_9n, r_9o, r_9p, r_9q, o_9r⟩
                                  ·
                                    have q_ab := cond_f q_ab hc
                                    obtain rfl := Option.some.inj q_ab
                                    exact ⟨(x_96, x_97, x_98, x_99, x_9a, x_9b, x_9c, x_9d, false, v_9f, c_9g, c_9h, c_9i, v_9j, e_9k, I_9l), (.c rfl (.c rfl (.c rfl (.c rfl .n)))), rfl, hp, r_9n, r_9o, r_9p, r_9q, o_9r⟩
                                ·
                                  rintro ⟨x_au, x_av, x_aw, x_ax, x_ay, x_az, x_b0, x_b1, x_b2, v_b3, c_b4, c_b5, c_b6, v_b7, e_b8, I_b9⟩ w_ba ⟨hy, hp, r_bb, r_bc, r_bd, r_be, o_bf⟩
                                  replace hy := hy.symm
                                  subst hy
                                  apply go
                                  refine sel_of (fun hc => ?_) (fun hc => ?_)
                                  ·
                                    have h := cond_t h hc
                                    apply go
                                    apply go
                                    obtain ⟨⟨x_bg, x_bh⟩, q_bi, h⟩ := bind_some h
                                    refine ev_call rfl rfl C47 (((ref41_Runner_done_ok n) _ _  (Runner_2.mk (Node.mk x_au x_av x_aw x_ax) x_ay x_az x_b0 x_b1) g_1 [some (g_1, ((Value.int .i64 x_au) :: ((Value.int .i64 x_av) :: ((Value.int .i64 x_aw) :: (v_b3 :: (c_b4 ++ (c_b5 ++ (c_b6 ++ (v_b7 :: [])))))))), 65), e_b8] ⟨v_b3, c_b4, c_b5, c_b6, v_b7, e_b8, rfl, r_bb, r_bc, r_bd, r_be, o_bf⟩ x_7 3 (hp.lendL [1, 0] (by decide)) _ q_bi).mono ?_)
                                    rintro _ w_bj ⟨I_bk, F_bl, hv, hq7692, q_bm⟩
                                    replace hv := hv.symm
                                    subst hv
                                    obtain ⟨v_bn, c_bo, c_bp, c_bq, v_br, e_bs, rfl, r_bt, r_bu, r_bv, r_bw, o_bx⟩ := q_bm
                                    have hs := hq7692.st
                                    have hp := hp.backL [1, 0] [] (by decide) hq7692
                                    apply go
                                    obtain rfl := Option.some.inj h
                                    exact ⟨I_bk, [some (g_1, ((Value.int .i64 x_bh.T.Kind) :: ((Value.int .i64 x_bh.T.Name) :: ((Value.int .i64 x_bh.T.Count) :: (v_bn :: (c_bo ++ (c_bp ++ (c_bq ++ (v_br :: [])))))))), 65), e_bs], rfl, hp, ⟨v_bn, c_bo, c_bp, c_bq, v_br, e_bs, rfl, r_bt, r_bu, r_bv, r_bw, o_bx⟩⟩
                                  ·
                                    have h := cond_f h hc
                                    apply go
                                    apply go
                                    apply go
                                    obtain ⟨⟨x_by, x_bz⟩, q_c0, h⟩ := bind_some h
                                    refine ev_call rfl rfl C47 (((ref41_Runner_done_ok n) _ _  (Runner_2.mk (Node.mk x_au x_av x_aw x_ax) x_ay x_az x_b0 x_b1) g_1 [some (g_1, ((Value.int .i64 x_au) :: ((Value.int .i64 x_av) :: ((Value.int .i64 x_aw) :: (v_b3 :: (c_b4 ++ (c_b5 ++ (c_b6 ++ (v_b7 :: [])))))))), 65), e_b8] ⟨v_b3, c_b4, c_b5, c_b6, v_b7, e_b8, rfl, r_bb, r_bc, r_bd, r_be, o_bf⟩ x_7 x_4z (hp.lendL [1, 0] (by decide)) _ q_c0).mono ?_)
                                    rintro _ w_c1 ⟨I_c2, F_c3, hv, hq7711, q_c4⟩
                                    replace hv := hv.symm
                                    subst hv
                                    obtain ⟨v_c5, c_c6, c_c7, c_c8, v_c9, e_ca, rfl, r_cb, r_cc, r_cd, r_ce, o_cf⟩ := q_c4
                                    have hs := hq7711.st
                                    have hp := hp.backL [1, 0] [] (by decide) hq7711
                                    apply go
                                    obtain rfl := Option.some.inj h
                                    exact ⟨I_c2, [some (g_1, ((Value.int .i64 x_bz.T.Kind) :: ((Value.int .i64 x_bz.T.Name) :: ((Value.int .i64 x_bz.T.Count) :: (v_c5 :: (c_c6 ++ (c_c7 ++ (c_c8 ++ (v_c9 :: [])))))))), 65), e_ca], rfl, hp, ⟨v_c5, c_c6, c_c7, c_c8, v_c9, e_ca, rfl, r_cb, r_cc, r_cd, r_ce, o_cf⟩⟩
theorem ref41_Runner_tick_ok : ∀ n, ref41_Runner_tick_S (ref41_Runner_tick n)
  | 0 => by intro w0 I0 x_0 g_1 E_2 q_3 x_4 v_5 r_6 x_7 x_8 v_9 r_a x_b v_c r_d hp r h; cases h
  | n + 1 => ref41_Runner_tick_F_ok n _ (ref41_Runner_tick_ok n)

end Go.Proofs.Ytknnmbcaoekgmaa

namespace Go.Proofs.Ytknnmbcaoekgmaa
open Go Go.Proofs.Ytknnmbcaoekgmaa.Gw Go.RowKit
set_option linter.unusedVariables false
attribute [local irreducible] Ev EvQ EvS EvH
def ref41_Runner_settle_S (f : Runner_2 → Node → Int → Bool → Option Runner_2) : Prop := ∀ (w0 : World) (I0 : Nat → Prop) (x_0 : Runner_2) (g_1 : Nat) (E_2 : List Ent) (q_3 : qW w0 I0 g_1 E_2 x_0) (x_4 : Node) (v_5 : Value) (r_6 : RepS dNode w0 I0 v_5 x_4.Kids) (x_7 : Int) (x_8 : Bool) (hp : Hp ⟨w0, I0, blks E_2⟩ I0 E_2 w0) (r : Runner_2), f x_0 x_4 x_7 x_8 = some r →
    Ret Try.prog 42 #[(.pointer (some ⟨g_1, 0, none⟩)), (.agg #[(.int .i64 x_4.Kind), (.int .i64 x_4.Name), (.int .i64 x_4.Count), v_5]), (.int .i64 x_7), (.bool x_8)] w0 fun v w1 => ∃ (I1 : Nat → Prop) (u_9 : List Ent), v = (.tuple #[]) ∧ Hp ⟨w0, I0, blks E_2⟩ I1 u_9 w1 ∧ qW w1 I1 g_1 u_9 r
theorem ref41_Runner_settle_F_ok (n : Nat) (self : Runner_2 → Node → Int → Bool → Option Runner_2) (ih : ref41_Runner_settle_S self) : ref41_Runner_settle_S (ref41_Runner_settle_F n self) := by
  intro w0 I0 x_0 g_1 E_2 q_3 x_4 v_5 r_6 x_7 x_8 hp r h
  unfold ref41_Runner_settle_F at h
  refine enter Try.func42 rfl (Nat.le_of_ble_eq_true rfl) ?_
  generalize blks E_2 = B at hp ⊢
  obtain ⟨v_9, c_a, c_b, c_c, v_d, rfl, r_e, r_f, r_g, r_h, r_i⟩ := q_3
  have hp : Hp ⟨w0, I0, B⟩ I0 [some (g_1, ((Value.int .i64 x_0.T.Kind) :: ((Value.int .i64 x_0.T.Name) :: ((Value.int .i64 x_0.T.Count) :: (v_9 :: (c_a ++ (c_b ++ (c_c ++ (v_d :: [])))))))), 65)] w0 := hp
  apply go
  apply go
  refine ev_boxI hp rfl rfl ?_
  intro p_j I_k w_l hp hs a_m
  replace r_6 := r_6.step hs
  replace r_e := r_e.step hs
  replace r_f := r_f.step hs
  replace r_g := r_g.step hs
  replace r_h := r_h.step hs
  replace r_i := r_i.step hs
  obtain ⟨y_n, q_o, h⟩ := bind_some h
  refine W.cut (γ := Bool) (fun g => [(0, (.pointer (some ⟨g_1, 0, none⟩))), (2, (.int .i64 x_7)), (5, (.pointer (some (p_j)))), (8, (.bool (g)))]) (fun g w' => y_n = (g) ∧ w_l = w') ?_ ?_
  ·
    apply go
    refine sel_of (fun hc => ?_) (fun hc => ?_)
    ·
      have q_o := cond_t q_o hc
      refine ev0 (rn_field rfl rfl FO65_3) ?_
      obtain ⟨x_p, q_q, q_o⟩ := bind_some q_o
      refine ev_indexA (cs := ((Value.int .i64 x_0.T.Kind) :: ((Value.int .i64 x_0.T.Name) :: ((Value.int .i64 x_0.T.Count) :: (v_9 :: (c_a ++ (c_b ++ (c_c ++ (v_d :: []))))))))) rfl rfl rfl Try.underlying62 T3 (SubA.consA (n := 131) (m := 132) rfl (SubA.consA (n := 130) (m := 131) rfl (SubA.consA (n := 129) (m := 130) rfl (SubA.consA (n := 128) (m := 129) rfl (SubA.skipA (n := 64) (m := 128) (Desc.len _ r_f) rfl (SubA.skipA (n := 0) (m := 64) (Desc.len _ r_g) rfl (SubA.pre r_h))))))) q_q ?_
      refine ev (rn_load rfl rfl (run_loadVar1 T3 (hp.cell (i := 0) rfl ((SubA.consA (n := 131) (m := 132) rfl (SubA.consA (n := 130) (m := 131) rfl (SubA.consA (n := 129) (m := 130) rfl (SubA.consA (n := 128) (m := 129) rfl (SubA.skipA (n := 64) (m := 128) (Desc.len _ r_f) rfl (SubA.skipA (n := 0) (m := 64) (Desc.len _ r_g) rfl (SubA.pre r_h))))))).el q_q).int))) ?_
      obtain rfl := Option.some.inj q_o
      exact ⟨(x_p == 1), (.c rfl (.c rfl (.c rfl (.c rfl .n)))), rfl, rfl⟩
    ·
      have q_o := cond_f q_o hc
      obtain rfl := Option.some.inj q_o
      exact ⟨false, (.c rfl (.c rfl (.c rfl (.c rfl .n)))), rfl, rfl⟩
  ·
    rintro x_r _ ⟨hy, rfl⟩
    replace hy := hy.symm
    subst hy
    obtain ⟨y_s, q_t, h⟩ := bind_some h
    refine W.cut (γ := ((List Int) × (List Value))) (fun g => [(0, (.pointer (some ⟨g_1, 0, none⟩))), (2, (.int .i64 x_7)), (5, (.pointer (some (p_j)))), (8, (.bool x_r))]) (fun g w' => y_s = (g.1) ∧ Hp ⟨w0, I0, B⟩ I_k [some (g_1, ((Value.int .i64 x_0.T.Kind) :: ((Value.int .i64 x_0.T.Name) :: ((Value.int .i64 x_0.T.Count) :: (v_9 :: ((g.2) ++ (c_b ++ (c_c ++ (v_d :: [])))))))), 65)] w' ∧ RepS dNode w' I_k v_9 x_0.T.Kids ∧ (dA 64 (dI .i64)).rep w' I_k (g.2) (g.1) ∧ (dA 64 dB).rep w' I_k c_b x_0.On ∧ (dA 64 (dI .i64)).rep w' I_k c_c x_0.Status ∧ RepS (dI .i64) w' I_k v_d x_0.Ticked ∧ RepS dNode w' I_k v_5 x_4.Kids ∧ At w' I_k p_j [(.int .i64 x_4.Kind), (.int .i64 x_4.Name), (.int .i64 x_4.Count), v_5]) ?_ ?_
    ·
      apply go
      apply go
      apply go
      refine sel_of (fun hc => ?_) (fun hc => ?_)
      ·
        have q_t := cond_t q_t hc
        apply go
        refine ev0 (rn_field rfl rfl FO65_1) ?_
        obtain ⟨x_u, q_v, q_t⟩ := bind_some q_t
        refine ev_indexA (cs := ((Value.int .i64 x_0.T.Kind) :: ((Value.int .i64 x_0.T.Name) :: ((Value.int .i64 x_0.T.Count) :: (v_9 :: (c_a ++ (c_b ++ (c_c ++ (v_d :: []))))))))) rfl rfl rfl Try.underlying62 T3 (SubA.consA (n := 3) (m := 4) rfl (SubA.consA (n := 2) (m := 3) rfl (SubA.consA (n := 1) (m := 2) rfl (SubA.consA (n := 0) (m := 1) rfl (SubA.pre r_f))))) q_v ?_
        refine ev_store1A hp (i := 0) rfl rfl rfl rfl T3 rfl ((SubA.consA (n := 3) (m := 4) rfl (SubA.consA (n := 2) (m := 3) rfl (SubA.consA (n := 1) (m := 2) rfl (SubA.consA (n := 0) (m := 1) rfl (SubA.pre r_f))))).el q_v).1 ?_
        intro c_w w_x q_y hp hs
        obtain ⟨c_z, q_10⟩ : ∃ z, z = c_a.set (x_7.toNat * (dI .i64).size) (.int .i64 0) := ⟨_, rfl⟩
        have r_11 : (dA 64 (dI .i64)).rep w_x I_k c_z (upd x_0.Counters x_7 0) := by subst q_10; exact PutA.rep (Desc.len _ r_f) (PutA.up (SubA.top (r_f.step hs)) q_v (PutA.leaf (show 0 + x_7.toNat * (dI .i64).size < _ from ((SubA.top r_f).el q_v).1) rfl rfl) |> fun h => by simpa only [Nat.zero_add] using h)
        have q_y : c_w = ((Value.int .i64 x_0.T.Kind) :: ((Value.int .i64 x_0.T.Name) :: ((Value.int .i64 x_0.T.Count) :: (v_9 :: (c_z ++ (c_b ++ (c_c ++ (v_d :: [])))))))) := q_y.trans (by subst q_10; show List.set (((Value.int .i64 x_0.T.Kind) :: ((Value.int .i64 x_0.T.Name) :: ((Value.int .i64 x_0.T.Count) :: (v_9 :: (c_a ++ (c_b ++ (c_c ++ (v_d :: [])))))))) : List Value) (4 + x_7.toNat * (dI .i64).size) (.int .i64 0) = _; exact (st_cons (n := 3 + x_7.toNat * (dI .i64).size) (by omega) (st_cons (n := 2 + x_7.toNat * (dI .i64).size) (by omega) (st_cons (n := 1 + x_7.toNat * (dI .i64).size) (by omega) (st_cons (n := x_7.toNat * (dI .i64).size) (by omega) (st_here (c := c_a) (show x_7.toNat * (dI .i64).size < c_a.length from by have h := ((SubA.top r_f).el q_v).1; have h1 : 0 < (dI .i64).size := Nat.le_of_ble_eq_true rfl; omega)))))))
        rw [q_y] at hp; clear q_y
        replace a_m := a_m.step hs
        replace r_6 := r_6.step hs
        replace r_e := r_e.step hs
        replace r_g := r_g.step hs
        replace r_h := r_h.step hs
        replace r_i := r_i.step hs
        obtain rfl := Option.some.inj q_t
        exact ⟨((upd x_0.Counters x_7 0), c_z), (.c rfl (.c rfl (.c rfl (.c rfl .n)))), rfl, hp, r_e, r_11, r_g, r_h, r_i, r_6, a_m⟩
      ·
        have q_t := cond_f q_t hc
        apply go
        obtain rfl := Option.some.inj q_t
        exact ⟨(x_0.Counters, c_a), (.c rfl (.c rfl (.c rfl (.c rfl .n)))), rfl, hp, r_e, r_f, r_g, r_h, r_i, r_6, a_m⟩
    ·
      rintro ⟨x_12, c_13⟩ w_14 ⟨hy, hp, r_e, r_15, r_g, r_h, r_i, r_6, a_m⟩
      replace hy := hy.symm
      subst hy
      obtain ⟨y_16, q_17, h⟩ := bind_some h
      refine W.cut (γ := ((List Bool) × (List Value))) (fun g => [(0, (.pointer (some ⟨g_1, 0, none⟩))), (2, (.int .i64 x_7)), (5, (.pointer (some (p_j)))), (8, (.bool x_r))]) (fun g w' => y_16 = (g.1) ∧ Hp ⟨w0, I0, B⟩ I_k [some (g_1, ((Value.int .i64 x_0.T.Kind) :: ((Value.int .i64 x_0.T.Name) :: ((Value.int .i64 x_0.T.Count) :: (v_9 :: (c_13 ++ ((g.2) ++ (c_c ++ (v_d :: [])))))))), 65)] w' ∧ RepS dNode w' I_k v_9 x_0.T.Kids ∧ (dA 64 (dI .i64)).rep w' I_k c_13 x_12 ∧ (dA 64 dB).rep w' I_k (g.2) (g.1) ∧ (dA 64 (dI .i64)).rep w' I_k c_c x_0.Status ∧ RepS (dI .i64) w' I_k v_d x_0.Ticked ∧ RepS dNode w' I_k v_5 x_4.Kids ∧ At w' I_k p_j [(.int .i64 x_4.Kind), (.int .i64 x_4.Name), (.int .i64 x_4.Count), v_5]) ?_ ?_
      ·
        have hs := hp.stp (Ch.drew [] w_14)
        have hp := hp.drew
        replace a_m := a_m.step hs
        replace r_6 := r_6.step hs
        replace r_e := r_e.step hs
        replace r_15 := r_15.step hs
        replace r_g := r_g.step hs
        replace r_h := r_h.step hs
        replace r_i := r_i.step hs
        refine W.held [(0, true), (1, true), (2, true), (3, true), (4, true), (5, true), (6, true), (7, true), (8, true), (9, true), (10, true), (11, false)] (Stp I_k w_14.drew I_k) MX (by kernel_rfl) (Stp.refl _ _) ?_
        have hz := Stp.refl I_k w_14.drew
        refine sel_of (fun hc => ?_) (fun hc => ?_)
        ·
          have q_17 := cond_t q_17 hc
          refine evh0 (rn_field rfl rfl FO24_0) ?_
          refine evh (fun w' hw => rn_load rfl rfl (run_loadVar1 T3 ((a_m.step hw).2 0 _ rfl))) ?_
          refine evh0 (rn_field rfl rfl FO65_2) ?_
          obtain ⟨x_18, q_19, q_17⟩ := bind_some q_17
          refine evh_indexA (cs := ((Value.int .i64 x_0.T.Kind) :: ((Value.int .i64 x_0.T.Name) :: ((Value.int .i64 x_0.T.Count) :: (v_9 :: (c_13 ++ (c_b ++ (c_c ++ (v_d :: []))))))))) rfl rfl rfl Try.underlying63 T4 (SubA.consA (n := 67) (m := 68) rfl (SubA.consA (n := 66) (m := 67) rfl (SubA.consA (n := 65) (m := 66) rfl (SubA.consA (n := 64) (m := 65) rfl (SubA.skipA (n := 0) (m := 64) (Desc.len _ r_15) rfl (SubA.pre r_g)))))) q_19 ?_
          refine ev_store1A hp (i := 0) rfl rfl rfl rfl T4 rfl ((SubA.consA (n := 67) (m := 68) rfl (SubA.consA (n := 66) (m := 67) rfl (SubA.consA (n := 65) (m := 66) rfl (SubA.consA (n := 64) (m := 65) rfl (SubA.skipA (n := 0) (m := 64) (Desc.len _ r_15) rfl (SubA.pre r_g)))))).el q_19).1 ?_
          intro c_1a w_1b q_1c hp hs
          obtain ⟨c_1d, q_1e⟩ : ∃ z, z = c_b.set (x_7.toNat * dB.size) (.bool (x_4.Kind == 1)) := ⟨_, rfl⟩
          have r_1f : (dA 64 dB).rep w_1b I_k c_1d (upd x_0.On x_7 (x_4.Kind == 1)) := by subst q_1e; exact PutA.rep (Desc.len _ r_g) (PutA.up (SubA.top (r_g.step hs)) q_19 (PutA.leaf (show 0 + x_7.toNat * dB.size < _ from ((SubA.top r_g).el q_19).1) rfl rfl) |> fun h => by simpa only [Nat.zero_add] using h)
          have q_1c : c_1a = ((Value.int .i64 x_0.T.Kind) :: ((Value.int .i64 x_0.T.Name) :: ((Value.int .i64 x_0.T.Count) :: (v_9 :: (c_13 ++ (c_1d ++ (c_c ++ (v_d :: [])))))))) := q_1c.trans (by subst q_1e; show List.set (((Value.int .i64 x_0.T.Kind) :: ((Value.int .i64 x_0.T.Name) :: ((Value.int .i64 x_0.T.Count) :: (v_9 :: (c_13 ++ (c_b ++ (c_c ++ (v_d :: [])))))))) : List Value) (68 + x_7.toNat * dB.size) (.bool (x_4.Kind == 1)) = _; exact (st_cons (n := 67 + x_7.toNat * dB.size) (by omega) (st_cons (n := 66 + x_7.toNat * dB.size) (by omega) (st_cons (n := 65 + x_7.toNat * dB.size) (by omega) (st_cons (n := 64 + x_7.toNat * dB.size) (by omega) (st_skip (n := x_7.toNat * dB.size) (Desc.len _ r_15) (by show _ = 64 + _; omega) (st_here (c := c_b) (show x_7.toNat * dB.size < c_b.length from by have h := ((SubA.top r_g).el q_19).1; have h1 : 0 < dB.size := Nat.le_of_ble_eq_true rfl; omega))))))))
          rw [q_1c] at hp; clear q_1c
          replace hz := hz.trans hs
          replace a_m := a_m.step hs
          replace r_6 := r_6.step hs
          replace r_e := r_e.step hs
          replace r_15 := r_15.step hs
          replace r_h := r_h.step hs
          replace r_i := r_i.step hs
          refine ⟨Stp I_k w_1b I_k, Stp.refl _ _, fun x hx => hz.held hx, ?_⟩
          have hz := Stp.refl I_k w_1b
          obtain rfl := Option.some.inj q_17
          exact ⟨((upd x_0.On x_7 (x_4.Kind == 1)), c_1d), (.c rfl (.c rfl (.c rfl (.c rfl .n)))), rfl, hp, r_e, r_15, r_1f, r_h, r_i, r_6, a_m⟩
        ·
          have q_17 := cond_f q_17 hc
          refine evh0 (rn_field rfl rfl FO65_2) ?_
          obtain ⟨x_1g, q_1h, q_17⟩ := bind_some q_17
          refine evh_indexA (cs := ((Value.int .i64 x_0.T.Kind) :: ((Value.int .i64 x_0.T.Name) :: ((Value.int .i64 x_0.T.Count) :: (v_9 :: (c_13 ++ (c_b ++ (c_c ++ (v_d :: []))))))))) rfl rfl rfl Try.underlying63 T4 (SubA.consA (n := 67) (m := 68) rfl (SubA.consA (n := 66) (m := 67) rfl (SubA.consA (n := 65) (m := 66) rfl (SubA.consA (n := 64) (m := 65) rfl (SubA.skipA (n := 0) (m := 64) (Desc.len _ r_15) rfl (SubA.pre r_g)))))) q_1h ?_
          refine ev_store1A hp (i := 0) rfl rfl rfl rfl T4 rfl ((SubA.consA (n := 67) (m := 68) rfl (SubA.consA (n := 66) (m := 67) rfl (SubA.consA (n := 65) (m := 66) rfl (SubA.consA (n := 64) (m := 65) rfl (SubA.skipA (n := 0) (m := 64) (Desc.len _ r_15) rfl (SubA.pre r_g)))))).el q_1h).1 ?_
          intro c_1i w_1j q_1k hp hs
          obtain ⟨c_1l, q_1m⟩ : ∃ z, z = c_b.set (x_7.toNat * dB.size) (.bool false) := ⟨_, rfl⟩
          have r_1n : (dA 64 dB).rep w_1j I_k c_1l (upd x_0.On x_7 false) := by subst q_1m; exact PutA.rep (Desc.len _ r_g) (PutA.up (SubA.top (r_g.step hs)) q_1h (PutA.leaf (show 0 + x_7.toNat * dB.size < _ from ((SubA.top r_g).el q_1h).1) rfl rfl) |> fun h => by simpa only [Nat.zero_add] using h)
          have q_1k : c_1i = ((Value.int .i64 x_0.T.Kind) :: ((Value.int .i64 x_0.T.Name) :: ((Value.int .i64 x_0.T.Count) :: (v_9 :: (c_13 ++ (c_1l ++ (c_c ++ (v_d :: [])))))))) := q_1k.trans (by subst q_1m; show List.set (((Value.int .i64 x_0.T.Kind) :: ((Value.int .i64 x_0.T.Name) :: ((Value.int .i64 x_0.T.Count) :: (v_9 :: (c_13 ++ (c_b ++ (c_c ++ (v_d :: [])))))))) : List Value) (68 + x_7.toNat * dB.size) (.bool false) = _; exact (st_cons (n := 67 + x_7.toNat * dB.size) (by omega) (st_cons (n := 66 + x_7.toNat * dB.size) (by omega) (st_cons (n := 65 + x_7.toNat * dB.size) (by omega) (st_cons (n := 64 + x_7.toNat * dB.size) (by omega) (st_skip (n := x_7.toNat * dB.size) (Desc.len _ r_15) (by show _ = 64 + _; omega) (st_here (c := c_b) (show x_7.toNat * dB.size < c_b.length from by have h := ((SubA.top r_g).el q_1h).1; have h1 : 0 < dB.size := Nat.le_of_ble_eq_true rfl; omega))))))))
          rw [q_1k] at hp; clear q_1k
          replace hz := hz.trans hs
          replace a_m := a_m.step hs
          replace r_6 := r_6.step hs
          replace r_e := r_e.step hs
          replace r_15 := r_15.step hs
          replace r_h := r_h.step hs
          replace r_i := r_i.step hs
          refine ⟨Stp I_k w_1j I_k, Stp.refl _ _, fun x hx => hz.held hx, ?_⟩
          have hz := Stp.refl I_k w_1j
          obtain rfl := Option.some.inj q_17
          exact ⟨((upd x_0.On x_7 false), c_1l), (.c rfl (.c rfl (.c rfl (.c rfl .n)))), rfl, hp, r_e, r_15, r_1n, r_h, r_i, r_6, a_m⟩
      ·
        rintro ⟨x_1o, c_1p⟩ w_1q ⟨hy, hp, r_e, r_15, r_1r, r_h, r_i, r_6, a_m⟩
        replace hy := hy.symm
        subst hy
        apply go
        apply go
        apply go
        apply go
        apply go
        refine W.loop h (γ := (Value × (List Value) × (List Value) × (List Value) × Value × (Nat → Prop))) (fun s g => [(0, (.pointer (some ⟨g_1, 0, none⟩))), (5, (.pointer (some (p_j)))), (8, (.bool x_r)), (9, (.int .i64 (s.2.2.2.2.2.2.2.2.1))), (10, (.int .i64 (s.2.2.2.2.2.2.2.2.2)))]) (fun s g w' => Hp ⟨w0, I0, B⟩ (g.2.2.2.2.2) [some (g_1, ((Value.int .i64 (s.1)) :: ((Value.int .i64 (s.2.1)) :: ((Value.int .i64 (s.2.2.1)) :: ((g.1) :: ((g.2.1) ++ ((g.2.2.1) ++ ((g.2.2.2.1) ++ ((g.2.2.2.2.1) :: [])))))))), 65)] w' ∧ RepS dNode w' (g.2.2.2.2.2) (g.1) (s.2.2.2.1) ∧ (dA 64 (dI .i64)).rep w' (g.2.2.2.2.2) (g.2.1) (s.2.2.2.2.1) ∧ (dA 64 dB).rep w' (g.2.2.2.2.2) (g.2.2.1) (s.2.2.2.2.2.1) ∧ (dA 64 (dI .i64)).rep w' (g.2.2.2.2.2) (g.2.2.2.1) (s.2.2.2.2.2.2.1) ∧ RepS (dI .i64) w' (g.2.2.2.2.2) (g.2.2.2.2.1) (s.2.2.2.2.2.2.2.1) ∧ RepS dNode w' (g.2.2.2.2.2) v_5 x_4.Kids ∧ At w' (g.2.2.2.2.2) p_j [(.int .i64 x_4.Kind), (.int .i64 x_4.Name), (.int .i64 x_4.Count), v_5]) (v_9, c_13, c_1p, c_c, v_d, I_k) (.c rfl (.c rfl (.c rfl (.c rfl (.c rfl .n))))) ⟨hp, r_e, r_15, r_1r, r_h, r_i, r_6, a_m⟩ ?_
        rintro ⟨x_1s, x_1t, x_1u, x_1v, x_1w, x_1x, x_1y, x_1z, x_20, x_21⟩ ⟨v_22, c_23, c_24, c_25, v_26, I_27⟩ w_28 y_29 ⟨hp, r_2a, r_2b, r_2c, r_2d, r_2e, r_6, a_m⟩ q_2f q_2g
        unfold ref41_Runner_settle_L0 at q_2f
        apply go
        apply go
        apply go
        refine ev0 (rn_field rfl rfl FO24_3) ?_
        refine ev (rn_load rfl rfl (run_loadVar1 T22 (a_m.2 3 _ rfl))) ?_
        refine ev0 (rn_len rfl rfl Try.underlying22 r_6) ?_
        apply go
        refine sel_of (fun hc => ?_) (fun hc => ?_)
        ·
          have q_2f := cond_t q_2f hc
          apply go
          apply go
          apply go
          apply go
          apply go
          refine ev0 (rn_field rfl rfl FO24_3) ?_
          refine ev (rn_load rfl rfl (run_loadVar1 T22 (a_m.2 3 _ rfl))) ?_
          obtain ⟨x_2h, q_2i, q_2f⟩ := bind_some q_2f
          refine ev_index rfl rfl rfl Try.underlying22 T24 r_6 q_2i ?_
          intro p_2j c_2k d_2l a_2m
          obtain ⟨v_2n, rfl, r_2o⟩ := dNode_o d_2l
          refine ev (rn_load rfl rfl (run_loadVarA T24 rfl a_2m)) ?_
          obtain ⟨x_2p, q_2q, q_2f⟩ := bind_some q_2f
          refine ev_call rfl rfl C42 ((ih _ _  (Runner_2.mk (Node.mk x_1s x_1t x_1u x_1v) x_1w x_1x x_1y x_1z) g_1 [some (g_1, ((Value.int .i64 x_1s) :: ((Value.int .i64 x_1t) :: ((Value.int .i64 x_1u) :: (v_22 :: (c_23 ++ (c_24 ++ (c_25 ++ (v_26 :: [])))))))), 65)] ⟨v_22, c_23, c_24, c_25, v_26, rfl, r_2a, r_2b, r_2c, r_2d, r_2e⟩ (Node.mk x_2h.Kind x_2h.Name x_2h.Count x_2h.Kids) v_2n r_2o x_20 x_r (hp.lendL [0] (by decide)) _ q_2q).mono ?_)
          rintro _ w_2r ⟨I_2s, F_2t, hv, hq7979, q_2u⟩
          replace hv := hv.symm
          subst hv
          obtain ⟨v_2v, c_2w, c_2x, c_2y, v_2z, rfl, r_30, r_31, r_32, r_33, r_34⟩ := q_2u
          have hs := hq7979.st
          have hp := hp.backL [0] [] (by decide) hq7979
          replace a_m := a_m.step hs
          replace r_6 := r_6.step hs
          apply go
          refine ev0 (rn_field rfl rfl FO24_3) ?_
          refine ev (rn_load rfl rfl (run_loadVar1 T22 (a_m.2 3 _ rfl))) ?_
          obtain ⟨x_35, q_36, q_2f⟩ := bind_some q_2f
          refine ev_index rfl rfl rfl Try.underlying22 T24 r_6 q_36 ?_
          intro p_37 c_38 d_39 a_3a
          obtain ⟨v_3b, rfl, r_3c⟩ := dNode_o d_39
          refine ev (rn_load rfl rfl (run_loadVarA T24 rfl a_3a)) ?_
          obtain ⟨x_3d, q_3e, q_2f⟩ := bind_some q_2f
          refine ev_call rfl rfl C11 (((ref41_Size_ok n) _ _  (Node.mk x_35.Kind x_35.Name x_35.Count x_35.Kids) v_3b r_3c hp.imm _ q_3e).mono ?_)
          rintro _ w_3f ⟨rfl, hc⟩
          have hs := hp.stp hc
          replace hp := hp.ext hc
          replace a_m := a_m.step hs
          replace r_6 := r_6.step hs
          replace r_30 := r_30.step hs
          replace r_31 := r_31.step hs
          replace r_32 := r_32.step hs
          replace r_33 := r_33.step hs
          replace r_34 := r_34.step hs
          apply go
          exact ⟨_, (Option.some.inj q_2f).symm, (v_2v, c_2w, c_2x, c_2y, v_2z, I_2s), (.c rfl (.c rfl (.c rfl (.c rfl (.c rfl .n))))), ⟨hp, r_30, r_31, r_32, r_33, r_34, r_6, a_m⟩⟩
        ·
          have q_2f := cond_f q_2f hc
          apply go
          have q_3g := congrArg some (q_2g _ (Option.some.inj q_2f).symm)
          obtain rfl := Option.some.inj q_3g
          exact ⟨I_27, [some (g_1, ((Value.int .i64 x_1s) :: ((Value.int .i64 x_1t) :: ((Value.int .i64 x_1u) :: (v_22 :: (c_23 ++ (c_24 ++ (c_25 ++ (v_26 :: [])))))))), 65)], rfl, hp, ⟨v_22, c_23, c_24, c_25, v_26, rfl, r_2a, r_2b, r_2c, r_2d, r_2e⟩⟩
theorem ref41_Runner_settle_ok : ∀ n, ref41_Runner_settle_S (ref41_Runner_settle n)
  | 0 => by intro w0 I0 x_0 g_1 E_2 q_3 x_4 v_5 r_6 x_7 x_8 hp r h; cases h
  | n + 1 => ref41_Runner_settle_F_ok n _ (ref41_Runner_settle_ok n)

end Go.Proofs.Ytknnmbcaoekgmaa

namespace Go.Proofs.Ytknnmbcaoekgmaa
open Go Go.Proofs.Ytknnmbcaoekgmaa.Gw Go.RowKit
set_option linter.unusedVariables false
attribute [local irreducible] Ev EvQ EvS EvH
def ref41_Runner_Tick_S (f : Runner_2 → (List Int) → (List Bool) → Option (Int × (List Int) × (List Int) × Runner_2)) : Prop := ∀ (w0 : World) (I0 : Nat → Prop) (x_0 : Runner_2) (g_1 : Nat) (E_2 : List Ent) (q_3 : qW w0 I0 g_1 E_2 x_0) (x_4 : (List Int)) (v_5 : Value) (r_6 : RepS (dI .i64) w0 I0 v_5 x_4) (x_7 : (List Bool)) (v_8 : Value) (r_9 : RepS dB w0 I0 v_8 x_7) (hp : Hp ⟨w0, I0, blks E_2⟩ I0 E_2 w0) (r : (Int × (List Int) × (List Int) × Runner_2)), f x_0 x_4 x_7 = some r →
    Ret Try.prog 33 #[(.pointer (some ⟨g_1, 0, none⟩)), v_5, v_8] w0 fun v w1 => ∃ (I1 : Nat → Prop) (u_a : Value) (u_b : Value) (u_c : List Ent), v = (.tuple #[(.int .i64 r.1), u_a, u_b]) ∧ Hp ⟨w0, I0, blks E_2⟩ I1 u_c w1 ∧ RepS (dI .i64) w1 I1 u_a r.2.1 ∧ RepS (dI .i64) w1 I1 u_b r.2.2.1 ∧ qW w1 I1 g_1 u_c r.2.2.2
theorem ref41_Runner_Tick_ok (n : Nat) : ref41_Runner_Tick_S (ref41_Runner_Tick n) := by
  intro w0 I0 x_0 g_1 E_2 q_3 x_4 v_5 r_6 x_7 v_8 r_9 hp r h
  unfold ref41_Runner_Tick at h
  refine enter Try.func33 rfl (Nat.le_of_ble_eq_true rfl) ?_
  generalize blks E_2 = B at hp ⊢
  obtain ⟨v_a, c_b, c_c, c_d, v_e, rfl, r_f, r_g, r_h, r_i, r_j⟩ := q_3
  have hp : Hp ⟨w0, I0, B⟩ I0 [some (g_1, ((Value.int .i64 x_0.T.Kind) :: ((Value.int .i64 x_0.T.Name) :: ((Value.int .i64 x_0.T.Count) :: (v_a :: (c_b ++ (c_c ++ (c_d ++ (v_e :: [])))))))), 65)] w0 := hp
  apply go
  apply go
  apply go
  apply go
  apply go
  refine ev0 (rn_eqNilP rfl rfl rfl Try.underlying35 (b := false) rfl) ?_
  apply go
  apply go
  apply go
  apply go
  refine ev0 (rn_field rfl rfl FO65_2) ?_
  refine ev (rn_load rfl rfl (run_loadVarA (cs := c_c) T63 (Desc.len _ r_h) ((show ((((Value.int .i64 x_0.T.Kind) :: ((Value.int .i64 x_0.T.Name) :: ((Value.int .i64 x_0.T.Count) :: (v_a :: (c_b ++ (c_c ++ (c_d ++ (v_e :: [])))))))) : List Value).drop 68).take 64 = c_c from (dt_cons (n := 67) (by omega) (dt_cons (n := 66) (by omega) (dt_cons (n := 65) (by omega) (dt_cons (n := 64) (by omega) (dt_skip (n := 0) (Desc.len _ r_g) (by show _ = 64 + _; omega) (dt_here (Desc.len _ r_h)))))))) ▸ (((hp.at_ (i := 0) rfl).drop 68).take 64)))) ?_
  refine ev_allocA (d := (dA 64 dB)) (x0 := (List.replicate 64 false)) hp rfl T63 (fun _ _ => (rep_zero 64 rfl)) ?_
  intro g_k c_l w_m hp hs r_n
  replace r_6 := r_6.step hs
  replace r_9 := r_9.step hs
  replace r_h := r_h.step hs
  replace r_f := r_f.step hs
  replace r_g := r_g.step hs
  replace r_i := r_i.step hs
  replace r_j := r_j.step hs
  refine ev_storeW (d := (dA 64 dB)) hp (i := 0) rfl rfl rfl rfl T63 rfl r_n r_h ?_
  intro w_o hp hs r_p
  replace r_6 := r_6.step hs
  replace r_9 := r_9.step hs
  replace r_f := r_f.step hs
  replace r_g := r_g.step hs
  replace r_h := r_h.step hs
  replace r_i := r_i.step hs
  replace r_j := r_j.step hs
  apply go
  apply go
  refine ev0 (rn_buildZ rfl T62 Try.underlying62 T3) ?_
  refine ev0 (rn_field rfl rfl FO65_3) ?_
  obtain ⟨c_q, hcz, r_r⟩ : ∃ z, z = (zrow 64 [.int .i64 0]) ∧ (dA 64 (dI .i64)).rep w_o I0 z (List.replicate 64 0) := ⟨_, rfl, (rep_zero 64 rfl)⟩
  refine ev_storeA hp (i := 1) (off := 132) (vs := c_q) rfl rfl rfl (by rw [hcz]; rfl) T62 (Desc.len _ r_r) (by simp only [List.length_cons, List.length_append, List.length_nil, Desc.len _ r_g, Desc.len _ r_h, Desc.len _ r_i]; exact Nat.le_of_ble_eq_true rfl) (Desc.one _ r_r) ?_
  intro w_s hp hs
  replace hp := (show setL ((Value.int .i64 x_0.T.Kind) :: ((Value.int .i64 x_0.T.Name) :: ((Value.int .i64 x_0.T.Count) :: (v_a :: (c_b ++ (c_c ++ (c_d ++ (v_e :: [])))))))) 132 c_q = ((Value.int .i64 x_0.T.Kind) :: ((Value.int .i64 x_0.T.Name) :: ((Value.int .i64 x_0.T.Count) :: (v_a :: (c_b ++ (c_c ++ (c_q ++ (v_e :: [])))))))) from (sl_cons (n := 131) (by omega) (sl_cons (n := 130) (by omega) (sl_cons (n := 129) (by omega) (sl_cons (n := 128) (by omega) (sl_skip (n := 64) (Desc.len _ r_g) (by show _ = 64 + _; omega) (sl_skip (n := 0) (Desc.len _ r_h) (by show _ = 64 + _; omega) (sl_here ((Desc.len _ r_r).trans (Desc.len _ r_i).symm))))))))) ▸ hp
  clear hcz
  replace r_r := r_r.step hs
  replace r_6 := r_6.step hs
  replace r_9 := r_9.step hs
  replace r_f := r_f.step hs
  replace r_g := r_g.step hs
  replace r_h := r_h.step hs
  replace r_j := r_j.step hs
  replace r_p := r_p.step hs
  apply go
  apply go
  refine ev0 (rn_field rfl rfl FO65_4) ?_
  refine ev_store1 hp (i := 1) (off := 196) rfl rfl rfl rfl T39 rfl (by simp only [List.length_cons, List.length_append, List.length_nil, Desc.len _ r_g, Desc.len _ r_h, Desc.len _ r_r]; exact Nat.le_of_ble_eq_true rfl) ?_
  intro w_t hp hs
  replace hp := (show (((Value.int .i64 x_0.T.Kind) :: ((Value.int .i64 x_0.T.Name) :: ((Value.int .i64 x_0.T.Count) :: (v_a :: (c_b ++ (c_c ++ (c_q ++ (v_e :: [])))))))) : List Value).set 196 (.slice none 0 0) = ((Value.int .i64 x_0.T.Kind) :: ((Value.int .i64 x_0.T.Name) :: ((Value.int .i64 x_0.T.Count) :: (v_a :: (c_b ++ (c_c ++ (c_q ++ ((Value.slice none 0 0) :: [])))))))) from (st_cons (n := 195) (by omega) (st_cons (n := 194) (by omega) (st_cons (n := 193) (by omega) (st_cons (n := 192) (by omega) (st_skip (n := 128) (Desc.len _ r_g) (by show _ = 64 + _; omega) (st_skip (n := 64) (Desc.len _ r_h) (by show _ = 64 + _; omega) (st_skip (n := 0) (Desc.len _ r_r) (by show _ = 64 + _; omega) st_here1)))))))) ▸ hp
  replace r_6 := r_6.step hs
  replace r_9 := r_9.step hs
  replace r_f := r_f.step hs
  replace r_g := r_g.step hs
  replace r_h := r_h.step hs
  replace r_r := r_r.step hs
  replace r_p := r_p.step hs
  apply go
  apply go
  refine ev0 (rn_field rfl rfl FO65_0) ?_
  refine ev (rn_load rfl rfl (run_loadVarA T24 rfl ((hp.at_ (i := 1) rfl).take 4))) ?_
  have hp := hp.none_
  have o_u := OwnS.nil (dI .i64) 3 w_t I0
  obtain ⟨⟨x_v, x_w⟩, q_x, h⟩ := bind_some h
  refine ev_call rfl rfl C41 (((ref41_Runner_tick_ok n) _ _  (Runner_2.mk (Node.mk x_0.T.Kind x_0.T.Name x_0.T.Count x_0.T.Kids) x_0.Counters x_0.On (List.replicate 64 0) []) g_1 [some (g_1, ((Value.int .i64 x_0.T.Kind) :: ((Value.int .i64 x_0.T.Name) :: ((Value.int .i64 x_0.T.Count) :: (v_a :: (c_b ++ (c_c ++ (c_q ++ ((Value.slice none 0 0) :: [])))))))), 65), none] ⟨v_a, c_b, c_c, c_q, (.slice none 0 0), none, rfl, r_f, r_g, r_h, r_r, o_u⟩ (Node.mk x_0.T.Kind x_0.T.Name x_0.T.Count x_0.T.Kids) v_a r_f 0 x_4 v_5 r_6 x_7 v_8 r_9 (hp.lendL [2, 0] (by decide)) _ q_x).mono ?_)
  rintro _ w_y ⟨I_z, F_10, hv, hq8043, q_11⟩
  replace hv := hv.symm
  subst hv
  obtain ⟨v_12, c_13, c_14, c_15, v_16, e_17, rfl, r_18, r_19, r_1a, r_1b, o_1c⟩ := q_11
  have hs := hq8043.st
  have hp := hp.backL [2, 0] [1] (by decide) hq8043
  replace r_p := r_p.step hs
  apply go
  apply go
  refine ev0 (rn_field rfl rfl FO65_0) ?_
  refine ev (rn_load rfl rfl (run_loadVarA T24 rfl ((hp.at_ (i := 0) rfl).take 4))) ?_
  have r_1d := o_1c.frz hp (i := 1) rfl
  obtain ⟨hp, hs⟩ := freeze_hp hp (i := 1) rfl
  replace r_18 := r_18.step hs
  replace r_19 := r_19.step hs
  replace r_1a := r_1a.step hs
  replace r_1b := r_1b.step hs
  replace r_p := r_p.step hs
  have hp := hp.sel [0, 2] (by decide)
  obtain ⟨x_1e, q_1f, h⟩ := bind_some h
  refine ev_call rfl rfl C42 (((ref41_Runner_settle_ok n) _ _  (Runner_2.mk (Node.mk x_w.T.Kind x_w.T.Name x_w.T.Count x_w.T.Kids) x_w.Counters x_w.On x_w.Status x_w.Ticked) g_1 [some (g_1, ((Value.int .i64 x_w.T.Kind) :: ((Value.int .i64 x_w.T.Name) :: ((Value.int .i64 x_w.T.Count) :: (v_12 :: (c_13 ++ (c_14 ++ (c_15 ++ (v_16 :: [])))))))), 65)] ⟨v_12, c_13, c_14, c_15, v_16, rfl, r_18, r_19, r_1a, r_1b, r_1d⟩ (Node.mk x_w.T.Kind x_w.T.Name x_w.T.Count x_w.T.Kids) v_12 r_18 0 true (hp.lendL [0] (by decide)) _ q_1f).mono ?_)
  rintro _ w_1g ⟨I_1h, F_1i, hv, hq8062, q_1j⟩
  replace hv := hv.symm
  subst hv
  obtain ⟨v_1k, c_1l, c_1m, c_1n, v_1o, rfl, r_1p, r_1q, r_1r, r_1s, r_1t⟩ := q_1j
  have hs := hq8062.st
  have hp := hp.backL [0] [1] (by decide) hq8062
  replace r_p := r_p.step hs
  apply go
  apply go
  obtain ⟨y_1u, q_1v, h⟩ := bind_some h
  refine W.cut (γ := ((List Int) × Value × Ent × (Nat → Prop))) (fun g => [(0, (.pointer (some ⟨g_1, 0, none⟩))), (10, (.int .i64 x_v)), (11, (g.2.1))]) (fun g w' => y_1u = (g.1) ∧ Hp ⟨w0, I0, B⟩ (g.2.2.2) [some (g_1, ((Value.int .i64 x_1e.T.Kind) :: ((Value.int .i64 x_1e.T.Name) :: ((Value.int .i64 x_1e.T.Count) :: (v_1k :: (c_1l ++ (c_1m ++ (c_1n ++ (v_1o :: [])))))))), 65), (g.2.2.1)] w' ∧ RepS dNode w' (g.2.2.2) v_1k x_1e.T.Kids ∧ (dA 64 (dI .i64)).rep w' (g.2.2.2) c_1l x_1e.Counters ∧ (dA 64 dB).rep w' (g.2.2.2) c_1m x_1e.On ∧ (dA 64 (dI .i64)).rep w' (g.2.2.2) c_1n x_1e.Status ∧ RepS (dI .i64) w' (g.2.2.2) v_1o x_1e.Ticked ∧ OwnS (dI .i64) 3 w' (g.2.2.2) (g.2.1) (g.2.2.1) (g.1)) ?_ ?_
  ·
    apply go
    apply go
    apply go
    have hp := hp.none_
    have o_1w := OwnS.nil (dI .i64) 3 w_1g I_1h
    have hp := hp.perm [1, 2, 0] (by decide)
    refine W.loop q_1v (γ := (Value × Ent × (Nat → Prop))) (fun s g => [(0, (.pointer (some ⟨g_1, 0, none⟩))), (9, (.pointer (some ⟨g_k, 0, none⟩))), (10, (.int .i64 x_v)), (11, (g.1)), (12, (.int .i64 (s.2)))]) (fun s g w' => Hp ⟨w0, I0, B⟩ (g.2.2) [some (g_1, ((Value.int .i64 x_1e.T.Kind) :: ((Value.int .i64 x_1e.T.Name) :: ((Value.int .i64 x_1e.T.Count) :: (v_1k :: (c_1l ++ (c_1m ++ (c_1n ++ (v_1o :: [])))))))), 65), some (g_k, c_c, 63), (g.2.1)] w' ∧ RepS dNode w' (g.2.2) v_1k x_1e.T.Kids ∧ (dA 64 (dI .i64)).rep w' (g.2.2) c_1l x_1e.Counters ∧ (dA 64 dB).rep w' (g.2.2) c_1m x_1e.On ∧ (dA 64 (dI .i64)).rep w' (g.2.2) c_1n x_1e.Status ∧ RepS (dI .i64) w' (g.2.2) v_1o x_1e.Ticked ∧ (dA 64 dB).rep w' (g.2.2) c_c x_0.On ∧ OwnS (dI .i64) 3 w' (g.2.2) (g.1) (g.2.1) (s.1)) ((.slice none 0 0), none, I_1h) (.c rfl (.c rfl (.c rfl (.c rfl (.c rfl .n))))) ⟨hp, r_1p, r_1q, r_1r, r_1s, r_1t, r_p, o_1w⟩ ?_
    rintro ⟨x_1x, x_1y⟩ ⟨v_1z, e_20, I_21⟩ w_22 y_23 ⟨hp, r_1p, r_1q, r_1r, r_1s, r_1t, r_p, o_24⟩ q_25 q_26
    unfold ref41_Runner_Tick_L21 at q_25
    apply go
    apply go
    apply go
    apply go
    refine sel_of (fun hc => ?_) (fun hc => ?_)
    ·
      have q_25 := cond_t q_25 hc
      apply go
      obtain ⟨y_27, q_28, q_25⟩ := bind_some q_25
      refine W.cut (γ := ((List Int) × Value × Ent × (Nat → Prop))) (fun g => [(0, (.pointer (some ⟨g_1, 0, none⟩))), (9, (.pointer (some ⟨g_k, 0, none⟩))), (10, (.int .i64 x_v)), (11, (g.2.1)), (12, (.int .i64 x_1y))]) (fun g w' => y_27 = (g.1) ∧ Hp ⟨w0, I0, B⟩ (g.2.2.2) [some (g_1, ((Value.int .i64 x_1e.T.Kind) :: ((Value.int .i64 x_1e.T.Name) :: ((Value.int .i64 x_1e.T.Count) :: (v_1k :: (c_1l ++ (c_1m ++ (c_1n ++ (v_1o :: [])))))))), 65), some (g_k, c_c, 63), (g.2.2.1)] w' ∧ RepS dNode w' (g.2.2.2) v_1k x_1e.T.Kids ∧ (dA 64 (dI .i64)).rep w' (g.2.2.2) c_1l x_1e.Counters ∧ (dA 64 dB).rep w' (g.2.2.2) c_1m x_1e.On ∧ (dA 64 (dI .i64)).rep w' (g.2.2.2) c_1n x_1e.Status ∧ RepS (dI .i64) w' (g.2.2.2) v_1o x_1e.Ticked ∧ (dA 64 dB).rep w' (g.2.2.2) c_c x_0.On ∧ OwnS (dI .i64) 3 w' (g.2.2.2) (g.2.1) (g.2.2.1) (g.1)) ?_ ?_
      ·
        apply go
        apply go
        apply go
        obtain ⟨y_29, q_2a, q_28⟩ := bind_some q_28
        refine W.cut (γ := Bool) (fun g => [(0, (.pointer (some ⟨g_1, 0, none⟩))), (9, (.pointer (some ⟨g_k, 0, none⟩))), (10, (.int .i64 x_v)), (11, v_1z), (12, (.int .i64 x_1y)), (13, (.bool (g)))]) (fun g w' => y_29 = (g) ∧ w_22 = w') ?_ ?_
        ·
          apply go
          apply go
          apply go
          refine W.loop q_2a (γ := Unit) (fun s _ => [(0, (.pointer (some ⟨g_1, 0, none⟩))), (9, (.pointer (some ⟨g_k, 0, none⟩))), (10, (.int .i64 x_v)), (11, v_1z), (12, (.int .i64 x_1y)), (13, (.bool (s.1))), (14, (.int .i64 (s.2)))]) (fun s _ w' => w_22 = w') () (.c rfl (.c rfl (.c rfl (.c rfl (.c rfl (.c rfl (.c rfl .n))))))) rfl ?_
          rintro ⟨x_2b, x_2c⟩ ⟨⟩ _ y_2d rfl q_2e q_2f
          unfold ref41_Runner_Tick_L25 at q_2e
          apply go
          apply go
          apply go
          refine ev0 (rn_field rfl rfl FO65_4) ?_
          refine ev (rn_load rfl rfl (run_loadVar1 T39 (hp.cell (i := 0) (off := 196) rfl (show (((Value.int .i64 x_1e.T.Kind) :: ((Value.int .i64 x_1e.T.Name) :: ((Value.int .i64 x_1e.T.Count) :: (v_1k :: (c_1l ++ (c_1m ++ (c_1n ++ (v_1o :: [])))))))) : List Value)[196]? = some _ from (gt_cons (n := 195) (by omega) (gt_cons (n := 194) (by omega) (gt_cons (n := 193) (by omega) (gt_cons (n := 192) (by omega) (gt_skip (n := 128) (Desc.len _ r_1q) (by show _ = 64 + _; omega) (gt_skip (n := 64) (Desc.len _ r_1r) (by show _ = 64 + _; omega) (gt_skip (n := 0) (Desc.len _ r_1s) (by show _ = 64 + _; omega) gt_here))))))))))) ?_
          refine ev0 (rn_len rfl rfl Try.underlying39 r_1t) ?_
          apply go
          refine sel_of (fun hc => ?_) (fun hc => ?_)
          ·
            have q_2e := cond_t q_2e hc
            apply go
            obtain ⟨y_2g, q_2h, q_2e⟩ := bind_some q_2e
            refine W.cut (γ := Bool) (fun g => [(0, (.pointer (some ⟨g_1, 0, none⟩))), (9, (.pointer (some ⟨g_k, 0, none⟩))), (10, (.int .i64 x_v)), (11, v_1z), (12, (.int .i64 x_1y)), (13, (.bool (g))), (14, (.int .i64 x_2c))]) (fun g w' => y_2g = (g) ∧ w_22 = w') ?_ ?_
            ·
              apply go
              apply go
              refine sel_of (fun hc => ?_) (fun hc => ?_)
              ·
                have q_2h := cond_t q_2h hc
                obtain rfl := Option.some.inj q_2h
                exact ⟨true, (.c rfl (.c rfl (.c rfl (.c rfl (.c rfl (.c rfl (.c rfl .n))))))), rfl, rfl⟩
              ·
                have q_2h := cond_f q_2h hc
                refine ev0 (rn_field rfl rfl FO65_4) ?_
                refine ev (rn_load rfl rfl (run_loadVar1 T39 (hp.cell (i := 0) (off := 196) rfl (show (((Value.int .i64 x_1e.T.Kind) :: ((Value.int .i64 x_1e.T.Name) :: ((Value.int .i64 x_1e.T.Count) :: (v_1k :: (c_1l ++ (c_1m ++ (c_1n ++ (v_1o :: [])))))))) : List Value)[196]? = some _ from (gt_cons (n := 195) (by omega) (gt_cons (n := 194) (by omega) (gt_cons (n := 193) (by omega) (gt_cons (n := 192) (by omega) (gt_skip (n := 128) (Desc.len _ r_1q) (by show _ = 64 + _; omega) (gt_skip (n := 64) (Desc.len _ r_1r) (by show _ = 64 + _; omega) (gt_skip (n := 0) (Desc.len _ r_1s) (by show _ = 64 + _; omega) gt_here))))))))))) ?_
                obtain ⟨x_2i, q_2j, q_2h⟩ := bind_some q_2h
                refine ev_index rfl rfl rfl Try.underlying39 T3 r_1t q_2j ?_
                intro p_2k c_2l d_2m a_2n
                obtain rfl : c_2l = [(.int .i64 x_2i)] := d_2m
                refine ev (rn_load rfl rfl (run_loadVar1 T3 (a_2n.2 0 _ rfl))) ?_
                refine sel_of (fun hc => ?_) (fun hc => ?_)
                ·
                  have q_2h := cond_t q_2h hc
                  refine ev0 (rn_field rfl rfl FO65_3) ?_
                  obtain ⟨x_2o, q_2p, q_2h⟩ := bind_some q_2h
                  refine ev_indexA (cs := ((Value.int .i64 x_1e.T.Kind) :: ((Value.int .i64 x_1e.T.Name) :: ((Value.int .i64 x_1e.T.Count) :: (v_1k :: (c_1l ++ (c_1m ++ (c_1n ++ (v_1o :: []))))))))) rfl rfl rfl Try.underlying62 T3 (SubA.consA (n := 131) (m := 132) rfl (SubA.consA (n := 130) (m := 131) rfl (SubA.consA (n := 129) (m := 130) rfl (SubA.consA (n := 128) (m := 129) rfl (SubA.skipA (n := 64) (m := 128) (Desc.len _ r_1q) rfl (SubA.skipA (n := 0) (m := 64) (Desc.len _ r_1r) rfl (SubA.pre r_1s))))))) q_2p ?_
                  refine ev (rn_load rfl rfl (run_loadVar1 T3 (hp.cell (i := 0) rfl ((SubA.consA (n := 131) (m := 132) rfl (SubA.consA (n := 130) (m := 131) rfl (SubA.consA (n := 129) (m := 130) rfl (SubA.consA (n := 128) (m := 129) rfl (SubA.skipA (n := 64) (m := 128) (Desc.len _ r_1q) rfl (SubA.skipA (n := 0) (m := 64) (Desc.len _ r_1r) rfl (SubA.pre r_1s))))))).el q_2p).int))) ?_
                  obtain rfl := Option.some.inj q_2h
                  exact ⟨(x_2o == 1), (.c rfl (.c rfl (.c rfl (.c rfl (.c rfl (.c rfl (.c rfl .n))))))), rfl, rfl⟩
                ·
                  have q_2h := cond_f q_2h hc
                  obtain rfl := Option.some.inj q_2h
                  exact ⟨false, (.c rfl (.c rfl (.c rfl (.c rfl (.c rfl (.c rfl (.c rfl .n))))))), rfl, rfl⟩
            ·
              rintro x_2q _ ⟨hy, rfl⟩
              replace hy := hy.symm
              subst hy
              apply go
              exact ⟨_, (Option.some.inj q_2e).symm, (), (.c rfl (.c rfl (.c rfl (.c rfl (.c rfl (.c rfl (.c rfl .n))))))), rfl⟩
          ·
            have q_2e := cond_f q_2e hc
            apply go
            have q_2r := congrArg some (q_2f _ (Option.some.inj q_2e).symm)
            obtain rfl := Option.some.inj q_2r
            exact ⟨x_2b, (.c rfl (.c rfl (.c rfl (.c rfl (.c rfl (.c rfl .n)))))), rfl, rfl⟩
        ·
          rintro x_2s _ ⟨hy, rfl⟩
          replace hy := hy.symm
          subst hy
          obtain ⟨y_2t, q_2u, q_28⟩ := bind_some q_28
          refine W.cut (γ := Bool) (fun g => [(0, (.pointer (some ⟨g_1, 0, none⟩))), (9, (.pointer (some ⟨g_k, 0, none⟩))), (10, (.int .i64 x_v)), (11, v_1z), (12, (.int .i64 x_1y)), (99, (.bool (g)))]) (fun g w' => y_2t = (g) ∧ w_22 = w') ?_ ?_
          ·
            apply go
            obtain ⟨x_2v, q_2w, q_2u⟩ := bind_some q_2u
            refine ev_indexA rfl rfl rfl Try.underlying63 T4 (SubA.top r_p) q_2w ?_
            refine ev (rn_load rfl rfl (run_loadVar1 T4 (hp.cell (i := 1) rfl ((SubA.top r_p).el q_2w).bool))) ?_
            refine sel_of (fun hc => ?_) (fun hc => ?_)
            ·
              have q_2u := cond_t q_2u hc
              refine ev0 (rn_field rfl rfl FO65_3) ?_
              obtain ⟨x_2x, q_2y, q_2u⟩ := bind_some q_2u
              refine ev_indexA (cs := ((Value.int .i64 x_1e.T.Kind) :: ((Value.int .i64 x_1e.T.Name) :: ((Value.int .i64 x_1e.T.Count) :: (v_1k :: (c_1l ++ (c_1m ++ (c_1n ++ (v_1o :: []))))))))) rfl rfl rfl Try.underlying62 T3 (SubA.consA (n := 131) (m := 132) rfl (SubA.consA (n := 130) (m := 131) rfl (SubA.consA (n := 129) (m := 130) rfl (SubA.consA (n := 128) (m := 129) rfl (SubA.skipA (n := 64) (m := 128) (Desc.len _ r_1q) rfl (SubA.skipA (n := 0) (m := 64) (Desc.len _ r_1r) rfl (SubA.pre r_1s))))))) q_2y ?_
              refine ev (rn_load rfl rfl (run_loadVar1 T3 (hp.cell (i := 0) rfl ((SubA.consA (n := 131) (m := 132) rfl (SubA.consA (n := 130) (m := 131) rfl (SubA.consA (n := 129) (m := 130) rfl (SubA.consA (n := 128) (m := 129) rfl (SubA.skipA (n := 64) (m := 128) (Desc.len _ r_1q) rfl (SubA.skipA (n := 0) (m := 64) (Desc.len _ r_1r) rfl (SubA.pre r_1s))))))).el q_2y).int))) ?_
              refine sel_of (fun hc => ?_) (fun hc => ?_)
              ·
                have q_2u := cond_t q_2u hc
                obtain rfl := Option.some.inj q_2u
                exact ⟨true, (.c rfl (.c rfl (.c rfl (.c rfl (.c rfl (.c rfl .n)))))), rfl, rfl⟩
              ·
                have q_2u := cond_f q_2u hc
                refine sel_of (fun hc => ?_) (fun hc => ?_)
                ·
                  have q_2u := cond_t q_2u hc
                  refine ev0 (rn_field rfl rfl FO65_2) ?_
                  obtain ⟨x_2z, q_30, q_2u⟩ := bind_some q_2u
                  refine ev_indexA (cs := ((Value.int .i64 x_1e.T.Kind) :: ((Value.int .i64 x_1e.T.Name) :: ((Value.int .i64 x_1e.T.Count) :: (v_1k :: (c_1l ++ (c_1m ++ (c_1n ++ (v_1o :: []))))))))) rfl rfl rfl Try.underlying63 T4 (SubA.consA (n := 67) (m := 68) rfl (SubA.consA (n := 66) (m := 67) rfl (SubA.consA (n := 65) (m := 66) rfl (SubA.consA (n := 64) (m := 65) rfl (SubA.skipA (n := 0) (m := 64) (Desc.len _ r_1q) rfl (SubA.pre r_1r)))))) q_30 ?_
                  refine ev (rn_load rfl rfl (run_loadVar1 T4 (hp.cell (i := 0) rfl ((SubA.consA (n := 67) (m := 68) rfl (SubA.consA (n := 66) (m := 67) rfl (SubA.consA (n := 65) (m := 66) rfl (SubA.consA (n := 64) (m := 65) rfl (SubA.skipA (n := 0) (m := 64) (Desc.len _ r_1q) rfl (SubA.pre r_1r)))))).el q_30).bool))) ?_
                  obtain rfl := Option.some.inj q_2u
                  exact ⟨(!x_2z), (.c rfl (.c rfl (.c rfl (.c rfl (.c rfl (.c rfl .n)))))), rfl, rfl⟩
                ·
                  have q_2u := cond_f q_2u hc
                  obtain rfl := Option.some.inj q_2u
                  exact ⟨false, (.c rfl (.c rfl (.c rfl (.c rfl (.c rfl (.c rfl .n)))))), rfl, rfl⟩
            ·
              have q_2u := cond_f q_2u hc
              refine sel_of (fun hc => ?_) (fun hc => ?_)
              ·
                have q_2u := cond_t q_2u hc
                refine ev0 (rn_field rfl rfl FO65_2) ?_
                obtain ⟨x_31, q_32, q_2u⟩ := bind_some q_2u
                refine ev_indexA (cs := ((Value.int .i64 x_1e.T.Kind) :: ((Value.int .i64 x_1e.T.Name) :: ((Value.int .i64 x_1e.T.Count) :: (v_1k :: (c_1l ++ (c_1m ++ (c_1n ++ (v_1o :: []))))))))) rfl rfl rfl Try.underlying63 T4 (SubA.consA (n := 67) (m := 68) rfl (SubA.consA (n := 66) (m := 67) rfl (SubA.consA (n := 65) (m := 66) rfl (SubA.consA (n := 64) (m := 65) rfl (SubA.skipA (n := 0) (m := 64) (Desc.len _ r_1q) rfl (SubA.pre r_1r)))))) q_32 ?_
                refine ev (rn_load rfl rfl (run_loadVar1 T4 (hp.cell (i := 0) rfl ((SubA.consA (n := 67) (m := 68) rfl (SubA.consA (n := 66) (m := 67) rfl (SubA.consA (n := 65) (m := 66) rfl (SubA.consA (n := 64) (m := 65) rfl (SubA.skipA (n := 0) (m := 64) (Desc.len _ r_1q) rfl (SubA.pre r_1r)))))).el q_32).bool))) ?_
                obtain rfl := Option.some.inj q_2u
                exact ⟨(!x_31), (.c rfl (.c rfl (.c rfl (.c rfl (.c rfl (.c rfl .n)))))), rfl, rfl⟩
              ·
                have q_2u := cond_f q_2u hc
                obtain rfl := Option.some.inj q_2u
                exact ⟨false, (.c rfl (.c rfl (.c rfl (.c rfl (.c rfl (.c rfl .n)))))), rfl, rfl⟩
          ·
            rintro x_33 _ ⟨hy, rfl⟩
            replace hy := hy.symm
            subst hy
            apply go
            refine sel_of (fun hc => ?_) (fun hc => ?_)
            ·
              have q_28 := cond_t q_28 hc
              apply go
              refine ev_litN (d := (dI .i64)) (xs := [x_1y]) (cs := [(.int .i64 x_1y)]) hp rfl rfl Try.underlying39 T3 (by decide) rfl rfl (Elems.cons (d := (dI .i64)) (xs := _) rfl (Elems.nil _ _ _ _)) ?_
              intro v_34 I_35 w_36 hp hs r_37
              replace o_24 := o_24.step hs
              replace r_1p := r_1p.step hs
              replace r_1q := r_1q.step hs
              replace r_1r := r_1r.step hs
              replace r_1s := r_1s.step hs
              replace r_1t := r_1t.step hs
              replace r_p := r_p.step hs
              obtain ⟨x_38, q_39, q_28⟩ := bind_some q_28
              refine ev_append hp (i := 2) rfl rfl rfl rfl Try.underlying39 T3 rfl rfl o_24 r_37 q_39 ?_
              rintro v_3a e_3b w_3c hp hs o_3d
              replace r_1p := r_1p.step hs
              replace r_1q := r_1q.step hs
              replace r_1r := r_1r.step hs
              replace r_1s := r_1s.step hs
              replace r_1t := r_1t.step hs
              replace r_p := r_p.step hs
              obtain rfl := Option.some.inj q_28
              exact ⟨(x_38, v_3a, e_3b, I_35), (.c rfl (.c rfl (.c rfl (.c rfl (.c rfl .n))))), rfl, hp, r_1p, r_1q, r_1r, r_1s, r_1t, r_p, o_3d⟩
            ·
              have q_28 := cond_f q_28 hc
              apply go
              obtain rfl := Option.some.inj q_28
              exact ⟨(x_1x, v_1z, e_20, I_21), (.c rfl (.c rfl (.c rfl (.c rfl (.c rfl .n))))), rfl, hp, r_1p, r_1q, r_1r, r_1s, r_1t, r_p, o_24⟩
      ·
        rintro ⟨x_3e, v_3f, e_3g, I_3h⟩ w_3i ⟨hy, hp, r_1p, r_1q, r_1r, r_1s, r_1t, r_p, o_3j⟩
        replace hy := hy.symm
        subst hy
        apply go
        exact ⟨_, (Option.some.inj q_25).symm, (v_3f, e_3g, I_3h), (.c rfl (.c rfl (.c rfl (.c rfl (.c rfl .n))))), ⟨hp, r_1p, r_1q, r_1r, r_1s, r_1t, r_p, o_3j⟩⟩
    ·
      have q_25 := cond_f q_25 hc
      apply go
      have q_3k := congrArg some (q_26 _ (Option.some.inj q_25).symm)
      obtain rfl := Option.some.inj q_3k
      have hp := hp.sel [0, 2] (by decide)
      exact ⟨(x_1x, v_1z, e_20, I_21), (.c rfl (.c rfl (.c rfl .n))), rfl, hp, r_1p, r_1q, r_1r, r_1s, r_1t, o_24⟩
  ·
    rintro ⟨x_3l, v_3m, e_3n, I_3o⟩ w_3p ⟨hy, hp, r_1p, r_1q, r_1r, r_1s, r_1t, o_3q⟩
    replace hy := hy.symm
    subst hy
    apply go
    refine W.quiet (fun w' => Ch [] w_3p w') MX (by kernel_rfl) (Ch.drew [] w_3p) ?_
    refine evq0 (rn_field rfl rfl FO65_4) ?_
    refine evq (fun w' hw => rn_load rfl rfl (run_loadVar1 T39 ((hp.ext hw).cell (i := 0) (off := 196) rfl (show (((Value.int .i64 x_1e.T.Kind) :: ((Value.int .i64 x_1e.T.Name) :: ((Value.int .i64 x_1e.T.Count) :: (v_1k :: (c_1l ++ (c_1m ++ (c_1n ++ (v_1o :: [])))))))) : List Value)[196]? = some _ from (gt_cons (n := 195) (by omega) (gt_cons (n := 194) (by omega) (gt_cons (n := 193) (by omega) (gt_cons (n := 192) (by omega) (gt_skip (n := 128) (Desc.len _ r_1q) (by show _ = 64 + _; omega) (gt_skip (n := 64) (Desc.len _ r_1r) (by show _ = 64 + _; omega) (gt_skip (n := 0) (Desc.len _ r_1s) (by show _ = 64 + _; omega) gt_here))))))))))) ?_
    intro w_3r hc
    have hs := hp.stp hc
    replace hp := hp.ext hc
    replace r_1t := r_1t.step hs
    replace o_3q := o_3q.step hs
    replace r_1p := r_1p.step hs
    replace r_1q := r_1q.step hs
    replace r_1r := r_1r.step hs
    replace r_1s := r_1s.step hs
    apply go
    obtain rfl := Option.some.inj h
    have r_3s := o_3q.frz hp (i := 1) rfl
    obtain ⟨hp, hs⟩ := freeze_hp hp (i := 1) rfl
    replace r_1t := r_1t.step hs
    replace r_1p := r_1p.step hs
    replace r_1q := r_1q.step hs
    replace r_1r := r_1r.step hs
    replace r_1s := r_1s.step hs
    have hp := hp.sel [0] (by decide)
    exact ⟨(Ad I_3o e_3n), v_1o, v_3m, [some (g_1, ((Value.int .i64 x_1e.T.Kind) :: ((Value.int .i64 x_1e.T.Name) :: ((Value.int .i64 x_1e.T.Count) :: (v_1k :: (c_1l ++ (c_1m ++ (c_1n ++ (v_1o :: [])))))))), 65)], rfl, hp, r_1t, r_3s, ⟨v_1k, c_1l, c_1m, c_1n, v_1o, rfl, r_1p, r_1q, r_1r, r_1s, r_1t⟩⟩

end Go.Proofs.Ytknnmbcaoekgmaa

namespace Go.Proofs.Ytknnmbcaoekgmaa
open Go Go.Proofs.Ytknnmbcaoekgmaa.Gw Go.RowKit
set_option linter.unusedVariables false
attribute [local irreducible] Ev EvQ EvS EvH
def ref41_Runner_Active_S (f : Runner_2 → Option ((List Int) × Runner_2)) : Prop := ∀ (w0 : World) (I0 : Nat → Prop) (x_0 : Runner_2) (g_1 : Nat) (E_2 : List Ent) (q_3 : qW w0 I0 g_1 E_2 x_0) (hp : Hp ⟨w0, I0, blks E_2⟩ I0 E_2 w0) (r : ((List Int) × Runner_2)), f x_0 = some r →
    Ret Try.prog 34 #[(.pointer (some ⟨g_1, 0, none⟩))] w0 fun v w1 => ∃ (I1 : Nat → Prop) (u_4 : Value) (u_5 : List Ent), v = u_4 ∧ Hp ⟨w0, I0, blks E_2⟩ I1 u_5 w1 ∧ RepS (dI .i64) w1 I1 u_4 r.1 ∧ qW w1 I1 g_1 u_5 r.2
theorem ref41_Runner_Active_ok (n : Nat) : ref41_Runner_Active_S (ref41_Runner_Active n) := by
  intro w0 I0 x_0 g_1 E_2 q_3 hp r h
  unfold ref41_Runner_Active at h
  refine enter Try.func34 rfl (Nat.le_of_ble_eq_true rfl) ?_
  generalize blks E_2 = B at hp ⊢
  obtain ⟨v_4, c_5, c_6, c_7, v_8, rfl, r_9, r_a, r_b, r_c, r_d⟩ := q_3
  have hp : Hp ⟨w0, I0, B⟩ I0 [some (g_1, ((Value.int .i64 x_0.T.Kind) :: ((Value.int .i64 x_0.T.Name) :: ((Value.int .i64 x_0.T.Count) :: (v_4 :: (c_5 ++ (c_6 ++ (c_7 ++ (v_8 :: [])))))))), 65)] w0 := hp
  apply go
  apply go
  apply go
  apply go
  apply go
  refine ev0 (rn_eqNilP rfl rfl rfl Try.underlying35 (b := false) rfl) ?_
  apply go
  apply go
  apply go
  apply go
  obtain ⟨y_e, q_f, h⟩ := bind_some h
  refine W.cut (γ := ((List Int) × Value × Ent × (Nat → Prop))) (fun g => [(3, (g.2.1))]) (fun g w' => y_e = (g.1) ∧ Hp ⟨w0, I0, B⟩ (g.2.2.2) [(g.2.2.1), some (g_1, ((Value.int .i64 x_0.T.Kind) :: ((Value.int .i64 x_0.T.Name) :: ((Value.int .i64 x_0.T.Count) :: (v_4 :: (c_5 ++ (c_6 ++ (c_7 ++ (v_8 :: [])))))))), 65)] w' ∧ OwnS (dI .i64) 3 w' (g.2.2.2) (g.2.1) (g.2.2.1) (g.1) ∧ RepS dNode w' (g.2.2.2) v_4 x_0.T.Kids ∧ (dA 64 (dI .i64)).rep w' (g.2.2.2) c_5 x_0.Counters ∧ (dA 64 dB).rep w' (g.2.2.2) c_6 x_0.On ∧ (dA 64 (dI .i64)).rep w' (g.2.2.2) c_7 x_0.Status ∧ RepS (dI .i64) w' (g.2.2.2) v_8 x_0.Ticked) ?_ ?_
  ·
    apply go
    apply go
    apply go
    have hp := hp.none_
    have o_g := OwnS.nil (dI .i64) 3 w0 I0
    have hp := hp.perm [1, 0] (by decide)
    refine W.loop q_f (γ := (Value × Ent × (Nat → Prop))) (fun s g => [(0, (.pointer (some ⟨g_1, 0, none⟩))), (3, (g.1)), (4, (.int .i64 (s.2)))]) (fun s g w' => Hp ⟨w0, I0, B⟩ (g.2.2) [some (g_1, ((Value.int .i64 x_0.T.Kind) :: ((Value.int .i64 x_0.T.Name) :: ((Value.int .i64 x_0.T.Count) :: (v_4 :: (c_5 ++ (c_6 ++ (c_7 ++ (v_8 :: [])))))))), 65), (g.2.1)] w' ∧ RepS dNode w' (g.2.2) v_4 x_0.T.Kids ∧ (dA 64 (dI .i64)).rep w' (g.2.2) c_5 x_0.Counters ∧ (dA 64 dB).rep w' (g.2.2) c_6 x_0.On ∧ (dA 64 (dI .i64)).rep w' (g.2.2) c_7 x_0.Status ∧ RepS (dI .i64) w' (g.2.2) v_8 x_0.Ticked ∧ OwnS (dI .i64) 3 w' (g.2.2) (g.1) (g.2.1) (s.1)) ((.slice none 0 0), none, I0) (.c rfl (.c rfl (.c rfl .n))) ⟨hp, r_9, r_a, r_b, r_c, r_d, o_g⟩ ?_
    rintro ⟨x_h, x_i⟩ ⟨v_j, e_k, I_l⟩ w_m y_n ⟨hp, r_9, r_a, r_b, r_c, r_d, o_o⟩ q_p q_q
    unfold ref41_Runner_Active_L1 at q_p
    apply go
    apply go
    apply go
    apply go
    refine sel_of (fun hc => ?_) (fun hc => ?_)
    ·
      have q_p := cond_t q_p hc
      apply go
      obtain ⟨y_r, q_s, q_p⟩ := bind_some q_p
      refine W.cut (γ := ((List Int) × Value × Ent × (Nat → Prop))) (fun g => [(0, (.pointer (some ⟨g_1, 0, none⟩))), (3, (g.2.1)), (4, (.int .i64 x_i))]) (fun g w' => y_r = (g.1) ∧ Hp ⟨w0, I0, B⟩ (g.2.2.2) [some (g_1, ((Value.int .i64 x_0.T.Kind) :: ((Value.int .i64 x_0.T.Name) :: ((Value.int .i64 x_0.T.Count) :: (v_4 :: (c_5 ++ (c_6 ++ (c_7 ++ (v_8 :: [])))))))), 65), (g.2.2.1)] w' ∧ RepS dNode w' (g.2.2.2) v_4 x_0.T.Kids ∧ (dA 64 (dI .i64)).rep w' (g.2.2.2) c_5 x_0.Counters ∧ (dA 64 dB).rep w' (g.2.2.2) c_6 x_0.On ∧ (dA 64 (dI .i64)).rep w' (g.2.2.2) c_7 x_0.Status ∧ RepS (dI .i64) w' (g.2.2.2) v_8 x_0.Ticked ∧ OwnS (dI .i64) 3 w' (g.2.2.2) (g.2.1) (g.2.2.1) (g.1)) ?_ ?_
      ·
        apply go
        apply go
        apply go
        refine ev0 (rn_field rfl rfl FO65_2) ?_
        obtain ⟨x_t, q_u, q_s⟩ := bind_some q_s
        refine ev_indexA (cs := ((Value.int .i64 x_0.T.Kind) :: ((Value.int .i64 x_0.T.Name) :: ((Value.int .i64 x_0.T.Count) :: (v_4 :: (c_5 ++ (c_6 ++ (c_7 ++ (v_8 :: []))))))))) rfl rfl rfl Try.underlying63 T4 (SubA.consA (n := 67) (m := 68) rfl (SubA.consA (n := 66) (m := 67) rfl (SubA.consA (n := 65) (m := 66) rfl (SubA.consA (n := 64) (m := 65) rfl (SubA.skipA (n := 0) (m := 64) (Desc.len _ r_a) rfl (SubA.pre r_b)))))) q_u ?_
        refine ev (rn_load rfl rfl (run_loadVar1 T4 (hp.cell (i := 0) rfl ((SubA.consA (n := 67) (m := 68) rfl (SubA.consA (n := 66) (m := 67) rfl (SubA.consA (n := 65) (m := 66) rfl (SubA.consA (n := 64) (m := 65) rfl (SubA.skipA (n := 0) (m := 64) (Desc.len _ r_a) rfl (SubA.pre r_b)))))).el q_u).bool))) ?_
        apply go
        refine sel_of (fun hc => ?_) (fun hc => ?_)
        ·
          have q_s := cond_t q_s hc
          apply go
          refine ev_litN (d := (dI .i64)) (xs := [x_i]) (cs := [(.int .i64 x_i)]) hp rfl rfl Try.underlying39 T3 (by decide) rfl rfl (Elems.cons (d := (dI .i64)) (xs := _) rfl (Elems.nil _ _ _ _)) ?_
          intro v_v I_w w_x hp hs r_y
          replace o_o := o_o.step hs
          replace r_9 := r_9.step hs
          replace r_a := r_a.step hs
          replace r_b := r_b.step hs
          replace r_c := r_c.step hs
          replace r_d := r_d.step hs
          obtain ⟨x_z, q_10, q_s⟩ := bind_some q_s
          refine ev_append hp (i := 1) rfl rfl rfl rfl Try.underlying39 T3 rfl rfl o_o r_y q_10 ?_
          rintro v_11 e_12 w_13 hp hs o_14
          replace r_9 := r_9.step hs
          replace r_a := r_a.step hs
          replace r_b := r_b.step hs
          replace r_c := r_c.step hs
          replace r_d := r_d.step hs
          obtain rfl := Option.some.inj q_s
          exact ⟨(x_z, v_11, e_12, I_w), (.c rfl (.c rfl (.c rfl .n))), rfl, hp, r_9, r_a, r_b, r_c, r_d, o_14⟩
        ·
          have q_s := cond_f q_s hc
          apply go
          obtain rfl := Option.some.inj q_s
          exact ⟨(x_h, v_j, e_k, I_l), (.c rfl (.c rfl (.c rfl .n))), rfl, hp, r_9, r_a, r_b, r_c, r_d, o_o⟩
      ·
        rintro ⟨x_15, v_16, e_17, I_18⟩ w_19 ⟨hy, hp, r_9, r_a, r_b, r_c, r_d, o_1a⟩
        replace hy := hy.symm
        subst hy
        apply go
        exact ⟨_, (Option.some.inj q_p).symm, (v_16, e_17, I_18), (.c rfl (.c rfl (.c rfl .n))), ⟨hp, r_9, r_a, r_b, r_c, r_d, o_1a⟩⟩
    ·
      have q_p := cond_f q_p hc
      apply go
      have q_1b := congrArg some (q_q _ (Option.some.inj q_p).symm)
      obtain rfl := Option.some.inj q_1b
      have hp := hp.perm [1, 0] (by decide)
      exact ⟨(x_h, v_j, e_k, I_l), (.c rfl .n), rfl, hp, o_o, r_9, r_a, r_b, r_c, r_d⟩
  ·
    rintro ⟨x_1c, v_1d, e_1e, I_1f⟩ w_1g ⟨hy, hp, o_1h, r_9, r_a, r_b, r_c, r_d⟩
    replace hy := hy.symm
    subst hy
    apply go
    apply go
    apply go
    obtain rfl := Option.some.inj h
    have r_1i := o_1h.frz hp (i := 0) rfl
    obtain ⟨hp, hs⟩ := freeze_hp hp (i := 0) rfl
    replace r_9 := r_9.step hs
    replace r_a := r_a.step hs
    replace r_b := r_b.step hs
    replace r_c := r_c.step hs
    replace r_d := r_d.step hs
    have hp := hp.sel [1] (by decide)
    exact ⟨(Ad I_1f e_1e), v_1d, [some (g_1, ((Value.int .i64 x_0.T.Kind) :: ((Value.int .i64 x_0.T.Name) :: ((Value.int .i64 x_0.T.Count) :: (v_4 :: (c_5 ++ (c_6 ++ (c_7 ++ (v_8 :: [])))))))), 65)], rfl, hp, r_1i, ⟨v_4, c_5, c_6, c_7, v_8, rfl, r_9, r_a, r_b, r_c, r_d⟩⟩

end Go.Proofs.Ytknnmbcaoekgmaa

namespace Go.Proofs.Ytknnmbcaoekgmaa
open Go Go.Proofs.Ytknnmbcaoekgmaa.Gw Go.RowKit
set_option linter.unusedVariables false
attribute [local irreducible] Ev EvQ EvS EvH
def law41_same_S (f : Runner → Runner_2 → Input → Option (Bool × Runner × Runner_2)) : Prop := ∀ (w0 : World) (I0 : Nat → Prop) (x_0 : Runner) (g_1 : Nat) (E_2 : List Ent) (q_3 : qR w0 I0 g_1 E_2 x_0) (x_4 : Runner_2) (g_5 : Nat) (E_6 : List Ent) (q_7 : qW w0 I0 g_5 E_6 x_4) (x_8 : Input) (v_9 : Value) (r_a : RepS (dI .i64) w0 I0 v_9 x_8.Actions) (v_b : Value) (r_c : RepS dB w0 I0 v_b x_8.Tests) (hp : Hp ⟨w0, I0, blks (E_2 ++ E_6)⟩ I0 (E_2 ++ E_6) w0) (r : (Bool × Runner × Runner_2)), f x_0 x_4 x_8 = some r →
    Ret Try.prog 19 #[(.pointer (some ⟨g_1, 0, none⟩)), (.pointer (some ⟨g_5, 0, none⟩)), (.agg #[v_9, v_b])] w0 fun v w1 => ∃ (I1 : Nat → Prop) (u_d : List Ent) (u_e : List Ent), v = (.bool r.1) ∧ Hp ⟨w0, I0, blks (E_2 ++ E_6)⟩ I1 (u_d ++ u_e) w1 ∧ qR w1 I1 g_1 u_d r.2.1 ∧ qW w1 I1 g_5 u_e r.2.2
theorem law41_same_ok (n : Nat) : law41_same_S (law41_same n) := by
  intro w0 I0 x_0 g_1 E_2 q_3 x_4 g_5 E_6 q_7 x_8 v_9 r_a v_b r_c hp r h
  unfold law41_same at h
  refine enter Try.func19 rfl (Nat.le_of_ble_eq_true rfl) ?_
  generalize blks (E_2 ++ E_6) = B at hp ⊢
  obtain ⟨v_d, v_e, e_f, v_g, e_h, rfl, r_i, o_j, o_k⟩ := q_3
  obtain ⟨v_l, c_m, c_n, c_o, v_p, rfl, r_q, r_r, r_s, r_t, r_u⟩ := q_7
  have hp : Hp ⟨w0, I0, B⟩ I0 [some (g_1, [v_d, v_e, v_g], 61), e_f, e_h, some (g_5, ((Value.int .i64 x_4.T.Kind) :: ((Value.int .i64 x_4.T.Name) :: ((Value.int .i64 x_4.T.Count) :: (v_l :: (c_m ++ (c_n ++ (c_o ++ (v_p :: [])))))))), 65)] w0 := hp
  apply go
  apply go
  refine ev_boxI hp rfl rfl ?_
  intro p_v I_w w_x hp hs a_y
  replace r_a := r_a.step hs
  replace r_c := r_c.step hs
  replace r_i := r_i.step hs
  replace o_j := o_j.step hs
  replace o_k := o_k.step hs
  replace r_q := r_q.step hs
  replace r_r := r_r.step hs
  replace r_s := r_s.step hs
  replace r_t := r_t.step hs
  replace r_u := r_u.step hs
  apply go
  apply go
  refine ev0 (rn_field rfl rfl FO42_0) ?_
  refine ev (rn_load rfl rfl (run_loadVar1 T39 (a_y.2 0 _ rfl))) ?_
  refine ev0 (rn_field rfl rfl FO42_1) ?_
  refine ev (rn_load rfl rfl (run_loadVar1 T40 (a_y.2 1 _ rfl))) ?_
  obtain ⟨⟨x_z, x_10, x_11, x_12⟩, q_13, h⟩ := bind_some h
  refine ev_call rfl rfl C21 (((tree_Runner_Tick_ok n) _ _  (Runner.mk x_0.nodes x_0.counters x_0.active) g_1 [some (g_1, [v_d, v_e, v_g], 61), e_f, e_h] ⟨v_d, v_e, e_f, v_g, e_h, rfl, r_i, o_j, o_k⟩ x_8.Actions v_9 r_a x_8.Tests v_b r_c (hp.lendL [0, 1, 2] (by decide)) _ q_13).mono ?_)
  rintro _ w_14 ⟨I_15, v_16, v_17, F_18, hv, hq10611, r_19, r_1a, q_1b⟩
  replace hv := hv.symm
  subst hv
  obtain ⟨v_1c, v_1d, e_1e, v_1f, e_1g, rfl, r_1h, o_1i, o_1j⟩ := q_1b
  have hs := hq10611.st
  have hp := hp.backL [0, 1, 2] [3] (by decide) hq10611
  replace a_y := a_y.step hs
  replace r_a := r_a.step hs
  replace r_c := r_c.step hs
  replace r_q := r_q.step hs
  replace r_r := r_r.step hs
  replace r_s := r_s.step hs
  replace r_t := r_t.step hs
  replace r_u := r_u.step hs
  apply go
  apply go
  refine ev0 (rn_field rfl rfl FO42_0) ?_
  refine ev (rn_load rfl rfl (run_loadVar1 T39 (a_y.2 0 _ rfl))) ?_
  refine ev0 (rn_field rfl rfl FO42_1) ?_
  refine ev (rn_load rfl rfl (run_loadVar1 T40 (a_y.2 1 _ rfl))) ?_
  obtain ⟨⟨x_1k, x_1l, x_1m, x_1n⟩, q_1o, h⟩ := bind_some h
  refine ev_call rfl rfl C33 (((ref41_Runner_Tick_ok n) _ _  (Runner_2.mk (Node.mk x_4.T.Kind x_4.T.Name x_4.T.Count x_4.T.Kids) x_4.Counters x_4.On x_4.Status x_4.Ticked) g_5 [some (g_5, ((Value.int .i64 x_4.T.Kind) :: ((Value.int .i64 x_4.T.Name) :: ((Value.int .i64 x_4.T.Count) :: (v_l :: (c_m ++ (c_n ++ (c_o ++ (v_p :: [])))))))), 65)] ⟨v_l, c_m, c_n, c_o, v_p, rfl, r_q, r_r, r_s, r_t, r_u⟩ x_8.Actions v_9 r_a x_8.Tests v_b r_c (hp.lendL [3] (by decide)) _ q_1o).mono ?_)
  rintro _ w_1p ⟨I_1q, v_1r, v_1s, F_1t, hv, hq10633, r_1u, r_1v, q_1w⟩
  replace hv := hv.symm
  subst hv
  obtain ⟨v_1x, c_1y, c_1z, c_20, v_21, rfl, r_22, r_23, r_24, r_25, r_26⟩ := q_1w
  have hs := hq10633.st
  have hp := hp.backL [3] [0, 1, 2] (by decide) hq10633
  replace r_19 := r_19.step hs
  replace r_1a := r_1a.step hs
  replace r_1h := r_1h.step hs
  replace o_1i := o_1i.step hs
  replace o_1j := o_1j.step hs
  obtain ⟨y_27, q_28, h⟩ := bind_some h
  refine W.cut (γ := (Bool × (List Node_2) × (List Int) × (List Bool) × Int × Int × Int × (List Node) × (List Int) × (List Bool) × (List Int) × (List Int) × Value × Value × Ent × Value × Ent × Value × (List Value) × (List Value) × (List Value) × Value × (Nat → Prop))) (fun g => [(6, (.bool (g.1)))]) (fun g w' => y_27 = ((g.1), (g.2.1), (g.2.2.1), (g.2.2.2.1), (g.2.2.2.2.1), (g.2.2.2.2.2.1), (g.2.2.2.2.2.2.1), (g.2.2.2.2.2.2.2.1), (g.2.2.2.2.2.2.2.2.1), (g.2.2.2.2.2.2.2.2.2.1), (g.2.2.2.2.2.2.2.2.2.2.1), (g.2.2.2.2.2.2.2.2.2.2.2.1)) ∧ Hp ⟨w0, I0, B⟩ (g.2.2.2.2.2.2.2.2.2.2.2.2.2.2.2.2.2.2.2.2.2.2) [(g.2.2.2.2.2.2.2.2.2.2.2.2.2.2.1), (g.2.2.2.2.2.2.2.2.2.2.2.2.2.2.2.2.1), some (g_1, [(g.2.2.2.2.2.2.2.2.2.2.2.2.1), (g.2.2.2.2.2.2.2.2.2.2.2.2.2.1), (g.2.2.2.2.2.2.2.2.2.2.2.2.2.2.2.1)], 61), some (g_5, ((Value.int .i64 (g.2.2.2.2.1)) :: ((Value.int .i64 (g.2.2.2.2.2.1)) :: ((Value.int .i64 (g.2.2.2.2.2.2.1)) :: ((g.2.2.2.2.2.2.2.2.2.2.2.2.2.2.2.2.2.1) :: ((g.2.2.2.2.2.2.2.2.2.2.2.2.2.2.2.2.2.2.1) ++ ((g.2.2.2.2.2.2.2.2.2.2.2.2.2.2.2.2.2.2.2.1) ++ ((g.2.2.2.2.2.2.2.2.2.2.2.2.2.2.2.2.2.2.2.2.1) ++ ((g.2.2.2.2.2.2.2.2.2.2.2.2.2.2.2.2.2.2.2.2.2.1) :: [])))))))), 65)] w' ∧ RepS dNode_2 w' (g.2.2.2.2.2.2.2.2.2.2.2.2.2.2.2.2.2.2.2.2.2.2) (g.2.2.2.2.2.2.2.2.2.2.2.2.1) (g.2.1) ∧ OwnS (dI .i64) 3 w' (g.2.2.2.2.2.2.2.2.2.2.2.2.2.2.2.2.2.2.2.2.2.2) (g.2.2.2.2.2.2.2.2.2.2.2.2.2.1) (g.2.2.2.2.2.2.2.2.2.2.2.2.2.2.1) (g.2.2.1) ∧ OwnS dB 4 w' (g.2.2.2.2.2.2.2.2.2.2.2.2.2.2.2.2.2.2.2.2.2.2) (g.2.2.2.2.2.2.2.2.2.2.2.2.2.2.2.1) (g.2.2.2.2.2.2.2.2.2.2.2.2.2.2.2.2.1) (g.2.2.2.1) ∧ RepS dNode w' (g.2.2.2.2.2.2.2.2.2.2.2.2.2.2.2.2.2.2.2.2.2.2) (g.2.2.2.2.2.2.2.2.2.2.2.2.2.2.2.2.2.1) (g.2.2.2.2.2.2.2.1) ∧ (dA 64 (dI .i64)).rep w' (g.2.2.2.2.2.2.2.2.2.2.2.2.2.2.2.2.2.2.2.2.2.2) (g.2.2.2.2.2.2.2.2.2.2.2.2.2.2.2.2.2.2.1) (g.2.2.2.2.2.2.2.2.1) ∧ (dA 64 dB).rep w' (g.2.2.2.2.2.2.2.2.2.2.2.2.2.2.2.2.2.2.2.2.2.2) (g.2.2.2.2.2.2.2.2.2.2.2.2.2.2.2.2.2.2.2.1) (g.2.2.2.2.2.2.2.2.2.1) ∧ (dA 64 (dI .i64)).rep w' (g.2.2.2.2.2.2.2.2.2.2.2.2.2.2.2.2.2.2.2.2.2.2) (g.2.2.2.2.2.2.2.2.2.2.2.2.2.2.2.2.2.2.2.2.1) (g.2.2.2.2.2.2.2.2.2.2.1) ∧ RepS (dI .i64) w' (g.2.2.2.2.2.2.2.2.2.2.2.2.2.2.2.2.2.2.2.2.2.2) (g.2.2.2.2.2.2.2.2.2.2.2.2.2.2.2.2.2.2.2.2.2.1) (g.2.2.2.2.2.2.2.2.2.2.2.1)) ?_ ?_
  ·
    apply go
    refine sel_of (fun hc => ?_) (fun hc => ?_)
    ·
      have q_28 := cond_t q_28 hc
      obtain ⟨x_29, q_2a, q_28⟩ := bind_some q_28
      refine ev_call rfl rfl C25 (((base_Ints_ok n) _ _  x_10 v_16 r_19 x_1l v_1r r_1u hp.imm _ q_2a).mono ?_)
      rintro _ w_2b ⟨rfl, hc⟩
      have hs := hp.stp hc
      replace hp := hp.ext hc
      replace r_1a := r_1a.step hs
      replace r_1v := r_1v.step hs
      replace r_22 := r_22.step hs
      replace r_23 := r_23.step hs
      replace r_24 := r_24.step hs
      replace r_25 := r_25.step hs
      replace r_26 := r_26.step hs
      replace r_1h := r_1h.step hs
      replace o_1i := o_1i.step hs
      replace o_1j := o_1j.step hs
      refine sel_of (fun hc => ?_) (fun hc => ?_)
      ·
        have q_28 := cond_t q_28 hc
        obtain ⟨x_2c, q_2d, q_28⟩ := bind_some q_28
        refine ev_call rfl rfl C25 (((base_Ints_ok n) _ _  x_11 v_17 r_1a x_1m v_1s r_1v hp.imm _ q_2d).mono ?_)
        rintro _ w_2e ⟨rfl, hc⟩
        have hs := hp.stp hc
        replace hp := hp.ext hc
        replace r_22 := r_22.step hs
        replace r_23 := r_23.step hs
        replace r_24 := r_24.step hs
        replace r_25 := r_25.step hs
        replace r_26 := r_26.step hs
        replace r_1h := r_1h.step hs
        replace o_1i := o_1i.step hs
        replace o_1j := o_1j.step hs
        refine sel_of (fun hc => ?_) (fun hc => ?_)
        ·
          have q_28 := cond_t q_28 hc
          obtain ⟨⟨x_2f, x_2g⟩, q_2h, q_28⟩ := bind_some q_28
          refine ev_call rfl rfl C22 (((tree_Runner_Active_ok n) _ _  (Runner.mk x_12.nodes x_12.counters x_12.active) g_1 [some (g_1, [v_1c, v_1d, v_1f], 61), e_1e, e_1g] ⟨v_1c, v_1d, e_1e, v_1f, e_1g, rfl, r_1h, o_1i, o_1j⟩ (hp.lendL [1, 2, 3] (by decide)) _ q_2h).mono ?_)
          rintro _ w_2i ⟨I_2j, v_2k, F_2l, hv, hq10740, r_2m, q_2n⟩
          replace hv := hv.symm
          subst hv
          obtain ⟨v_2o, v_2p, e_2q, v_2r, e_2s, rfl, r_2t, o_2u, o_2v⟩ := q_2n
          have hs := hq10740.st
          have hp := hp.backL [1, 2, 3] [0] (by decide) hq10740
          replace r_22 := r_22.step hs
          replace r_23 := r_23.step hs
          replace r_24 := r_24.step hs
          replace r_25 := r_25.step hs
          replace r_26 := r_26.step hs
          obtain ⟨⟨x_2w, x_2x⟩, q_2y, q_28⟩ := bind_some q_28
          refine ev_call rfl rfl C34 (((ref41_Runner_Active_ok n) _ _  (Runner_2.mk (Node.mk x_1n.T.Kind x_1n.T.Name x_1n.T.Count x_1n.T.Kids) x_1n.Counters x_1n.On x_1n.Status x_1n.Ticked) g_5 [some (g_5, ((Value.int .i64 x_1n.T.Kind) :: ((Value.int .i64 x_1n.T.Name) :: ((Value.int .i64 x_1n.T.Count) :: (v_1x :: (c_1y ++ (c_1z ++ (c_20 ++ (v_21 :: [])))))))), 65)] ⟨v_1x, c_1y, c_1z, c_20, v_21, rfl, r_22, r_23, r_24, r_25, r_26⟩ (hp.lendL [3] (by decide)) _ q_2y).mono ?_)
          rintro _ w_2z ⟨I_30, v_31, F_32, hv, hq10758, r_33, q_34⟩
          replace hv := hv.symm
          subst hv
          obtain ⟨v_35, c_36, c_37, c_38, v_39, rfl, r_3a, r_3b, r_3c, r_3d, r_3e⟩ := q_34
          have hs := hq10758.st
          have hp := hp.backL [3] [0, 1, 2] (by decide) hq10758
          replace r_2m := r_2m.step hs
          replace r_2t := r_2t.step hs
          replace o_2u := o_2u.step hs
          replace o_2v := o_2v.step hs
          obtain ⟨x_3f, q_3g, q_28⟩ := bind_some q_28
          refine ev_call rfl rfl C25 (((base_Ints_ok n) _ _  x_2f v_2k r_2m x_2w v_31 r_33 hp.imm _ q_3g).mono ?_)
          rintro _ w_3h ⟨rfl, hc⟩
          have hs := hp.stp hc
          replace hp := hp.ext hc
          replace r_3a := r_3a.step hs
          replace r_3b := r_3b.step hs
          replace r_3c := r_3c.step hs
          replace r_3d := r_3d.step hs
          replace r_3e := r_3e.step hs
          replace r_2t := r_2t.step hs
          replace o_2u := o_2u.step hs
          replace o_2v := o_2v.step hs
          obtain rfl := Option.some.inj q_28
          have hp := hp.perm [2, 3, 1, 0] (by decide)
          exact ⟨(x_3f, x_2g.nodes, x_2g.counters, x_2g.active, x_2x.T.Kind, x_2x.T.Name, x_2x.T.Count, x_2x.T.Kids, x_2x.Counters, x_2x.On, x_2x.Status, x_2x.Ticked, v_2o, v_2p, e_2q, v_2r, e_2s, v_35, c_36, c_37, c_38, v_39, I_30), (.c rfl .n), rfl, hp, r_2t, o_2u, o_2v, r_3a, r_3b, r_3c, r_3d, r_3e⟩
        ·
          have q_28 := cond_f q_28 hc
          obtain rfl := Option.some.inj q_28
          have hp := hp.perm [2, 3, 1, 0] (by decide)
          exact ⟨(false, x_12.nodes, x_12.counters, x_12.active, x_1n.T.Kind, x_1n.T.Name, x_1n.T.Count, x_1n.T.Kids, x_1n.Counters, x_1n.On, x_1n.Status, x_1n.Ticked, v_1c, v_1d, e_1e, v_1f, e_1g, v_1x, c_1y, c_1z, c_20, v_21, I_1q), (.c rfl .n), rfl, hp, r_1h, o_1i, o_1j, r_22, r_23, r_24, r_25, r_26⟩
      ·
        have q_28 := cond_f q_28 hc
        obtain rfl := Option.some.inj q_28
        have hp := hp.perm [2, 3, 1, 0] (by decide)
        exact ⟨(false, x_12.nodes, x_12.counters, x_12.active, x_1n.T.Kind, x_1n.T.Name, x_1n.T.Count, x_1n.T.Kids, x_1n.Counters, x_1n.On, x_1n.Status, x_1n.Ticked, v_1c, v_1d, e_1e, v_1f, e_1g, v_1x, c_1y, c_1z, c_20, v_21, I_1q), (.c rfl .n), rfl, hp, r_1h, o_1i, o_1j, r_22, r_23, r_24, r_25, r_26⟩
    ·
      have q_28 := cond_f q_28 hc
      obtain rfl := Option.some.inj q_28
      have hp := hp.perm [2, 3, 1, 0] (by decide)
      exact ⟨(false, x_12.nodes, x_12.counters, x_12.active, x_1n.T.Kind, x_1n.T.Name, x_1n.T.Count, x_1n.T.Kids, x_1n.Counters, x_1n.On, x_1n.Status, x_1n.Ticked, v_1c, v_1d, e_1e, v_1f, e_1g, v_1x, c_1y, c_1z, c_20, v_21, I_1q), (.c rfl .n), rfl, hp, r_1h, o_1i, o_1j, r_22, r_23, r_24, r_25, r_26⟩
  ·
    rintro ⟨x_3i, x_3j, x_3k, x_3l, x_3m, x_3n, x_3o, x_3p, x_3q, x_3r, x_3s, x_3t, v_3u, v_3v, e_3w, v_3x, e_3y, v_3z, c_40, c_41, c_42, v_43, I_44⟩ w_45 ⟨hy, hp, r_46, o_47, o_48, r_49, r_4a, r_4b, r_4c, r_4d⟩
    replace hy := hy.symm
    subst hy
    apply go
    obtain rfl := Option.some.inj h
    have hp := hp.perm [2, 0, 1, 3] (by decide)
    exact ⟨I_44, [some (g_1, [v_3u, v_3v, v_3x], 61), e_3w, e_3y], [some (g_5, ((Value.int .i64 x_3m) :: ((Value.int .i64 x_3n) :: ((Value.int .i64 x_3o) :: (v_3z :: (c_40 ++ (c_41 ++ (c_42 ++ (v_43 :: [])))))))), 65)], rfl, hp, ⟨v_3u, v_3v, e_3w, v_3x, e_3y, rfl, r_46, o_47, o_48⟩, ⟨v_3z, c_40, c_41, c_42, v_43, rfl, r_49, r_4a, r_4b, r_4c, r_4d⟩⟩

end Go.Proofs.Ytknnmbcaoekgmaa

namespace Go.Proofs.Ytknnmbcaoekgmaa
open Go Go.Proofs.Ytknnmbcaoekgmaa.Gw Go.RowKit
set_option linter.unusedVariables false
attribute [local irreducible] Ev EvQ EvS EvH
def law41_clone_S (f : Node → Option Node) : Prop := ∀ (w0 : World) (I0 : Nat → Prop) (x_0 : Node) (v_1 : Value) (r_2 : RepS dNode w0 I0 v_1 x_0.Kids) (hI : ∀ g, I0 g → g < w0.heap.size) (r : Node), f x_0 = some r →
    Ret Try.prog 17 #[(.agg #[(.int .i64 x_0.Kind), (.int .i64 x_0.Name), (.int .i64 x_0.Count), v_1])] w0 fun v w1 => ∃ (I1 : Nat → Prop) (u_3 : Value), v = (.agg #[(.int .i64 r.Kind), (.int .i64 r.Name), (.int .i64 r.Count), u_3]) ∧ Hp ⟨w0, I0, []⟩ I1 [] w1 ∧ RepS dNode w1 I1 u_3 r.Kids
theorem law41_clone_F_ok (n : Nat) (self : Node → Option Node) (ih : law41_clone_S self) : law41_clone_S (law41_clone_F n self) := by
  intro w0 I0 x_0 v_1 r_2 hI r h
  unfold law41_clone_F at h
  refine enter Try.func17 rfl (Nat.le_of_ble_eq_true rfl) ?_
  have hp : Hp ⟨w0, I0, []⟩ I0 [] w0 := Hp.start hI
  apply go
  apply go
  refine ev_boxI hp rfl rfl ?_
  intro p_3 I_4 w_5 hp hs a_6
  replace r_2 := r_2.step hs
  refine ev_alloc hp rfl T24 ?_
  intro g_7 w_8 hp hs
  replace a_6 := a_6.step hs
  replace r_2 := r_2.step hs
  apply go
  apply go
  refine ev0 (rn_field rfl rfl FO24_0) ?_
  refine ev (rn_load rfl rfl (run_loadVar1 T3 (a_6.2 0 _ rfl))) ?_
  refine ev0 (rn_field rfl rfl FO24_1) ?_
  refine ev (rn_load rfl rfl (run_loadVar1 T3 (a_6.2 1 _ rfl))) ?_
  refine ev0 (rn_field rfl rfl FO24_2) ?_
  refine ev (rn_load rfl rfl (run_loadVar1 T3 (a_6.2 2 _ rfl))) ?_
  refine ev0 (fun w => rn_build (cs := [(.int .i64 x_0.Kind), (.int .i64 x_0.Name), (.int .i64 x_0.Count), (.slice none 0 0)]) rfl rfl T24 PL24 rfl) ?_
  refine ev_alloc hp rfl T24 ?_
  intro g_9 w_a hp hs
  replace a_6 := a_6.step hs
  replace r_2 := r_2.step hs
  refine ev_storeA hp (i := 0) (off := 0) (vs := [(.int .i64 x_0.Kind), (.int .i64 x_0.Name), (.int .i64 x_0.Count), (.slice none 0 0)]) rfl rfl rfl rfl T24 rfl (Nat.le_of_ble_eq_true rfl) (ones_of rfl) ?_
  intro w_b hp hs
  replace a_6 := a_6.step hs
  replace r_2 := r_2.step hs
  obtain ⟨y_c, q_d, h⟩ := bind_some h
  refine W.cut (γ := ((List Node) × Value × Ent × (Nat → Prop))) (fun g => [(2, (.pointer (some ⟨g_7, 0, none⟩))), (3, (.pointer (some ⟨g_9, 0, none⟩)))]) (fun g w' => y_c = (g.1) ∧ Hp ⟨w0, I0, []⟩ (g.2.2.2) [some (g_7, [(.int .i64 0), (.int .i64 0), (.int .i64 0), (.slice none 0 0)], 24), (g.2.2.1), some (g_9, [(.int .i64 x_0.Kind), (.int .i64 x_0.Name), (.int .i64 x_0.Count), (g.2.1)], 24)] w' ∧ OwnS dNode 24 w' (g.2.2.2) (g.2.1) (g.2.2.1) (g.1)) ?_ ?_
  ·
    apply go
    apply go
    apply go
    have hp := hp.none_
    have o_e := OwnS.nil dNode 24 w_b I_4
    have hp := hp.perm [2, 0, 1] (by decide)
    refine W.loop q_d (γ := (Value × Ent × (Nat → Prop))) (fun s g => [(1, (.pointer (some (p_3)))), (2, (.pointer (some ⟨g_7, 0, none⟩))), (3, (.pointer (some ⟨g_9, 0, none⟩))), (4, (.int .i64 (s.2)))]) (fun s g w' => Hp ⟨w0, I0, []⟩ (g.2.2) [some (g_7, [(.int .i64 0), (.int .i64 0), (.int .i64 0), (.slice none 0 0)], 24), (g.2.1), some (g_9, [(.int .i64 x_0.Kind), (.int .i64 x_0.Name), (.int .i64 x_0.Count), (g.1)], 24)] w' ∧ RepS dNode w' (g.2.2) v_1 x_0.Kids ∧ At w' (g.2.2) p_3 [(.int .i64 x_0.Kind), (.int .i64 x_0.Name), (.int .i64 x_0.Count), v_1] ∧ OwnS dNode 24 w' (g.2.2) (g.1) (g.2.1) (s.1)) ((.slice none 0 0), none, I_4) (.c rfl (.c rfl (.c rfl (.c rfl .n)))) ⟨hp, r_2, a_6, o_e⟩ ?_
    rintro ⟨x_f, x_g⟩ ⟨v_h, e_i, I_j⟩ w_k y_l ⟨hp, r_2, a_6, o_m⟩ q_n q_o
    unfold law41_clone_L1 at q_n
    apply go
    apply go
    apply go
    refine ev0 (rn_field rfl rfl FO24_3) ?_
    refine ev (rn_load rfl rfl (run_loadVar1 T22 (a_6.2 3 _ rfl))) ?_
    refine ev0 (rn_len rfl rfl Try.underlying22 r_2) ?_
    apply go
    refine sel_of (fun hc => ?_) (fun hc => ?_)
    ·
      have q_n := cond_t q_n hc
      apply go
      apply go
      apply go
      have hs := hp.stp (Ch.drew [] w_k)
      have hp := hp.drew
      replace a_6 := a_6.step hs
      replace r_2 := r_2.step hs
      replace o_m := o_m.step hs
      refine W.heldG (.q 0 (.q 1 (.q 2 (.q 3 (.q 4 (.q 5 (.q 6 (.l 7 (.l 8 (.l 9 (.q 10 (.l 11 .done .no)) .no) .no) .no)))))))) (SK (Stp I_j w_k.drew I_j) [(g_9, [(.int .i64 x_0.Kind), (.int .i64 x_0.Name), (.int .i64 x_0.Count), v_h], 24)] [[11]]) MX (by kernel_rfl) ⟨Stp.refl _ _, (kp_cons (fun _ => (hp.own 2 _ _ _ rfl).1) kp_nil)⟩ ?_
      have hz := Stp.refl I_j w_k.drew
      refine ⟨SK.same (by kernel_rfl), ?_⟩
      refine evh0 (rn_field rfl rfl FO24_3) ?_
      refine ⟨SK.same (by kernel_rfl), ?_⟩
      refine evh (fun w' hw => rn_load rfl rfl (run_loadVar1 T22 ((S0.keep (p := 0) hw rfl rfl (by kernel_rfl)).cell (i := 0) (off := 3) rfl rfl))) ?_
      refine ⟨SK.same (by kernel_rfl), ?_⟩
      refine evh0 (rn_field rfl rfl FO24_3) ?_
      refine ⟨SK.same (by kernel_rfl), ?_⟩
      refine evh (fun w' hw => rn_load rfl rfl (run_loadVar1 T22 ((a_6.step (S0.si hw)).2 3 _ rfl))) ?_
      refine ⟨SK.same (by kernel_rfl), ?_⟩
      refine ⟨SK.same (by kernel_rfl), ?_⟩
      obtain ⟨x_p, q_q, q_n⟩ := bind_some q_n
      refine evh_index rfl rfl rfl Try.underlying22 T24 r_2 q_q ?_
      intro p_r c_s d_t a_u
      obtain ⟨v_v, rfl, r_w⟩ := dNode_o d_t
      refine ⟨SK.same (by kernel_rfl), ?_⟩
      refine evh (fun w' hw => rn_load rfl rfl (run_loadVarA T24 rfl (a_u.step (S0.si hw)))) ?_
      refine ⟨?_, trivial⟩
      obtain ⟨x_x, q_y, q_n⟩ := bind_some q_n
      refine ev_call rfl rfl C17 ((ih _ _  (Node.mk x_p.Kind x_p.Name x_p.Count x_p.Kids) v_v r_w hp.imm _ q_y).mono ?_)
      rintro _ w_z ⟨I_10, v_11, hv, hq, r_12⟩
      replace hv := hv.symm
      subst hv
      have hs := hq.st
      have hp := hp.join0 hq
      replace hz := hz.trans hs
      replace a_6 := a_6.step hs
      replace r_2 := r_2.step hs
      replace o_m := o_m.step hs
      refine ⟨SK (Stp I_10 w_z I_10) [(g_9, [(.int .i64 x_0.Kind), (.int .i64 x_0.Name), (.int .i64 x_0.Count), v_h], 24)] [[11]], ⟨Stp.refl _ _, (kp_cons (fun _ => (hp.own 2 _ _ _ rfl).1) kp_nil)⟩, fun L x h => ⟨hz.held h.1, h.2⟩, ?_⟩
      have hz := Stp.refl I_10 w_z
      refine ⟨?_, trivial⟩
      obtain ⟨A_13, m_14, m_15, rfl⟩ := r_12.isSl
      refine ev_litN (d := dNode) (xs := [x_x]) (cs := [(.int .i64 x_x.Kind), (.int .i64 x_x.Name), (.int .i64 x_x.Count), (.slice A_13 m_14 m_15)]) hp rfl rfl Try.underlying22 T24 (by decide) rfl rfl (Elems.cons (d := dNode) (xs := _) (dNode_m (x := x_x) r_12) (Elems.nil _ _ _ _)) ?_
      intro v_16 I_17 w_18 hp hs r_19
      replace hz := hz.trans hs
      replace a_6 := a_6.step hs
      replace r_2 := r_2.step hs
      replace o_m := o_m.step hs
      refine ⟨SK (Stp I_17 w_18 I_17) [(g_9, [(.int .i64 x_0.Kind), (.int .i64 x_0.Name), (.int .i64 x_0.Count), v_h], 24)] [[11]], ⟨Stp.refl _ _, (kp_cons (fun _ => (hp.own 2 _ _ _ rfl).1) kp_nil)⟩, fun L x h => ⟨hz.held h.1, h.2⟩, ?_⟩
      have hz := Stp.refl I_17 w_18
      refine ⟨?_, trivial⟩
      obtain ⟨x_1a, q_1b, q_n⟩ := bind_some q_n
      refine ev_append hp (i := 1) rfl rfl rfl rfl Try.underlying22 T24 rfl rfl o_m r_19 q_1b ?_
      rintro v_1c e_1d w_1e hp hs o_1f
      replace hz := hz.trans hs
      replace a_6 := a_6.step hs
      replace r_2 := r_2.step hs
      replace o_m := o_m.step hs
      refine ⟨SK (Stp I_17 w_1e I_17) [(g_9, [(.int .i64 x_0.Kind), (.int .i64 x_0.Name), (.int .i64 x_0.Count), v_h], 24)] [[11]], ⟨Stp.refl _ _, (kp_cons (fun _ => (hp.own 2 _ _ _ rfl).1) kp_nil)⟩, fun L x h => ⟨hz.held h.1, h.2⟩, ?_⟩
      have hz := Stp.refl I_17 w_1e
      refine ⟨SK.same (by kernel_rfl), ?_⟩
      refine evh0 (rn_field rfl rfl FO24_3) ?_
      refine ⟨?_, trivial⟩
      refine ev_store1 hp (i := 2) (off := 3) rfl rfl rfl rfl T22 o_1f.one (Nat.le_of_ble_eq_true rfl) ?_
      intro w_1g hp hs
      replace hz := hz.trans hs
      replace a_6 := a_6.step hs
      replace r_2 := r_2.step hs
      replace o_1f := o_1f.step hs
      refine ⟨SK (Stp I_17 w_1g I_17) [(g_9, [(.int .i64 x_0.Kind), (.int .i64 x_0.Name), (.int .i64 x_0.Count), v_h], 24)] [[11]], ⟨Stp.refl _ _, (kp_cons (kp_off (by kernel_rfl)) kp_nil)⟩, fun L x h => ⟨hz.held h.1, h.2⟩, ?_⟩
      have hz := Stp.refl I_17 w_1g
      apply go
      exact ⟨_, (Option.some.inj q_n).symm, (v_1c, e_1d, I_17), (.c rfl (.c rfl (.c rfl (.c rfl .n)))), ⟨hp, r_2, a_6, o_1f⟩⟩
    ·
      have q_n := cond_f q_n hc
      apply go
      have q_1h := congrArg some (q_o _ (Option.some.inj q_n).symm)
      obtain rfl := Option.some.inj q_1h
      exact ⟨(x_f, v_h, e_i, I_j), (.c rfl (.c rfl .n)), rfl, hp, o_m⟩
  ·
    rintro ⟨x_1i, v_1j, e_1k, I_1l⟩ w_1m ⟨hy, hp, o_1n⟩
    replace hy := hy.symm
    subst hy
    apply go
    apply go
    refine ev (rn_load rfl rfl (run_loadVarA T24 rfl (hp.at_ (i := 2) rfl))) ?_
    refine ev_storeA hp (i := 0) (off := 0) (vs := [(.int .i64 x_0.Kind), (.int .i64 x_0.Name), (.int .i64 x_0.Count), v_1j]) rfl rfl rfl rfl T24 rfl (Nat.le_of_ble_eq_true rfl) (ones_cons rfl (ones_cons rfl (ones_cons rfl (ones_cons o_1n.one ones_nil)))) ?_
    intro w_1o hp hs
    replace o_1n := o_1n.step hs
    apply go
    obtain rfl := Option.some.inj h
    have r_1p := o_1n.frz hp (i := 1) rfl
    obtain ⟨hp, hs⟩ := freeze_hp hp (i := 1) rfl
    have hp := hp.sel [0, 2] (by decide)
    refine ⟨_, run_loadVarA T24 rfl (hp.at_ (i := 0) rfl), ?_⟩
    have hp := hp.sel [] (by decide)
    exact ⟨(Ad I_1l e_1k), v_1j, rfl, hp, r_1p⟩
theorem law41_clone_ok : ∀ n, law41_clone_S (law41_clone n)
  | 0 => by intro w0 I0 x_0 v_1 r_2 hI r h; cases h
  | n + 1 => law41_clone_F_ok n _ (law41_clone_ok n)

end Go.Proofs.Ytknnmbcaoekgmaa

namespace Go.Proofs.Ytknnmbcaoekgmaa
open Go Go.Proofs.Ytknnmbcaoekgmaa.Gw Go.RowKit
set_option linter.unusedVariables false
attribute [local irreducible] Ev EvQ EvS EvH
def law41_cloneown_S (f : Node → Option Node) : Prop := ∀ (w0 : World) (I0 : Nat → Prop) (x_0 : Node) (v_1 : Value) (r_2 : RepS dNode w0 I0 v_1 x_0.Kids) (hI : ∀ g, I0 g → g < w0.heap.size) (r : Node), f x_0 = some r →
    Ret Try.prog 17 #[(.agg #[(.int .i64 x_0.Kind), (.int .i64 x_0.Name), (.int .i64 x_0.Count), v_1])] w0 fun v w1 => ∃ (I1 : Nat → Prop) (u_3 : Value) (u_4 : Ent), v = (.agg #[(.int .i64 r.Kind), (.int .i64 r.Name), (.int .i64 r.Count), u_3]) ∧ Hp ⟨w0, I0, []⟩ I1 [u_4] w1 ∧ OwnS dNode 24 w1 I1 u_3 u_4 r.Kids
theorem law41_cloneown_ok (n : Nat) : law41_cloneown_S (law41_cloneown n) := by
  intro w0 I0 x_0 v_1 r_2 hI r h
  unfold law41_cloneown at h
  refine enter Try.func17 rfl (Nat.le_of_ble_eq_true rfl) ?_
  have hp : Hp ⟨w0, I0, []⟩ I0 [] w0 := Hp.start hI
  apply go
  apply go
  refine ev_boxI hp rfl rfl ?_
  intro p_3 I_4 w_5 hp hs a_6
  replace r_2 := r_2.step hs
  refine ev_alloc hp rfl T24 ?_
  intro g_7 w_8 hp hs
  replace a_6 := a_6.step hs
  replace r_2 := r_2.step hs
  apply go
  apply go
  refine ev0 (rn_field rfl rfl FO24_0) ?_
  refine ev (rn_load rfl rfl (run_loadVar1 T3 (a_6.2 0 _ rfl))) ?_
  refine ev0 (rn_field rfl rfl FO24_1) ?_
  refine ev (rn_load rfl rfl (run_loadVar1 T3 (a_6.2 1 _ rfl))) ?_
  refine ev0 (rn_field rfl rfl FO24_2) ?_
  refine ev (rn_load rfl rfl (run_loadVar1 T3 (a_6.2 2 _ rfl))) ?_
  refine ev0 (fun w => rn_build (cs := [(.int .i64 x_0.Kind), (.int .i64 x_0.Name), (.int .i64 x_0.Count), (.slice none 0 0)]) rfl rfl T24 PL24 rfl) ?_
  refine ev_alloc hp rfl T24 ?_
  intro g_9 w_a hp hs
  replace a_6 := a_6.step hs
  replace r_2 := r_2.step hs
  refine ev_storeA hp (i := 0) (off := 0) (vs := [(.int .i64 x_0.Kind), (.int .i64 x_0.Name), (.int .i64 x_0.Count), (.slice none 0 0)]) rfl rfl rfl rfl T24 rfl (Nat.le_of_ble_eq_true rfl) (ones_of rfl) ?_
  intro w_b hp hs
  replace a_6 := a_6.step hs
  replace r_2 := r_2.step hs
  obtain ⟨y_c, q_d, h⟩ := bind_some h
  refine W.cut (γ := ((List Node) × Value × Ent × (Nat → Prop))) (fun g => [(2, (.pointer (some ⟨g_7, 0, none⟩))), (3, (.pointer (some ⟨g_9, 0, none⟩)))]) (fun g w' => y_c = (g.1) ∧ Hp ⟨w0, I0, []⟩ (g.2.2.2) [some (g_7, [(.int .i64 0), (.int .i64 0), (.int .i64 0), (.slice none 0 0)], 24), (g.2.2.1), some (g_9, [(.int .i64 x_0.Kind), (.int .i64 x_0.Name), (.int .i64 x_0.Count), (g.2.1)], 24)] w' ∧ OwnS dNode 24 w' (g.2.2.2) (g.2.1) (g.2.2.1) (g.1)) ?_ ?_
  ·
    apply go
    apply go
    apply go
    have hp := hp.none_
    have o_e := OwnS.nil dNode 24 w_b I_4
    have hp := hp.perm [2, 0, 1] (by decide)
    refine W.loop q_d (γ := (Value × Ent × (Nat → Prop))) (fun s g => [(1, (.pointer (some (p_3)))), (2, (.pointer (some ⟨g_7, 0, none⟩))), (3, (.pointer (some ⟨g_9, 0, none⟩))), (4, (.int .i64 (s.2)))]) (fun s g w' => Hp ⟨w0, I0, []⟩ (g.2.2) [some (g_7, [(.int .i64 0), (.int .i64 0), (.int .i64 0), (.slice none 0 0)], 24), (g.2.1), some (g_9, [(.int .i64 x_0.Kind), (.int .i64 x_0.Name), (.int .i64 x_0.Count), (g.1)], 24)] w' ∧ RepS dNode w' (g.2.2) v_1 x_0.Kids ∧ At w' (g.2.2) p_3 [(.int .i64 x_0.Kind), (.int .i64 x_0.Name), (.int .i64 x_0.Count), v_1] ∧ OwnS dNode 24 w' (g.2.2) (g.1) (g.2.1) (s.1)) ((.slice none 0 0), none, I_4) (.c rfl (.c rfl (.c rfl (.c rfl .n)))) ⟨hp, r_2, a_6, o_e⟩ ?_
    rintro ⟨x_f, x_g⟩ ⟨v_h, e_i, I_j⟩ w_k y_l ⟨hp, r_2, a_6, o_m⟩ q_n q_o
    unfold law41_cloneown_L1 at q_n
    apply go
    apply go
    apply go
    refine ev0 (rn_field rfl rfl FO24_3) ?_
    refine ev (rn_load rfl rfl (run_loadVar1 T22 (a_6.2 3 _ rfl))) ?_
    refine ev0 (rn_len rfl rfl Try.underlying22 r_2) ?_
    apply go
    refine sel_of (fun hc => ?_) (fun hc => ?_)
    ·
      have q_n := cond_t q_n hc
      apply go
      apply go
      apply go
      have hs := hp.stp (Ch.drew [] w_k)
      have hp := hp.drew
      replace a_6 := a_6.step hs
      replace r_2 := r_2.step hs
      replace o_m := o_m.step hs
      refine W.heldG (.q 0 (.q 1 (.q 2 (.q 3 (.q 4 (.q 5 (.q 6 (.l 7 (.l 8 (.l 9 (.q 10 (.l 11 .done .no)) .no) .no) .no)))))))) (SK (Stp I_j w_k.drew I_j) [(g_9, [(.int .i64 x_0.Kind), (.int .i64 x_0.Name), (.int .i64 x_0.Count), v_h], 24)] [[11]]) MX (by kernel_rfl) ⟨Stp.refl _ _, (kp_cons (fun _ => (hp.own 2 _ _ _ rfl).1) kp_nil)⟩ ?_
      have hz := Stp.refl I_j w_k.drew
      refine ⟨SK.same (by kernel_rfl), ?_⟩
      refine evh0 (rn_field rfl rfl FO24_3) ?_
      refine ⟨SK.same (by kernel_rfl), ?_⟩
      refine evh (fun w' hw => rn_load rfl rfl (run_loadVar1 T22 ((S0.keep (p := 0) hw rfl rfl (by kernel_rfl)).cell (i := 0) (off := 3) rfl rfl))) ?_
      refine ⟨SK.same (by kernel_rfl), ?_⟩
      refine evh0 (rn_field rfl rfl FO24_3) ?_
      refine ⟨SK.same (by kernel_rfl), ?_⟩
      refine evh (fun w' hw => rn_load rfl rfl (run_loadVar1 T22 ((a_6.step (S0.si hw)).2 3 _ rfl))) ?_
      refine ⟨SK.same (by kernel_rfl), ?_⟩
      refine ⟨SK.same (by kernel_rfl), ?_⟩
      obtain ⟨x_p, q_q, q_n⟩ := bind_some q_n
      refine evh_index rfl rfl rfl Try.underlying22 T24 r_2 q_q ?_
      intro p_r c_s d_t a_u
      obtain ⟨v_v, rfl, r_w⟩ := dNode_o d_t
      refine ⟨SK.same (by kernel_rfl), ?_⟩
      refine evh (fun w' hw => rn_load rfl rfl (run_loadVarA T24 rfl (a_u.step (S0.si hw)))) ?_
      refine ⟨?_, trivial⟩
      obtain ⟨x_x, q_y, q_n⟩ := bind_some q_n
      refine ev_call rfl rfl C17 (((law41_clone_ok n) _ _  (Node.mk x_p.Kind x_p.Name x_p.Count x_p.Kids) v_v r_w hp.imm _ q_y).mono ?_)
      rintro _ w_z ⟨I_10, v_11, hv, hq, r_12⟩
      replace hv := hv.symm
      subst hv
      have hs := hq.st
      have hp := hp.join0 hq
      replace hz := hz.trans hs
      replace a_6 := a_6.step hs
      replace r_2 := r_2.step hs
      replace o_m := o_m.step hs
      refine ⟨SK (Stp I_10 w_z I_10) [(g_9, [(.int .i64 x_0.Kind), (.int .i64 x_0.Name), (.int .i64 x_0.Count), v_h], 24)] [[11]], ⟨Stp.refl _ _, (kp_cons (fun _ => (hp.own 2 _ _ _ rfl).1) kp_nil)⟩, fun L x h => ⟨hz.held h.1, h.2⟩, ?_⟩
      have hz := Stp.refl I_10 w_z
      refine ⟨?_, trivial⟩
      obtain ⟨A_13, m_14, m_15, rfl⟩ := r_12.isSl
      refine ev_litN (d := dNode) (xs := [x_x]) (cs := [(.int .i64 x_x.Kind), (.int .i64 x_x.Name), (.int .i64 x_x.Count), (.slice A_13 m_14 m_15)]) hp rfl rfl Try.underlying22 T24 (by decide) rfl rfl (Elems.cons (d := dNode) (xs := _) (dNode_m (x := x_x) r_12) (Elems.nil _ _ _ _)) ?_
      intro v_16 I_17 w_18 hp hs r_19
      replace hz := hz.trans hs
      replace a_6 := a_6.step hs
      replace r_2 := r_2.step hs
      replace o_m := o_m.step hs
      refine ⟨SK (Stp I_17 w_18 I_17) [(g_9, [(.int .i64 x_0.Kind), (.int .i64 x_0.Name), (.int .i64 x_0.Count), v_h], 24)] [[11]], ⟨Stp.refl _ _, (kp_cons (fun _ => (hp.own 2 _ _ _ rfl).1) kp_nil)⟩, fun L x h => ⟨hz.held h.1, h.2⟩, ?_⟩
      have hz := Stp.refl I_17 w_18
      refine ⟨?_, trivial⟩
      obtain ⟨x_1a, q_1b, q_n⟩ := bind_some q_n
      refine ev_append hp (i := 1) rfl rfl rfl rfl Try.underlying22 T24 rfl rfl o_m r_19 q_1b ?_
      rintro v_1c e_1d w_1e hp hs o_1f
      replace hz := hz.trans hs
      replace a_6 := a_6.step hs
      replace r_2 := r_2.step hs
      replace o_m := o_m.step hs
      refine ⟨SK (Stp I_17 w_1e I_17) [(g_9, [(.int .i64 x_0.Kind), (.int .i64 x_0.Name), (.int .i64 x_0.Count), v_h], 24)] [[11]], ⟨Stp.refl _ _, (kp_cons (fun _ => (hp.own 2 _ _ _ rfl).1) kp_nil)⟩, fun L x h => ⟨hz.held h.1, h.2⟩, ?_⟩
      have hz := Stp.refl I_17 w_1e
      refine ⟨SK.same (by kernel_rfl), ?_⟩
      refine evh0 (rn_field rfl rfl FO24_3) ?_
      refine ⟨?_, trivial⟩
      refine ev_store1 hp (i := 2) (off := 3) rfl rfl rfl rfl T22 o_1f.one (Nat.le_of_ble_eq_true rfl) ?_
      intro w_1g hp hs
      replace hz := hz.trans hs
      replace a_6 := a_6.step hs
      replace r_2 := r_2.step hs
      replace o_1f := o_1f.step hs
      refine ⟨SK (Stp I_17 w_1g I_17) [(g_9, [(.int .i64 x_0.Kind), (.int .i64 x_0.Name), (.int .i64 x_0.Count), v_h], 24)] [[11]], ⟨Stp.refl _ _, (kp_cons (kp_off (by kernel_rfl)) kp_nil)⟩, fun L x h => ⟨hz.held h.1, h.2⟩, ?_⟩
      have hz := Stp.refl I_17 w_1g
      apply go
      exact ⟨_, (Option.some.inj q_n).symm, (v_1c, e_1d, I_17), (.c rfl (.c rfl (.c rfl (.c rfl .n)))), ⟨hp, r_2, a_6, o_1f⟩⟩
    ·
      have q_n := cond_f q_n hc
      apply go
      have q_1h := congrArg some (q_o _ (Option.some.inj q_n).symm)
      obtain rfl := Option.some.inj q_1h
      exact ⟨(x_f, v_h, e_i, I_j), (.c rfl (.c rfl .n)), rfl, hp, o_m⟩
  ·
    rintro ⟨x_1i, v_1j, e_1k, I_1l⟩ w_1m ⟨hy, hp, o_1n⟩
    replace hy := hy.symm
    subst hy
    apply go
    apply go
    refine ev (rn_load rfl rfl (run_loadVarA T24 rfl (hp.at_ (i := 2) rfl))) ?_
    refine ev_storeA hp (i := 0) (off := 0) (vs := [(.int .i64 x_0.Kind), (.int .i64 x_0.Name), (.int .i64 x_0.Count), v_1j]) rfl rfl rfl rfl T24 rfl (Nat.le_of_ble_eq_true rfl) (ones_cons rfl (ones_cons rfl (ones_cons rfl (ones_cons o_1n.one ones_nil)))) ?_
    intro w_1o hp hs
    replace o_1n := o_1n.step hs
    apply go
    obtain rfl := Option.some.inj h
    refine ⟨_, run_loadVarA T24 rfl (hp.at_ (i := 0) rfl), ?_⟩
    have hp := hp.sel [1] (by decide)
    exact ⟨I_1l, v_1j, e_1k, rfl, hp, o_1n⟩

end Go.Proofs.Ytknnmbcaoekgmaa

namespace Go.Proofs.Ytknnmbcaoekgmaa
open Go Go.Proofs.Ytknnmbcaoekgmaa.Gw Go.RowKit
set_option linter.unusedVariables false
attribute [local irreducible] Ev EvQ EvS EvH
def law41_TreeTicks_S (f : Node → (List Input) → Option Bool) : Prop := ∀ (w0 : World) (I0 : Nat → Prop) (x_0 : Node) (v_1 : Value) (r_2 : RepS dNode w0 I0 v_1 x_0.Kids) (x_3 : (List Input)) (v_4 : Value) (r_5 : RepS dInput w0 I0 v_4 x_3) (hI : ∀ g, I0 g → g < w0.heap.size) (r : Bool), f x_0 x_3 = some r →
    Ret Try.prog 4 #[(.agg #[(.int .i64 x_0.Kind), (.int .i64 x_0.Name), (.int .i64 x_0.Count), v_1]), v_4] w0 fun v w1 => v = (.bool r) ∧ Ch [] w0 w1
set_option maxHeartbeats 6400000 in
theorem law41_TreeTicks_ok (n : Nat) : law41_TreeTicks_S (law41_TreeTicks n) := by
  intro w0 I0 x_0 v_1 r_2 x_3 v_4 r_5 hI r h
  unfold law41_TreeTicks at h
  refine enter Try.func4 rfl (Nat.le_of_ble_eq_true rfl) ?_
  have hp : Hp ⟨w0, I0, []⟩ I0 [] w0 := Hp.start hI
  apply go
  apply go
  refine ev_boxI hp rfl rfl ?_
  intro p_6 I_7 w_8 hp hs a_9
  replace r_5 := r_5.step hs
  replace r_2 := r_2.step hs
  apply go
  obtain ⟨y_a, q_b, h⟩ := bind_some h
  refine W.cut (γ := Bool) (fun g => [(1, v_4), (2, (.pointer (some (p_6)))), (23, (.bool (g)))]) (fun g w' => y_a = (g) ∧ Hp ⟨w0, I0, []⟩ I_7 [] w' ∧ RepS dInput w' I_7 v_4 x_3 ∧ RepS dNode w' I_7 v_1 x_0.Kids ∧ At w' I_7 p_6 [(.int .i64 x_0.Kind), (.int .i64 x_0.Name), (.int .i64 x_0.Count), v_1]) ?_ ?_
  ·
    apply go
    obtain ⟨x_c, q_d, q_b⟩ := bind_some q_b
    refine ev_call rfl rfl C9 (((law41_awake_ok n) _ _   hp.imm _ q_d).mono ?_)
    rintro _ w_e ⟨rfl, hc⟩
    have hs := hp.stp hc
    replace hp := hp.ext hc
    replace r_5 := r_5.step hs
    replace a_9 := a_9.step hs
    replace r_2 := r_2.step hs
    refine sel_of (fun hc => ?_) (fun hc => ?_)
    ·
      have q_b := cond_t q_b hc
      obtain rfl := Option.some.inj q_b
      exact ⟨true, (.c rfl (.c rfl (.c rfl .n))), rfl, hp, r_5, r_2, a_9⟩
    ·
      have q_b := cond_f q_b hc
      refine ev (rn_load rfl rfl (run_loadVarA T24 rfl a_9)) ?_
      obtain ⟨x_f, q_g, q_b⟩ := bind_some q_b
      refine ev_call rfl rfl C15 (((law41_few_ok n) _ _  (Node.mk x_0.Kind x_0.Name x_0.Count x_0.Kids) v_1 r_2 hp.imm _ q_g).mono ?_)
      rintro _ w_h ⟨rfl, hc⟩
      have hs := hp.stp hc
      replace hp := hp.ext hc
      replace r_5 := r_5.step hs
      replace a_9 := a_9.step hs
      replace r_2 := r_2.step hs
      refine sel_of (fun hc => ?_) (fun hc => ?_)
      ·
        have q_b := cond_t q_b hc
        obtain rfl := Option.some.inj q_b
        exact ⟨true, (.c rfl (.c rfl (.c rfl .n))), rfl, hp, r_5, r_2, a_9⟩
      ·
        have q_b := cond_f q_b hc
        obtain ⟨x_i, q_j, q_b⟩ := bind_some q_b
        refine ev_call rfl rfl C16 (((law41_short_ok n) _ _  x_3 v_4 r_5 hp.imm _ q_j).mono ?_)
        rintro _ w_k ⟨rfl, hc⟩
        have hs := hp.stp hc
        replace hp := hp.ext hc
        replace r_5 := r_5.step hs
        replace a_9 := a_9.step hs
        replace r_2 := r_2.step hs
        obtain rfl := Option.some.inj q_b
        exact ⟨(!x_i), (.c rfl (.c rfl (.c rfl .n))), rfl, hp, r_5, r_2, a_9⟩
  ·
    rintro x_l w_m ⟨hy, hp, r_5, r_2, a_9⟩
    replace hy := hy.symm
    subst hy
    apply go
    refine sel_of (fun hc => ?_) (fun hc => ?_)
    ·
      have h := cond_t h hc
      apply go
      apply go
      obtain ⟨x_n, q_o, h⟩ := bind_some h
      refine ev_call rfl rfl C9 (((law41_awake_ok n) _ _   hp.imm _ q_o).mono ?_)
      rintro _ w_p ⟨rfl, hc⟩
      have hs := hp.stp hc
      replace hp := hp.ext hc
      apply go
      obtain rfl := Option.some.inj h
      exact ⟨rfl, hp.ch⟩
    ·
      have h := cond_f h hc
      apply go
      apply go
      apply go
      refine ev (rn_load rfl rfl (run_loadVarA T24 rfl a_9)) ?_
      obtain ⟨x_q, q_r, h⟩ := bind_some h
      refine ev_call rfl rfl C17 (((law41_cloneown_ok n) _ _  (Node.mk x_0.Kind x_0.Name x_0.Count x_0.Kids) v_1 r_2 hp.imm _ q_r).mono ?_)
      rintro _ w_s ⟨I_t, v_u, e_v, hv, hq, r_w⟩
      replace hv := hv.symm
      subst hv
      have hs := hq.st
      have hp := hp.join0 hq
      replace r_5 := r_5.step hs
      replace a_9 := a_9.step hs
      replace r_2 := r_2.step hs
      refine ev_alloc hp rfl T24 ?_
      intro g_x w_y hp hs
      replace r_5 := r_5.step hs
      replace a_9 := a_9.step hs
      replace r_2 := r_2.step hs
      replace r_w := r_w.step hs
      refine ev_storeA hp (i := 0) (off := 0) (vs := [(.int .i64 x_q.Kind), (.int .i64 x_q.Name), (.int .i64 x_q.Count), v_u]) rfl rfl rfl rfl T24 rfl (Nat.le_of_ble_eq_true rfl) (ones_cons rfl (ones_cons rfl (ones_cons rfl (ones_cons r_w.one ones_nil)))) ?_
      intro w_z hp hs
      replace r_5 := r_5.step hs
      replace a_9 := a_9.step hs
      replace r_2 := r_2.step hs
      replace r_w := r_w.step hs
      apply go
      apply go
      refine ev (rn_load rfl rfl (run_loadVarA T24 rfl (hp.at_ (i := 0) rfl))) ?_
      have r_10 := r_w.frz hp (i := 1) rfl
      obtain ⟨hpL, hsL⟩ := freeze_hp hp (i := 1) rfl
      obtain ⟨⟨x_11, x_12⟩, q_13, h⟩ := bind_some h
      refine ev_call rfl rfl C14 (((tree_New_ok n) _ _  (Node.mk x_q.Kind x_q.Name x_q.Count x_q.Kids) v_u r_10 hpL.imm _ q_13).mono ?_)
      rintro _ w_14 ⟨I_15, v_16, F_17, hv, hq10827, q_18⟩
      replace hv := hv.symm
      subst hv
      rcases x_11 with _ | x_19
      ·
        obtain ⟨rfl, rfl⟩ := q_18
        obtain ⟨hp, hs⟩ := hp.joinL hq10827
        replace r_5 := r_5.step hs
        replace a_9 := a_9.step hs
        replace r_2 := r_2.step hs
        replace r_w := r_w.step hs
        apply go
        apply go
        refine ev (rn_load rfl rfl (run_loadVarA T24 rfl a_9)) ?_
        obtain ⟨⟨x_1a, x_1b⟩, q_1c, h⟩ := bind_some h
        refine ev_call rfl rfl C18 (((ref41_New_ok n) _ _  (Node.mk x_0.Kind x_0.Name x_0.Count x_0.Kids) v_1 r_2 hp.imm _ q_1c).mono ?_)
        rintro _ w_1d ⟨I_1e, v_1f, F_1g, hv, hq10837, q_1h⟩
        replace hv := hv.symm
        subst hv
        rcases x_1a with _ | x_1i
        ·
          obtain ⟨rfl, rfl⟩ := q_1h
          have hs := hq10837.st
          have hp := hp.join0 hq10837
          replace r_5 := r_5.step hs
          replace r_w := r_w.step hs
          apply go
          obtain ⟨y_1j, q_1k, h⟩ := bind_some h
          refine W.cut (γ := Bool) (fun g => [(1, v_4), (5, (.pointer (some ⟨g_x, 0, none⟩))), (6, (.pointer none)), (7, (.int .i64 x_12)), (8, (.pointer none)), (9, (.int .i64 x_1b)), (43, (.bool (g)))]) (fun g w' => y_1j = (g) ∧ w_1d = w') ?_ ?_
          ·
            apply go
            refine sel_of (fun hc => ?_) (fun hc => ?_)
            ·
              have q_1k := cond_t q_1k hc
              obtain rfl := Option.some.inj q_1k
              exact ⟨true, (.c rfl (.c rfl (.c rfl (.c rfl (.c rfl (.c rfl (.c rfl .n))))))), rfl, rfl⟩
            ·
              have q_1k := cond_f q_1k hc
              obtain rfl := Option.some.inj q_1k
              exact ⟨(x_12 != 0), (.c rfl (.c rfl (.c rfl (.c rfl (.c rfl (.c rfl (.c rfl .n))))))), rfl, rfl⟩
          ·
            rintro x_1l _ ⟨hy, rfl⟩
            replace hy := hy.symm
            subst hy
            apply go
            refine sel_of (fun hc => ?_) (fun hc => ?_)
            ·
              have h := cond_t h hc
              obtain ⟨y_1m, q_1n, h⟩ := bind_some h
              refine W.cut (γ := Bool) (fun g => [(4, (.bool (g)))]) (fun g w' => y_1m = (g) ∧ w_1d = w') ?_ ?_
              ·
                apply go
                refine sel_of (fun hc => ?_) (fun hc => ?_)
                ·
                  have q_1n := cond_t q_1n hc
                  refine ev0 (rn_eqNilP rfl rfl rfl Try.underlying28 (b := true) rfl) ?_
                  obtain rfl := Option.some.inj q_1n
                  exact ⟨true, (.c rfl .n), rfl, rfl⟩
                ·
                  have q_1n := cond_f q_1n hc
                  obtain rfl := Option.some.inj q_1n
                  exact ⟨false, (.c rfl .n), rfl, rfl⟩
              ·
                rintro x_1o _ ⟨hy, rfl⟩
                replace hy := hy.symm
                subst hy
                apply go
                obtain rfl := Option.some.inj h
                exact ⟨rfl, hp.ch⟩
            ·
              have h := cond_f h hc
              apply go
              obtain ⟨y_1p, q_1q, h⟩ := bind_some h
              refine W.cut (γ := Unit) (fun _ => [(1, v_4), (6, (.pointer none)), (8, (.pointer none))]) (fun _ w' => y_1p = () ∧ Hp ⟨w0, I0, []⟩ I_1e [] w' ∧ RepS dInput w' I_1e v_4 x_3) ?_ ?_
              ·
                apply go
                apply go
                apply go
                have hp := hp.perm [1, 0] (by decide)
                refine W.loop q_1q (γ := Ent) (fun s g => [(1, v_4), (5, (.pointer (some ⟨g_x, 0, none⟩))), (6, (.pointer none)), (8, (.pointer none)), (10, (.int .i64 (s.2)))]) (fun s g w' => Hp ⟨w0, I0, []⟩ I_1e [(g), some (g_x, [(.int .i64 x_q.Kind), (.int .i64 x_q.Name), (.int .i64 x_q.Count), v_u], 24)] w' ∧ RepS dInput w' I_1e v_4 x_3 ∧ OwnS dNode 24 w' I_1e v_u (g) (s.1)) e_v (.c rfl (.c rfl (.c rfl (.c rfl (.c rfl .n))))) ⟨hp, r_5, r_w⟩ ?_
                rintro ⟨x_1r, x_1s⟩ e_1t w_1u y_1v ⟨hp, r_5, o_1w⟩ q_1x q_1y
                unfold law41_TreeTicks_L1 at q_1x
                apply go
                apply go
                apply go
                refine ev0 (rn_field rfl rfl FO24_3) ?_
                refine ev (rn_load rfl rfl (run_loadVar1 T22 (hp.cell (i := 1) (off := 3) rfl rfl))) ?_
                refine ev0 (x_lenO rfl rfl Try.underlying22 o_1w) ?_
                apply go
                refine sel_of (fun hc => ?_) (fun hc => ?_)
                ·
                  have q_1x := cond_t q_1x hc
                  apply go
                  apply go
                  apply go
                  apply go
                  refine ev0 (rn_field rfl rfl FO24_3) ?_
                  refine ev (rn_load rfl rfl (run_loadVar1 T22 (hp.cell (i := 1) (off := 3) rfl rfl))) ?_
                  refine ev0 (fun w => rn_build (cs := [(.int .i64 0), (.int .i64 0), (.int .i64 0), (.slice none 0 0)]) rfl rfl T24 PL24 rfl) ?_
                  obtain ⟨x_1z, q_20, q_1x⟩ := bind_some q_1x
                  refine ev_indexO rfl rfl rfl Try.underlying22 T24 o_1w q_20 ?_
                  intro g_21 c_22 h_23 d_24 l_25
                  refine ev_storeE hp (i := 0) rfl h_23 rfl rfl rfl T24 o_1w q_20 (x0 := (Node.mk 0 0 0 [])) (dNode_m (x := (Node.mk 0 0 0 [])) (RepS.nil _ _ _)) ?_
                  intro e_26 w_27 hp hs o_28
                  replace r_5 := r_5.step hs
                  apply go
                  exact ⟨_, (Option.some.inj q_1x).symm, e_26, (.c rfl (.c rfl (.c rfl (.c rfl (.c rfl .n))))), ⟨hp, r_5, o_28⟩⟩
                ·
                  have q_1x := cond_f q_1x hc
                  apply go
                  have q_29 := congrArg some (q_1y _ (Option.some.inj q_1x).symm)
                  obtain rfl := Option.some.inj q_29
                  have hp := hp.sel [] (by decide)
                  exact ⟨(), (.c rfl (.c rfl (.c rfl .n))), rfl, hp, r_5⟩
              ·
                rintro ⟨⟩ w_2a ⟨hy, hp, r_5⟩
                replace hy := hy.symm
                subst hy
                obtain ⟨y_2b, q_2c, h⟩ := bind_some h
                refine W.cut (γ := Unit) (fun _ => []) (fun _ w' => y_2b = .go () ∧ w_2a = w') ?_ ?_
                ·
                  apply go
                  apply go
                  apply go
                  refine W.loop q_2c (γ := Unit) (fun _ _ => [(1, v_4), (6, (.pointer none)), (8, (.pointer none)), (11, (.int .i64 0))]) (fun _ _ w' => w_2a = w') () (.c rfl (.c rfl (.c rfl (.c rfl .n)))) rfl ?_
                  rintro ⟨⟩ ⟨⟩ _ y_2d rfl q_2e q_2f
                  unfold law41_TreeTicks_L3 at q_2e
                  apply go
                  apply go
                  apply go
                  refine ev0 (rn_len rfl rfl Try.underlying32 r_5) ?_
                  apply go
                  refine sel_of (fun hc => ?_) (fun hc => ?_)
                  ·
                    have q_2e := cond_t q_2e hc
                    apply go
                    apply go
                    apply go
                    apply go
                    apply go
                    obtain ⟨x_2g, q_2h, q_2e⟩ := bind_some q_2e
                    refine ev_index rfl rfl rfl Try.underlying32 T42 r_5 q_2h ?_
                    intro p_2i c_2j d_2k a_2l
                    obtain ⟨v_2m, v_2n, rfl, r_2o, r_2p⟩ := dInput_o d_2k
                    refine ev (rn_load rfl rfl (run_loadVarA T42 rfl a_2l)) ?_
                    cases q_2e
                  ·
                    have q_2e := cond_f q_2e hc
                    apply go
                    have q_2q := congrArg some (q_2f _ (Option.some.inj q_2e).symm)
                    obtain rfl := Option.some.inj q_2q
                    exact ⟨(), .n, rfl, rfl⟩
                ·
                  rintro ⟨⟩ _ ⟨hy, rfl⟩
                  replace hy := hy.symm
                  subst hy
                  apply go
                  apply go
                  apply go
                  obtain rfl := Option.some.inj h
                  exact ⟨rfl, hp.ch⟩
        ·
          obtain ⟨g_2r, rfl, v_2s, c_2t, c_2u, c_2v, v_2w, rfl, r_2x, r_2y, r_2z, r_30, r_31⟩ := q_1h
          have hs := hq10837.st
          have hp := hp.join0 hq10837
          replace r_5 := r_5.step hs
          replace r_w := r_w.step hs
          apply go
          obtain ⟨y_32, q_33, h⟩ := bind_some h
          refine W.cut (γ := Bool) (fun g => [(1, v_4), (5, (.pointer (some ⟨g_x, 0, none⟩))), (6, (.pointer none)), (7, (.int .i64 x_12)), (8, (.pointer (some ⟨g_2r, 0, none⟩))), (9, (.int .i64 x_1b)), (43, (.bool (g)))]) (fun g w' => y_32 = (g) ∧ w_1d = w') ?_ ?_
          ·
            apply go
            refine sel_of (fun hc => ?_) (fun hc => ?_)
            ·
              have q_33 := cond_t q_33 hc
              obtain rfl := Option.some.inj q_33
              exact ⟨true, (.c rfl (.c rfl (.c rfl (.c rfl (.c rfl (.c rfl (.c rfl .n))))))), rfl, rfl⟩
            ·
              have q_33 := cond_f q_33 hc
              obtain rfl := Option.some.inj q_33
              exact ⟨(x_12 != 0), (.c rfl (.c rfl (.c rfl (.c rfl (.c rfl (.c rfl (.c rfl .n))))))), rfl, rfl⟩
          ·
            rintro x_34 _ ⟨hy, rfl⟩
            replace hy := hy.symm
            subst hy
            apply go
            refine sel_of (fun hc => ?_) (fun hc => ?_)
            ·
              have h := cond_t h hc
              obtain ⟨y_35, q_36, h⟩ := bind_some h
              refine W.cut (γ := Bool) (fun g => [(4, (.bool (g)))]) (fun g w' => y_35 = (g) ∧ w_1d = w') ?_ ?_
              ·
                apply go
                refine sel_of (fun hc => ?_) (fun hc => ?_)
                ·
                  have q_36 := cond_t q_36 hc
                  refine ev0 (rn_eqNilP rfl rfl rfl Try.underlying28 (b := true) rfl) ?_
                  obtain rfl := Option.some.inj q_36
                  exact ⟨true, (.c rfl .n), rfl, rfl⟩
                ·
                  have q_36 := cond_f q_36 hc
                  obtain rfl := Option.some.inj q_36
                  exact ⟨false, (.c rfl .n), rfl, rfl⟩
              ·
                rintro x_37 _ ⟨hy, rfl⟩
                replace hy := hy.symm
                subst hy
                apply go
                obtain rfl := Option.some.inj h
                exact ⟨rfl, hp.ch⟩
            ·
              have h := cond_f h hc
              apply go
              obtain ⟨y_38, q_39, h⟩ := bind_some h
              refine W.cut (γ := Unit) (fun _ => [(1, v_4), (6, (.pointer none)), (8, (.pointer (some ⟨g_2r, 0, none⟩)))]) (fun _ w' => y_38 = () ∧ Hp ⟨w0, I0, []⟩ I_1e [some (g_2r, ((Value.int .i64 x_1i.T.Kind) :: ((Value.int .i64 x_1i.T.Name) :: ((Value.int .i64 x_1i.T.Count) :: (v_2s :: (c_2t ++ (c_2u ++ (c_2v ++ (v_2w :: [])))))))), 65)] w' ∧ RepS dInput w' I_1e v_4 x_3 ∧ RepS dNode w' I_1e v_2s x_1i.T.Kids ∧ (dA 64 (dI .i64)).rep w' I_1e c_2t x_1i.Counters ∧ (dA 64 dB).rep w' I_1e c_2u x_1i.On ∧ (dA 64 (dI .i64)).rep w' I_1e c_2v x_1i.Status ∧ RepS (dI .i64) w' I_1e v_2w x_1i.Ticked) ?_ ?_
              ·
                apply go
                apply go
                apply go
                have hp := hp.perm [2, 1, 0] (by decide)
                refine W.loop q_39 (γ := Ent) (fun s g => [(1, v_4), (5, (.pointer (some ⟨g_x, 0, none⟩))), (6, (.pointer none)), (8, (.pointer (some ⟨g_2r, 0, none⟩))), (10, (.int .i64 (s.2)))]) (fun s g w' => Hp ⟨w0, I0, []⟩ I_1e [(g), some (g_x, [(.int .i64 x_q.Kind), (.int .i64 x_q.Name), (.int .i64 x_q.Count), v_u], 24), some (g_2r, ((Value.int .i64 x_1i.T.Kind) :: ((Value.int .i64 x_1i.T.Name) :: ((Value.int .i64 x_1i.T.Count) :: (v_2s :: (c_2t ++ (c_2u ++ (c_2v ++ (v_2w :: [])))))))), 65)] w' ∧ RepS dInput w' I_1e v_4 x_3 ∧ OwnS dNode 24 w' I_1e v_u (g) (s.1) ∧ RepS dNode w' I_1e v_2s x_1i.T.Kids ∧ (dA 64 (dI .i64)).rep w' I_1e c_2t x_1i.Counters ∧ (dA 64 dB).rep w' I_1e c_2u x_1i.On ∧ (dA 64 (dI .i64)).rep w' I_1e c_2v x_1i.Status ∧ RepS (dI .i64) w' I_1e v_2w x_1i.Ticked) e_v (.c rfl (.c rfl (.c rfl (.c rfl (.c rfl .n))))) ⟨hp, r_5, r_w, r_2x, r_2y, r_2z, r_30, r_31⟩ ?_
                rintro ⟨x_3a, x_3b⟩ e_3c w_3d y_3e ⟨hp, r_5, o_3f, r_2x, r_2y, r_2z, r_30, r_31⟩ q_3g q_3h
                unfold law41_TreeTicks_L5 at q_3g
                apply go
                apply go
                apply go
                refine ev0 (rn_field rfl rfl FO24_3) ?_
                refine ev (rn_load rfl rfl (run_loadVar1 T22 (hp.cell (i := 1) (off := 3) rfl rfl))) ?_
                refine ev0 (x_lenO rfl rfl Try.underlying22 o_3f) ?_
                apply go
                refine sel_of (fun hc => ?_) (fun hc => ?_)
                ·
                  have q_3g := cond_t q_3g hc
                  apply go
                  apply go
                  apply go
                  apply go
                  refine ev0 (rn_field rfl rfl FO24_3) ?_
                  refine ev (rn_load rfl rfl (run_loadVar1 T22 (hp.cell (i := 1) (off := 3) rfl rfl))) ?_
                  refine ev0 (fun w => rn_build (cs := [(.int .i64 0), (.int .i64 0), (.int .i64 0), (.slice none 0 0)]) rfl rfl T24 PL24 rfl) ?_
                  obtain ⟨x_3i, q_3j, q_3g⟩ := bind_some q_3g
                  refine ev_indexO rfl rfl rfl Try.underlying22 T24 o_3f q_3j ?_
                  intro g_3k c_3l h_3m d_3n l_3o
                  refine ev_storeE hp (i := 0) rfl h_3m rfl rfl rfl T24 o_3f q_3j (x0 := (Node.mk 0 0 0 [])) (dNode_m (x := (Node.mk 0 0 0 [])) (RepS.nil _ _ _)) ?_
                  intro e_3p w_3q hp hs o_3r
                  replace r_5 := r_5.step hs
                  replace r_2x := r_2x.step hs
                  replace r_2y := r_2y.step hs
                  replace r_2z := r_2z.step hs
                  replace r_30 := r_30.step hs
                  replace r_31 := r_31.step hs
                  apply go
                  exact ⟨_, (Option.some.inj q_3g).symm, e_3p, (.c rfl (.c rfl (.c rfl (.c rfl (.c rfl .n))))), ⟨hp, r_5, o_3r, r_2x, r_2y, r_2z, r_30, r_31⟩⟩
                ·
                  have q_3g := cond_f q_3g hc
                  apply go
                  have q_3s := congrArg some (q_3h _ (Option.some.inj q_3g).symm)
                  obtain rfl := Option.some.inj q_3s
                  have hp := hp.sel [2] (by decide)
                  exact ⟨(), (.c rfl (.c rfl (.c rfl .n))), rfl, hp, r_5, r_2x, r_2y, r_2z, r_30, r_31⟩
              ·
                rintro ⟨⟩ w_3t ⟨hy, hp, r_5, r_2x, r_2y, r_2z, r_30, r_31⟩
                replace hy := hy.symm
                subst hy
                obtain ⟨y_3u, q_3v, h⟩ := bind_some h
                refine W.cut (γ := Unit) (fun _ => []) (fun _ w' => y_3u = .go () ∧ w_3t = w') ?_ ?_
                ·
                  apply go
                  apply go
                  apply go
                  refine W.loop q_3v (γ := Unit) (fun _ _ => [(1, v_4), (6, (.pointer none)), (8, (.pointer (some ⟨g_2r, 0, none⟩))), (11, (.int .i64 0))]) (fun _ _ w' => w_3t = w') () (.c rfl (.c rfl (.c rfl (.c rfl .n)))) rfl ?_
                  rintro ⟨⟩ ⟨⟩ _ y_3w rfl q_3x q_3y
                  unfold law41_TreeTicks_L7 at q_3x
                  apply go
                  apply go
                  apply go
                  refine ev0 (rn_len rfl rfl Try.underlying32 r_5) ?_
                  apply go
                  refine sel_of (fun hc => ?_) (fun hc => ?_)
                  ·
                    have q_3x := cond_t q_3x hc
                    apply go
                    apply go
                    apply go
                    apply go
                    apply go
                    obtain ⟨x_3z, q_40, q_3x⟩ := bind_some q_3x
                    refine ev_index rfl rfl rfl Try.underlying32 T42 r_5 q_40 ?_
                    intro p_41 c_42 d_43 a_44
                    obtain ⟨v_45, v_46, rfl, r_47, r_48⟩ := dInput_o d_43
                    refine ev (rn_load rfl rfl (run_loadVarA T42 rfl a_44)) ?_
                    cases q_3x
                  ·
                    have q_3x := cond_f q_3x hc
                    apply go
                    have q_49 := congrArg some (q_3y _ (Option.some.inj q_3x).symm)
                    obtain rfl := Option.some.inj q_49
                    exact ⟨(), .n, rfl, rfl⟩
                ·
                  rintro ⟨⟩ _ ⟨hy, rfl⟩
                  replace hy := hy.symm
                  subst hy
                  apply go
                  apply go
                  apply go
                  obtain rfl := Option.some.inj h
                  exact ⟨rfl, hp.ch⟩
      ·
        obtain ⟨g_4a, rfl, v_4b, v_4c, e_4d, v_4e, e_4f, rfl, f_4g, o_4h, o_4i⟩ := q_18
        replace f_4g := f_4g.loan (I := I_t)
        have r_4j := f_4g.imm
        replace o_4h := o_4h.loan (w := w_z) (dI_flat _) (I := I_t)
        replace o_4i := o_4i.loan (w := w_z) dB_flat (I := I_t)
        obtain ⟨hp, hs⟩ := hp.joinL hq10827
        replace r_5 := r_5.step hs
        replace a_9 := a_9.step hs
        replace r_2 := r_2.step hs
        replace r_w := r_w.step hs
        apply go
        apply go
        refine ev (rn_load rfl rfl (run_loadVarA T24 rfl a_9)) ?_
        obtain ⟨⟨x_4k, x_4l⟩, q_4m, h⟩ := bind_some h
        refine ev_call rfl rfl C18 (((ref41_New_ok n) _ _  (Node.mk x_0.Kind x_0.Name x_0.Count x_0.Kids) v_1 r_2 hp.imm _ q_4m).mono ?_)
        rintro _ w_4n ⟨I_4o, v_4p, F_4q, hv, hq11242, q_4r⟩
        replace hv := hv.symm
        subst hv
        rcases x_4k with _ | x_4s
        ·
          obtain ⟨rfl, rfl⟩ := q_4r
          have hs := hq11242.st
          have hp := hp.join0 hq11242
          replace r_5 := r_5.step hs
          replace r_4j := r_4j.step hs
          replace o_4h := o_4h.step hs
          replace o_4i := o_4i.step hs
          replace r_w := r_w.step hs
          apply go
          obtain ⟨y_4t, q_4u, h⟩ := bind_some h
          refine W.cut (γ := Bool) (fun g => [(1, v_4), (5, (.pointer (some ⟨g_x, 0, none⟩))), (6, (.pointer (some ⟨g_4a, 0, none⟩))), (7, (.int .i64 x_12)), (8, (.pointer none)), (9, (.int .i64 x_4l)), (43, (.bool (g)))]) (fun g w' => y_4t = (g) ∧ w_4n = w') ?_ ?_
          ·
            apply go
            refine sel_of (fun hc => ?_) (fun hc => ?_)
            ·
              have q_4u := cond_t q_4u hc
              obtain rfl := Option.some.inj q_4u
              exact ⟨true, (.c rfl (.c rfl (.c rfl (.c rfl (.c rfl (.c rfl (.c rfl .n))))))), rfl, rfl⟩
            ·
              have q_4u := cond_f q_4u hc
              obtain rfl := Option.some.inj q_4u
              exact ⟨(x_12 != 0), (.c rfl (.c rfl (.c rfl (.c rfl (.c rfl (.c rfl (.c rfl .n))))))), rfl, rfl⟩
          ·
            rintro x_4v _ ⟨hy, rfl⟩
            replace hy := hy.symm
            subst hy
            apply go
            refine sel_of (fun hc => ?_) (fun hc => ?_)
            ·
              have h := cond_t h hc
              obtain ⟨y_4w, q_4x, h⟩ := bind_some h
              refine W.cut (γ := Unit) (fun _ => [(4, (.bool false))]) (fun _ w' => y_4w = () ∧ w_4n = w') ?_ ?_
              ·
                apply go
                refine sel_of (fun hc => ?_) (fun hc => ?_)
                ·
                  have q_4x := cond_t q_4x hc
                  refine ev0 (rn_eqNilP rfl rfl rfl Try.underlying28 (b := false) rfl) ?_
                  obtain rfl := Option.some.inj q_4x
                  exact ⟨(), (.c rfl .n), rfl, rfl⟩
                ·
                  have q_4x := cond_f q_4x hc
                  obtain rfl := Option.some.inj q_4x
                  exact ⟨(), (.c rfl .n), rfl, rfl⟩
              ·
                rintro ⟨⟩ _ ⟨hy, rfl⟩
                replace hy := hy.symm
                subst hy
                apply go
                obtain rfl := Option.some.inj h
                exact ⟨rfl, hp.ch⟩
            ·
              have h := cond_f h hc
              apply go
              obtain ⟨y_4y, q_4z, h⟩ := bind_some h
              refine W.cut (γ := Unit) (fun _ => [(1, v_4), (6, (.pointer (some ⟨g_4a, 0, none⟩))), (8, (.pointer none))]) (fun _ w' => y_4y = () ∧ Hp ⟨w0, I0, []⟩ I_4o [e_4d, e_4f, some (g_4a, [v_4b, v_4c, v_4e], 61)] w' ∧ RepS dInput w' I_4o v_4 x_3 ∧ RepS dNode_2 w' I_4o v_4b x_19.nodes ∧ OwnS (dI .i64) 3 w' I_4o v_4c e_4d x_19.counters ∧ OwnS dB 4 w' I_4o v_4e e_4f x_19.active) ?_ ?_
              ·
                apply go
                apply go
                apply go
                have hp := hp.perm [4, 3, 1, 2, 0] (by decide)
                refine W.loop q_4z (γ := Ent) (fun s g => [(1, v_4), (5, (.pointer (some ⟨g_x, 0, none⟩))), (6, (.pointer (some ⟨g_4a, 0, none⟩))), (8, (.pointer none)), (10, (.int .i64 (s.2)))]) (fun s g w' => Hp ⟨w0, I0, []⟩ I_4o [(g), some (g_x, [(.int .i64 x_q.Kind), (.int .i64 x_q.Name), (.int .i64 x_q.Count), v_u], 24), e_4d, e_4f, some (g_4a, [v_4b, v_4c, v_4e], 61)] w' ∧ RepS dInput w' I_4o v_4 x_3 ∧ OwnS dNode 24 w' I_4o v_u (g) (s.1) ∧ RepS dNode_2 w' I_4o v_4b x_19.nodes ∧ OwnS (dI .i64) 3 w' I_4o v_4c e_4d x_19.counters ∧ OwnS dB 4 w' I_4o v_4e e_4f x_19.active) e_v (.c rfl (.c rfl (.c rfl (.c rfl (.c rfl .n))))) ⟨hp, r_5, r_w, r_4j, o_4h, o_4i⟩ ?_
                rintro ⟨x_50, x_51⟩ e_52 w_53 y_54 ⟨hp, r_5, o_55, r_4j, o_4h, o_4i⟩ q_56 q_57
                unfold law41_TreeTicks_L9 at q_56
                apply go
                apply go
                apply go
                refine ev0 (rn_field rfl rfl FO24_3) ?_
                refine ev (rn_load rfl rfl (run_loadVar1 T22 (hp.cell (i := 1) (off := 3) rfl rfl))) ?_
                refine ev0 (x_lenO rfl rfl Try.underlying22 o_55) ?_
                apply go
                refine sel_of (fun hc => ?_) (fun hc => ?_)
                ·
                  have q_56 := cond_t q_56 hc
                  apply go
                  apply go
                  apply go
                  apply go
                  refine ev0 (rn_field rfl rfl FO24_3) ?_
                  refine ev (rn_load rfl rfl (run_loadVar1 T22 (hp.cell (i := 1) (off := 3) rfl rfl))) ?_
                  refine ev0 (fun w => rn_build (cs := [(.int .i64 0), (.int .i64 0), (.int .i64 0), (.slice none 0 0)]) rfl rfl T24 PL24 rfl) ?_
                  obtain ⟨x_58, q_59, q_56⟩ := bind_some q_56
                  refine ev_indexO rfl rfl rfl Try.underlying22 T24 o_55 q_59 ?_
                  intro g_5a c_5b h_5c d_5d l_5e
                  refine ev_storeE hp (i := 0) rfl h_5c rfl rfl rfl T24 o_55 q_59 (x0 := (Node.mk 0 0 0 [])) (dNode_m (x := (Node.mk 0 0 0 [])) (RepS.nil _ _ _)) ?_
                  intro e_5f w_5g hp hs o_5h
                  replace r_5 := r_5.step hs
                  replace r_4j := r_4j.step hs
                  replace o_4h := o_4h.step hs
                  replace o_4i := o_4i.step hs
                  apply go
                  exact ⟨_, (Option.some.inj q_56).symm, e_5f, (.c rfl (.c rfl (.c rfl (.c rfl (.c rfl .n))))), ⟨hp, r_5, o_5h, r_4j, o_4h, o_4i⟩⟩
                ·
                  have q_56 := cond_f q_56 hc
                  apply go
                  have q_5i := congrArg some (q_57 _ (Option.some.inj q_56).symm)
                  obtain rfl := Option.some.inj q_5i
                  have hp := hp.sel [2, 3, 4] (by decide)
                  exact ⟨(), (.c rfl (.c rfl (.c rfl .n))), rfl, hp, r_5, r_4j, o_4h, o_4i⟩
              ·
                rintro ⟨⟩ w_5j ⟨hy, hp, r_5, r_4j, o_4h, o_4i⟩
                replace hy := hy.symm
                subst hy
                obtain ⟨y_5k, q_5l, h⟩ := bind_some h
                refine W.cut (γ := Unit) (fun _ => []) (fun _ w' => y_5k = .go () ∧ w_5j = w') ?_ ?_
                ·
                  apply go
                  apply go
                  apply go
                  refine W.loop q_5l (γ := Unit) (fun _ _ => [(1, v_4), (6, (.pointer (some ⟨g_4a, 0, none⟩))), (8, (.pointer none)), (11, (.int .i64 0))]) (fun _ _ w' => w_5j = w') () (.c rfl (.c rfl (.c rfl (.c rfl .n)))) rfl ?_
                  rintro ⟨⟩ ⟨⟩ _ y_5m rfl q_5n q_5o
                  unfold law41_TreeTicks_L11 at q_5n
                  apply go
                  apply go
                  apply go
                  refine ev0 (rn_len rfl rfl Try.underlying32 r_5) ?_
                  apply go
                  refine sel_of (fun hc => ?_) (fun hc => ?_)
                  ·
                    have q_5n := cond_t q_5n hc
                    apply go
                    apply go
                    apply go
                    apply go
                    apply go
                    obtain ⟨x_5p, q_5q, q_5n⟩ := bind_some q_5n
                    refine ev_index rfl rfl rfl Try.underlying32 T42 r_5 q_5q ?_
                    intro p_5r c_5s d_5t a_5u
                    obtain ⟨v_5v, v_5w, rfl, r_5x, r_5y⟩ := dInput_o d_5t
                    refine ev (rn_load rfl rfl (run_loadVarA T42 rfl a_5u)) ?_
                    cases q_5n
                  ·
                    have q_5n := cond_f q_5n hc
                    apply go
                    have q_5z := congrArg some (q_5o _ (Option.some.inj q_5n).symm)
                    obtain rfl := Option.some.inj q_5z
                    exact ⟨(), .n, rfl, rfl⟩
                ·
                  rintro ⟨⟩ _ ⟨hy, rfl⟩
                  replace hy := hy.symm
                  subst hy
                  apply go
                  apply go
                  apply go
                  obtain rfl := Option.some.inj h
                  exact ⟨rfl, hp.ch⟩
        ·
          obtain ⟨g_60, rfl, v_61, c_62, c_63, c_64, v_65, rfl, r_66, r_67, r_68, r_69, r_6a⟩ := q_4r
          have hs := hq11242.st
          have hp := hp.join0 hq11242
          replace r_5 := r_5.step hs
          replace r_4j := r_4j.step hs
          replace o_4h := o_4h.step hs
          replace o_4i := o_4i.step hs
          replace r_w := r_w.step hs
          apply go
          obtain ⟨y_6b, q_6c, h⟩ := bind_some h
          refine W.cut (γ := Bool) (fun g => [(1, v_4), (5, (.pointer (some ⟨g_x, 0, none⟩))), (6, (.pointer (some ⟨g_4a, 0, none⟩))), (7, (.int .i64 x_12)), (8, (.pointer (some ⟨g_60, 0, none⟩))), (9, (.int .i64 x_4l)), (43, (.bool (g)))]) (fun g w' => y_6b = (g) ∧ w_4n = w') ?_ ?_
          ·
            apply go
            refine sel_of (fun hc => ?_) (fun hc => ?_)
            ·
              have q_6c := cond_t q_6c hc
              obtain rfl := Option.some.inj q_6c
              exact ⟨true, (.c rfl (.c rfl (.c rfl (.c rfl (.c rfl (.c rfl (.c rfl .n))))))), rfl, rfl⟩
            ·
              have q_6c := cond_f q_6c hc
              obtain rfl := Option.some.inj q_6c
              exact ⟨(x_12 != 0), (.c rfl (.c rfl (.c rfl (.c rfl (.c rfl (.c rfl (.c rfl .n))))))), rfl, rfl⟩
          ·
            rintro x_6d _ ⟨hy, rfl⟩
            replace hy := hy.symm
            subst hy
            apply go
            refine sel_of (fun hc => ?_) (fun hc => ?_)
            ·
              have h := cond_t h hc
              obtain ⟨y_6e, q_6f, h⟩ := bind_some h
              refine W.cut (γ := Unit) (fun _ => [(4, (.bool false))]) (fun _ w' => y_6e = () ∧ w_4n = w') ?_ ?_
              ·
                apply go
                refine sel_of (fun hc => ?_) (fun hc => ?_)
                ·
                  have q_6f := cond_t q_6f hc
                  refine ev0 (rn_eqNilP rfl rfl rfl Try.underlying28 (b := false) rfl) ?_
                  obtain rfl := Option.some.inj q_6f
                  exact ⟨(), (.c rfl .n), rfl, rfl⟩
                ·
                  have q_6f := cond_f q_6f hc
                  obtain rfl := Option.some.inj q_6f
                  exact ⟨(), (.c rfl .n), rfl, rfl⟩
              ·
                rintro ⟨⟩ _ ⟨hy, rfl⟩
                replace hy := hy.symm
                subst hy
                apply go
                obtain rfl := Option.some.inj h
                exact ⟨rfl, hp.ch⟩
            ·
              have h := cond_f h hc
              apply go
              obtain ⟨y_6g, q_6h, h⟩ := bind_some h
              refine W.cut (γ := Unit) (fun _ => [(1, v_4), (6, (.pointer (some ⟨g_4a, 0, none⟩))), (8, (.pointer (some ⟨g_60, 0, none⟩)))]) (fun _ w' => y_6g = () ∧ Hp ⟨w0, I0, []⟩ I_4o [e_4d, e_4f, some (g_4a, [v_4b, v_4c, v_4e], 61), some (g_60, ((Value.int .i64 x_4s.T.Kind) :: ((Value.int .i64 x_4s.T.Name) :: ((Value.int .i64 x_4s.T.Count) :: (v_61 :: (c_62 ++ (c_63 ++ (c_64 ++ (v_65 :: [])))))))), 65)] w' ∧ RepS dInput w' I_4o v_4 x_3 ∧ RepS dNode_2 w' I_4o v_4b x_19.nodes ∧ OwnS (dI .i64) 3 w' I_4o v_4c e_4d x_19.counters ∧ OwnS dB 4 w' I_4o v_4e e_4f x_19.active ∧ RepS dNode w' I_4o v_61 x_4s.T.Kids ∧ (dA 64 (dI .i64)).rep w' I_4o c_62 x_4s.Counters ∧ (dA 64 dB).rep w' I_4o c_63 x_4s.On ∧ (dA 64 (dI .i64)).rep w' I_4o c_64 x_4s.Status ∧ RepS (dI .i64) w' I_4o v_65 x_4s.Ticked) ?_ ?_
              ·
                apply go
                apply go
                apply go
                have hp := hp.perm [5, 4, 2, 3, 1, 0] (by decide)
                refine W.loop q_6h (γ := Ent) (fun s g => [(1, v_4), (5, (.pointer (some ⟨g_x, 0, none⟩))), (6, (.pointer (some ⟨g_4a, 0, none⟩))), (8, (.pointer (some ⟨g_60, 0, none⟩))), (10, (.int .i64 (s.2)))]) (fun s g w' => Hp ⟨w0, I0, []⟩ I_4o [(g), some (g_x, [(.int .i64 x_q.Kind), (.int .i64 x_q.Name), (.int .i64 x_q.Count), v_u], 24), e_4d, e_4f, some (g_4a, [v_4b, v_4c, v_4e], 61), some (g_60, ((Value.int .i64 x_4s.T.Kind) :: ((Value.int .i64 x_4s.T.Name) :: ((Value.int .i64 x_4s.T.Count) :: (v_61 :: (c_62 ++ (c_63 ++ (c_64 ++ (v_65 :: [])))))))), 65)] w' ∧ RepS dInput w' I_4o v_4 x_3 ∧ OwnS dNode 24 w' I_4o v_u (g) (s.1) ∧ RepS dNode_2 w' I_4o v_4b x_19.nodes ∧ OwnS (dI .i64) 3 w' I_4o v_4c e_4d x_19.counters ∧ OwnS dB 4 w' I_4o v_4e e_4f x_19.active ∧ RepS dNode w' I_4o v_61 x_4s.T.Kids ∧ (dA 64 (dI .i64)).rep w' I_4o c_62 x_4s.Counters ∧ (dA 64 dB).rep w' I_4o c_63 x_4s.On ∧ (dA 64 (dI .i64)).rep w' I_4o c_64 x_4s.Status ∧ RepS (dI .i64) w' I_4o v_65 x_4s.Ticked) e_v (.c rfl (.c rfl (.c rfl (.c rfl (.c rfl .n))))) ⟨hp, r_5, r_w, r_4j, o_4h, o_4i, r_66, r_67, r_68, r_69, r_6a⟩ ?_
                rintro ⟨x_6i, x_6j⟩ e_6k w_6l y_6m ⟨hp, r_5, o_6n, r_4j, o_4h, o_4i, r_66, r_67, r_68, r_69, r_6a⟩ q_6o q_6p
                unfold law41_TreeTicks_L13 at q_6o
                apply go
                apply go
                apply go
                refine ev0 (rn_field rfl rfl FO24_3) ?_
                refine ev (rn_load rfl rfl (run_loadVar1 T22 (hp.cell (i := 1) (off := 3) rfl rfl))) ?_
                refine ev0 (x_lenO rfl rfl Try.underlying22 o_6n) ?_
                apply go
                refine sel_of (fun hc => ?_) (fun hc => ?_)
                ·
                  have q_6o := cond_t q_6o hc
                  apply go
                  apply go
                  apply go
                  apply go
                  refine ev0 (rn_field rfl rfl FO24_3) ?_
                  refine ev (rn_load rfl rfl (run_loadVar1 T22 (hp.cell (i := 1) (off := 3) rfl rfl))) ?_
                  refine ev0 (fun w => rn_build (cs := [(.int .i64 0), (.int .i64 0), (.int .i64 0), (.slice none 0 0)]) rfl rfl T24 PL24 rfl) ?_
                  obtain ⟨x_6q, q_6r, q_6o⟩ := bind_some q_6o
                  refine ev_indexO rfl rfl rfl Try.underlying22 T24 o_6n q_6r ?_
                  intro g_6s c_6t h_6u d_6v l_6w
                  refine ev_storeE hp (i := 0) rfl h_6u rfl rfl rfl T24 o_6n q_6r (x0 := (Node.mk 0 0 0 [])) (dNode_m (x := (Node.mk 0 0 0 [])) (RepS.nil _ _ _)) ?_
                  intro e_6x w_6y hp hs o_6z
                  replace r_5 := r_5.step hs
                  replace r_4j := r_4j.step hs
                  replace o_4h := o_4h.step hs
                  replace o_4i := o_4i.step hs
                  replace r_66 := r_66.step hs
                  replace r_67 := r_67.step hs
                  replace r_68 := r_68.step hs
                  replace r_69 := r_69.step hs
                  replace r_6a := r_6a.step hs
                  apply go
                  exact ⟨_, (Option.some.inj q_6o).symm, e_6x, (.c rfl (.c rfl (.c rfl (.c rfl (.c rfl .n))))), ⟨hp, r_5, o_6z, r_4j, o_4h, o_4i, r_66, r_67, r_68, r_69, r_6a⟩⟩
                ·
                  have q_6o := cond_f q_6o hc
                  apply go
                  have q_70 := congrArg some (q_6p _ (Option.some.inj q_6o).symm)
                  obtain rfl := Option.some.inj q_70
                  have hp := hp.sel [2, 3, 4, 5] (by decide)
                  exact ⟨(), (.c rfl (.c rfl (.c rfl .n))), rfl, hp, r_5, r_4j, o_4h, o_4i, r_66, r_67, r_68, r_69, r_6a⟩
              ·
                rintro ⟨⟩ w_71 ⟨hy, hp, r_5, r_4j, o_4h, o_4i, r_66, r_67, r_68, r_69, r_6a⟩
                replace hy := hy.symm
                subst hy
                obtain ⟨y_72, q_73, h⟩ := bind_some h
                refine W.cut (γ := (Nat → Prop)) (fun g => []) (fun g w' => y_72 = .go () ∧ Hp ⟨w0, I0, []⟩ (g) [] w') ?_ ?_
                ·
                  apply go
                  apply go
                  apply go
                  refine W.loop q_73 (γ := (Value × Value × Ent × Value × Ent × Value × (List Value) × (List Value) × (List Value) × Value × (Nat → Prop))) (fun s g => [(1, v_4), (6, (.pointer (some ⟨g_4a, 0, none⟩))), (8, (.pointer (some ⟨g_60, 0, none⟩))), (11, (.int .i64 (s.2.2.2.2.2.2.2.2.2.2.2)))]) (fun s g w' => Hp ⟨w0, I0, []⟩ (g.2.2.2.2.2.2.2.2.2.2) [(g.2.2.1), (g.2.2.2.2.1), some (g_4a, [(g.1), (g.2.1), (g.2.2.2.1)], 61), some (g_60, ((Value.int .i64 (s.2.2.2.1)) :: ((Value.int .i64 (s.2.2.2.2.1)) :: ((Value.int .i64 (s.2.2.2.2.2.1)) :: ((g.2.2.2.2.2.1) :: ((g.2.2.2.2.2.2.1) ++ ((g.2.2.2.2.2.2.2.1) ++ ((g.2.2.2.2.2.2.2.2.1) ++ ((g.2.2.2.2.2.2.2.2.2.1) :: [])))))))), 65)] w' ∧ RepS dInput w' (g.2.2.2.2.2.2.2.2.2.2) v_4 x_3 ∧ RepS dNode_2 w' (g.2.2.2.2.2.2.2.2.2.2) (g.1) (s.1) ∧ OwnS (dI .i64) 3 w' (g.2.2.2.2.2.2.2.2.2.2) (g.2.1) (g.2.2.1) (s.2.1) ∧ OwnS dB 4 w' (g.2.2.2.2.2.2.2.2.2.2) (g.2.2.2.1) (g.2.2.2.2.1) (s.2.2.1) ∧ RepS dNode w' (g.2.2.2.2.2.2.2.2.2.2) (g.2.2.2.2.2.1) (s.2.2.2.2.2.2.1) ∧ (dA 64 (dI .i64)).rep w' (g.2.2.2.2.2.2.2.2.2.2) (g.2.2.2.2.2.2.1) (s.2.2.2.2.2.2.2.1) ∧ (dA 64 dB).rep w' (g.2.2.2.2.2.2.2.2.2.2) (g.2.2.2.2.2.2.2.1) (s.2.2.2.2.2.2.2.2.1) ∧ (dA 64 (dI .i64)).rep w' (g.2.2.2.2.2.2.2.2.2.2) (g.2.2.2.2.2.2.2.2.1) (s.2.2.2.2.2.2.2.2.2.1) ∧ RepS (dI .i64) w' (g.2.2.2.2.2.2.2.2.2.2) (g.2.2.2.2.2.2.2.2.2.1) (s.2.2.2.2.2.2.2.2.2.2.1)) (v_4b, v_4c, e_4d, v_4e, e_4f, v_61, c_62, c_63, c_64, v_65, I_4o) (.c rfl (.c rfl (.c rfl (.c rfl .n)))) ⟨hp, r_5, r_4j, o_4h, o_4i, r_66, r_67, r_68, r_69, r_6a⟩ ?_
                  rintro ⟨x_74, x_75, x_76, x_77, x_78, x_79, x_7a, x_7b, x_7c, x_7d, x_7e, x_7f⟩ ⟨v_7g, v_7h, e_7i, v_7j, e_7k, v_7l, c_7m, c_7n, c_7o, v_7p, I_7q⟩ w_7r y_7s ⟨hp, r_5, r_7t, o_7u, o_7v, r_7w, r_7x, r_7y, r_7z, r_80⟩ q_81 q_82
                  unfold law41_TreeTicks_L15 at q_81
                  apply go
                  apply go
                  apply go
                  refine ev0 (rn_len rfl rfl Try.underlying32 r_5) ?_
                  apply go
                  refine sel_of (fun hc => ?_) (fun hc => ?_)
                  ·
                    have q_81 := cond_t q_81 hc
                    apply go
                    apply go
                    apply go
                    apply go
                    apply go
                    obtain ⟨x_83, q_84, q_81⟩ := bind_some q_81
                    refine ev_index rfl rfl rfl Try.underlying32 T42 r_5 q_84 ?_
                    intro p_85 c_86 d_87 a_88
                    obtain ⟨v_89, v_8a, rfl, r_8b, r_8c⟩ := dInput_o d_87
                    refine ev (rn_load rfl rfl (run_loadVarA T42 rfl a_88)) ?_
                    obtain ⟨⟨x_8d, x_8e, x_8f⟩, q_8g, q_81⟩ := bind_some q_81
                    refine ev_call rfl rfl C19 (((law41_same_ok n) _ _  (Runner.mk x_74 x_75 x_76) g_4a [some (g_4a, [v_7g, v_7h, v_7j], 61), e_7i, e_7k] ⟨v_7g, v_7h, e_7i, v_7j, e_7k, rfl, r_7t, o_7u, o_7v⟩ (Runner_2.mk (Node.mk x_77 x_78 x_79 x_7a) x_7b x_7c x_7d x_7e) g_60 [some (g_60, ((Value.int .i64 x_77) :: ((Value.int .i64 x_78) :: ((Value.int .i64 x_79) :: (v_7l :: (c_7m ++ (c_7n ++ (c_7o ++ (v_7p :: [])))))))), 65)] ⟨v_7l, c_7m, c_7n, c_7o, v_7p, rfl, r_7w, r_7x, r_7y, r_7z, r_80⟩ (Input.mk x_83.Actions x_83.Tests) v_89 r_8b v_8a r_8c (hp.lendL [2, 0, 1, 3] (by decide)) _ q_8g).mono ?_)
                    rintro _ w_8h ⟨I_8i, F_8j, F_8k, hv, hq11910, q_8l, q_8m⟩
                    replace hv := hv.symm
                    subst hv
                    obtain ⟨v_8n, v_8o, e_8p, v_8q, e_8r, rfl, r_8s, o_8t, o_8u⟩ := q_8l
                    obtain ⟨v_8v, c_8w, c_8x, c_8y, v_8z, rfl, r_90, r_91, r_92, r_93, r_94⟩ := q_8m
                    have hs := hq11910.st
                    have hp := hp.backL [2, 0, 1, 3] [] (by decide) hq11910
                    replace r_5 := r_5.step hs
                    apply go
                    refine sel_of (fun hc => ?_) (fun hc => ?_)
                    ·
                      have q_81 := cond_t q_81 hc
                      apply go
                      apply go
                      apply go
                      have q_95 := congrArg some (q_82 _ (Option.some.inj q_81).symm)
                      obtain rfl := Option.some.inj q_95
                      obtain rfl := Option.some.inj h
                      exact ⟨rfl, hp.ch⟩
                    ·
                      have q_81 := cond_f q_81 hc
                      apply go
                      apply go
                      have hp := hp.perm [1, 2, 0, 3] (by decide)
                      exact ⟨_, (Option.some.inj q_81).symm, (v_8n, v_8o, e_8p, v_8q, e_8r, v_8v, c_8w, c_8x, c_8y, v_8z, I_8i), (.c rfl (.c rfl (.c rfl (.c rfl .n)))), ⟨hp, r_5, r_8s, o_8t, o_8u, r_90, r_91, r_92, r_93, r_94⟩⟩
                  ·
                    have q_81 := cond_f q_81 hc
                    apply go
                    have q_96 := congrArg some (q_82 _ (Option.some.inj q_81).symm)
                    obtain rfl := Option.some.inj q_96
                    have hp := hp.sel [] (by decide)
                    exact ⟨I_7q, .n, rfl, hp⟩
                ·
                  rintro I_97 w_98 ⟨hy, hp⟩
                  replace hy := hy.symm
                  subst hy
                  apply go
                  apply go
                  apply go
                  obtain rfl := Option.some.inj h
                  exact ⟨rfl, hp.ch⟩

end Go.Proofs.Ytknnmbcaoekgmaa
