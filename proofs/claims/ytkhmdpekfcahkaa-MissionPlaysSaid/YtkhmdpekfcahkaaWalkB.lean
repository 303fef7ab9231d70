/-
  Each function of the program computes the plain function of its name.
-/
import Derived.Test.YtkhmdpekfcahkaaFactsA
import Derived.Test.YtkhmdpekfcahkaaWalkA
namespace Go.Proofs.Ytkhmdpekfcahkaa
open Go Go.Proofs.Ytkhmdpekfcahkaa.Gw Go.RowKit
set_option linter.unusedVariables false
attribute [local irreducible] Ev EvQ EvS EvH
def ref42_Build_S (f : (List Task) → Option (Node × Int)) : Prop := ∀ (w0 : World) (I0 : Nat → Prop) (x_0 : (List Task)) (v_1 : Value) (r_2 : RepS dTask w0 I0 v_1 x_0) (hI : ∀ g, I0 g → g < w0.heap.size) (r : (Node × Int)), f x_0 = some r →
    Ret Try.prog 23 #[v_1] w0 fun v w1 => ∃ (I1 : Nat → Prop) (u_3 : Value), v = (.tuple #[(.agg #[(.int .i64 r.1.Kind), (.int .i64 r.1.Name), (.int .i64 r.1.Count), u_3]), (.int .i64 r.2)]) ∧ Hp ⟨w0, I0, []⟩ I1 [] w1 ∧ RepS dNode w1 I1 u_3 r.1.Kids
theorem ref42_Build_ok (n : Nat) : ref42_Build_S (ref42_Build n) := by
  intro w0 I0 x_0 v_1 r_2 hI r h
  unfold ref42_Build at h
  refine enter Try.func23 rfl (Nat.le_of_ble_eq_true rfl) ?_
  have hp : Hp ⟨w0, I0, []⟩ I0 [] w0 := Hp.start hI
  apply go
  apply go
  refine ev_alloc hp rfl T52 ?_
  intro g_3 w_4 hp hs
  replace r_2 := r_2.step hs
  apply go
  apply go
  apply go
  refine ev0 (rn_len rfl rfl Try.underlying22 r_2) ?_
  apply go
  refine sel_of (fun hc => ?_) (fun hc => ?_)
  ·
    have h := cond_t h hc
    apply go
    apply go
    refine ev0 (fun w => rn_build (cs := [(.int .i64 0), (.int .i64 0), (.int .i64 0), (.slice none 0 0)]) rfl rfl T52 PL52 rfl) ?_
    refine ev_storeA hp (i := 0) (off := 0) (vs := [(.int .i64 0), (.int .i64 0), (.int .i64 0), (.slice none 0 0)]) rfl rfl rfl rfl T52 rfl (Nat.le_of_ble_eq_true rfl) (ones_of rfl) ?_
    intro w_5 hp hs
    apply go
    obtain rfl := Option.some.inj h
    refine ⟨_, run_loadVarA T52 rfl (hp.at_ (i := 0) rfl), ?_⟩
    have hp := hp.sel [] (by decide)
    exact ⟨I0, .slice none 0 0, rfl, hp, RepS.nil _ _ _⟩
  ·
    have h := cond_f h hc
    apply go
    obtain ⟨y_6, q_7, h⟩ := bind_some h
    refine W.cut (γ := Unit) (fun _ => [(0, v_1), (2, (.pointer (some ⟨g_3, 0, none⟩)))]) (fun _ w' => y_6 = .go () ∧ Hp ⟨w0, I0, []⟩ I0 [some (g_3, [(.int .i64 0), (.int .i64 0), (.int .i64 0), (.slice none 0 0)], 52)] w' ∧ RepS dTask w' I0 v_1 x_0) ?_ ?_
    ·
      apply go
      apply go
      apply go
      refine W.loop q_7 (γ := Unit) (fun s _ => [(0, v_1), (2, (.pointer (some ⟨g_3, 0, none⟩))), (4, (.int .i64 (s)))]) (fun s _ w' => Hp ⟨w0, I0, []⟩ I0 [some (g_3, [(.int .i64 0), (.int .i64 0), (.int .i64 0), (.slice none 0 0)], 52)] w' ∧ RepS dTask w' I0 v_1 x_0) () (.c rfl (.c rfl (.c rfl .n))) ⟨hp, r_2⟩ ?_
      rintro x_8 ⟨⟩ w_9 y_a ⟨hp, r_2⟩ q_b q_c
      unfold ref42_Build_L1 at q_b
      apply go
      apply go
      apply go
      refine ev0 (rn_len rfl rfl Try.underlying22 r_2) ?_
      apply go
      refine sel_of (fun hc => ?_) (fun hc => ?_)
      ·
        have q_b := cond_t q_b hc
        apply go
        apply go
        apply go
        apply go
        apply go
        obtain ⟨x_d, q_e, q_b⟩ := bind_some q_b
        refine ev_index rfl rfl rfl Try.underlying22 T37 r_2 q_e ?_
        intro p_f c_g d_h a_i
        obtain rfl := dTask_o d_h
        refine ev (rn_load rfl rfl (run_loadVarA T37 rfl a_i)) ?_
        obtain ⟨x_j, q_k, q_b⟩ := bind_some q_b
        refine ev_call rfl rfl C32 (((ref42_Right_ok n) _ _  (Task.mk x_d.Kind (Cell.mk x_d.Cell.X x_d.Cell.Y) x_d.Limit x_d.Tries) hp.imm _ q_k).mono ?_)
        rintro _ w_l ⟨rfl, hc⟩
        have hs := hp.stp hc
        replace hp := hp.ext hc
        replace r_2 := r_2.step hs
        apply go
        refine sel_of (fun hc => ?_) (fun hc => ?_)
        ·
          have q_b := cond_t q_b hc
          apply go
          apply go
          refine ev0 (fun w => rn_build (cs := [(.int .i64 0), (.int .i64 0), (.int .i64 0), (.slice none 0 0)]) rfl rfl T52 PL52 rfl) ?_
          refine ev_storeA hp (i := 0) (off := 0) (vs := [(.int .i64 0), (.int .i64 0), (.int .i64 0), (.slice none 0 0)]) rfl rfl rfl rfl T52 rfl (Nat.le_of_ble_eq_true rfl) (ones_of rfl) ?_
          intro w_m hp hs
          apply go
          have q_n := congrArg some (q_c _ (Option.some.inj q_b).symm)
          obtain rfl := Option.some.inj q_n
          obtain rfl := Option.some.inj h
          refine ⟨_, run_loadVarA T52 rfl (hp.at_ (i := 0) rfl), ?_⟩
          have hp := hp.sel [] (by decide)
          exact ⟨I0, .slice none 0 0, rfl, hp, RepS.nil _ _ _⟩
        ·
          have q_b := cond_f q_b hc
          apply go
          apply go
          exact ⟨_, (Option.some.inj q_b).symm, (), (.c rfl (.c rfl (.c rfl .n))), ⟨hp, r_2⟩⟩
      ·
        have q_b := cond_f q_b hc
        apply go
        have q_o := congrArg some (q_c _ (Option.some.inj q_b).symm)
        obtain rfl := Option.some.inj q_o
        exact ⟨(), (.c rfl (.c rfl .n)), rfl, hp, r_2⟩
    ·
      rintro ⟨⟩ w_p ⟨hy, hp, r_2⟩
      replace hy := hy.symm
      subst hy
      apply go
      apply go
      refine ev0 (fun w => rn_build (cs := [(.int .i64 3), (.int .i64 0), (.int .i64 0), (.slice none 0 0)]) rfl rfl T52 PL52 rfl) ?_
      refine ev_alloc hp rfl T52 ?_
      intro g_q w_r hp hs
      replace r_2 := r_2.step hs
      refine ev_storeA hp (i := 0) (off := 0) (vs := [(.int .i64 3), (.int .i64 0), (.int .i64 0), (.slice none 0 0)]) rfl rfl rfl rfl T52 rfl (Nat.le_of_ble_eq_true rfl) (ones_of rfl) ?_
      intro w_s hp hs
      replace r_2 := r_2.step hs
      obtain ⟨y_t, q_u, h⟩ := bind_some h
      refine W.cut (γ := ((List Node) × Value × Ent × (Nat → Prop))) (fun g => [(2, (.pointer (some ⟨g_3, 0, none⟩))), (5, (.pointer (some ⟨g_q, 0, none⟩)))]) (fun g w' => y_t = (g.1) ∧ Hp ⟨w0, I0, []⟩ (g.2.2.2) [some (g_3, [(.int .i64 0), (.int .i64 0), (.int .i64 0), (.slice none 0 0)], 52), (g.2.2.1), some (g_q, [(.int .i64 3), (.int .i64 0), (.int .i64 0), (g.2.1)], 52)] w' ∧ OwnS dNode 52 w' (g.2.2.2) (g.2.1) (g.2.2.1) (g.1)) ?_ ?_
      ·
        apply go
        apply go
        apply go
        have hp := hp.none_
        have o_v := OwnS.nil dNode 52 w_s I0
        have hp := hp.perm [2, 0, 1] (by decide)
        refine W.loop q_u (γ := (Value × Ent × (Nat → Prop))) (fun s g => [(0, v_1), (2, (.pointer (some ⟨g_3, 0, none⟩))), (5, (.pointer (some ⟨g_q, 0, none⟩))), (6, (.int .i64 (s.2)))]) (fun s g w' => Hp ⟨w0, I0, []⟩ (g.2.2) [some (g_3, [(.int .i64 0), (.int .i64 0), (.int .i64 0), (.slice none 0 0)], 52), (g.2.1), some (g_q, [(.int .i64 3), (.int .i64 0), (.int .i64 0), (g.1)], 52)] w' ∧ RepS dTask w' (g.2.2) v_1 x_0 ∧ OwnS dNode 52 w' (g.2.2) (g.1) (g.2.1) (s.1)) ((.slice none 0 0), none, I0) (.c rfl (.c rfl (.c rfl (.c rfl .n)))) ⟨hp, r_2, o_v⟩ ?_
        rintro ⟨x_w, x_x⟩ ⟨v_y, e_z, I_10⟩ w_11 y_12 ⟨hp, r_2, o_13⟩ q_14 q_15
        unfold ref42_Build_L3 at q_14
        apply go
        apply go
        apply go
        refine ev0 (rn_len rfl rfl Try.underlying22 r_2) ?_
        apply go
        refine sel_of (fun hc => ?_) (fun hc => ?_)
        ·
          have q_14 := cond_t q_14 hc
          apply go
          apply go
          apply go
          apply go
          apply go
          refine ev0 (fun w => rn_build (cs := [(.int .i64 1), (.int .i64 (IntKind.i64.wrap (32 + x_x))), (.int .i64 0), (.slice none 0 0)]) rfl rfl T52 PL52 rfl) ?_
          refine ev0 (fun w => rn_build (cs := [(.int .i64 2), (.int .i64 63), (.int .i64 0), (.slice none 0 0)]) rfl rfl T52 PL52 rfl) ?_
          refine ev_litN (d := dNode) (xs := [(Node.mk 1 (IntKind.i64.wrap (32 + x_x)) 0 []), (Node.mk 2 63 0 [])]) (cs := [(.int .i64 1), (.int .i64 (IntKind.i64.wrap (32 + x_x))), (.int .i64 0), (.slice none 0 0), (.int .i64 2), (.int .i64 63), (.int .i64 0), (.slice none 0 0)]) hp rfl rfl Try.underlying50 T52 (by decide) (by kernel_rfl) rfl (Elems.cons (d := dNode) (xs := _) (dNode_m (x := (Node.mk 1 (IntKind.i64.wrap (32 + x_x)) 0 [])) (RepS.nil _ _ _)) (Elems.cons (d := dNode) (xs := _) (dNode_m (x := (Node.mk 2 63 0 [])) (RepS.nil _ _ _)) (Elems.nil _ _ _ _))) ?_
          intro v_16 I_17 w_18 hp hs r_19
          replace r_2 := r_2.step hs
          replace o_13 := o_13.step hs
          obtain ⟨A_1a, m_1b, m_1c, rfl⟩ := r_19.isSl
          refine ev0 (fun w => rn_build (cs := [(.int .i64 3), (.int .i64 0), (.int .i64 0), (.slice A_1a m_1b m_1c)]) rfl rfl T52 PL52 rfl) ?_
          refine ev_alloc hp rfl T52 ?_
          intro g_1d w_1e hp hs
          replace r_2 := r_2.step hs
          replace r_19 := r_19.step hs
          replace o_13 := o_13.step hs
          refine ev_storeA hp (i := 0) (off := 0) (vs := [(.int .i64 3), (.int .i64 0), (.int .i64 0), (.slice A_1a m_1b m_1c)]) rfl rfl rfl rfl T52 rfl (Nat.le_of_ble_eq_true rfl) (ones_cons rfl (ones_cons rfl (ones_cons rfl (ones_cons r_19.one ones_nil)))) ?_
          intro w_1f hp hs
          replace r_2 := r_2.step hs
          replace r_19 := r_19.step hs
          replace o_13 := o_13.step hs
          apply go
          apply go
          refine ev0 (fun w => rn_build (cs := [(.int .i64 2), (.int .i64 x_x), (.int .i64 0), (.slice none 0 0)]) rfl rfl T52 PL52 rfl) ?_
          refine ev0 (fun w => rn_build (cs := [(.int .i64 1), (.int .i64 x_x), (.int .i64 0), (.slice none 0 0)]) rfl rfl T52 PL52 rfl) ?_
          refine ev (rn_load rfl rfl (run_loadVarA T52 rfl (hp.at_ (i := 0) rfl))) ?_
          refine ev_litN (d := dNode) (xs := [(Node.mk 2 x_x 0 []), (Node.mk 1 x_x 0 []), (Node.mk 3 0 0 [(Node.mk 1 (IntKind.i64.wrap (32 + x_x)) 0 []), (Node.mk 2 63 0 [])])]) (cs := [(.int .i64 2), (.int .i64 x_x), (.int .i64 0), (.slice none 0 0), (.int .i64 1), (.int .i64 x_x), (.int .i64 0), (.slice none 0 0), (.int .i64 3), (.int .i64 0), (.int .i64 0), (.slice A_1a m_1b m_1c)]) hp rfl rfl Try.underlying50 T52 (by decide) (by kernel_rfl) rfl (Elems.cons (d := dNode) (xs := _) (dNode_m (x := (Node.mk 2 x_x 0 [])) (RepS.nil _ _ _)) (Elems.cons (d := dNode) (xs := _) (dNode_m (x := (Node.mk 1 x_x 0 [])) (RepS.nil _ _ _)) (Elems.cons (d := dNode) (xs := _) (dNode_m (x := (Node.mk 3 0 0 [(Node.mk 1 (IntKind.i64.wrap (32 + x_x)) 0 []), (Node.mk 2 63 0 [])])) r_19) (Elems.nil _ _ _ _)))) ?_
          intro v_1g I_1h w_1i hp hs r_1j
          replace r_2 := r_2.step hs
          replace r_19 := r_19.step hs
          replace o_13 := o_13.step hs
          obtain ⟨A_1k, m_1l, m_1m, rfl⟩ := r_1j.isSl
          refine ev0 (fun w => rn_build (cs := [(.int .i64 4), (.int .i64 0), (.int .i64 0), (.slice A_1k m_1l m_1m)]) rfl rfl T52 PL52 rfl) ?_
          refine ev_alloc hp rfl T52 ?_
          intro g_1n w_1o hp hs
          replace r_2 := r_2.step hs
          replace r_1j := r_1j.step hs
          replace r_19 := r_19.step hs
          replace o_13 := o_13.step hs
          refine ev_storeA hp (i := 0) (off := 0) (vs := [(.int .i64 4), (.int .i64 0), (.int .i64 0), (.slice A_1k m_1l m_1m)]) rfl rfl rfl rfl T52 rfl (Nat.le_of_ble_eq_true rfl) (ones_cons rfl (ones_cons rfl (ones_cons rfl (ones_cons r_1j.one ones_nil)))) ?_
          intro w_1p hp hs
          replace r_2 := r_2.step hs
          replace r_1j := r_1j.step hs
          replace r_19 := r_19.step hs
          replace o_13 := o_13.step hs
          obtain ⟨y_1q, q_1r, q_14⟩ := bind_some q_14
          refine W.cut (γ := (Int × (List Node) × Nat × Value × (Nat → Prop))) (fun g => [(0, v_1), (2, (.pointer (some ⟨g_3, 0, none⟩))), (5, (.pointer (some ⟨g_q, 0, none⟩))), (6, (.int .i64 x_x)), (9, (.pointer (some ⟨(g.2.2.1), 0, none⟩)))]) (fun g w' => y_1q = ((g.1), (g.2.1)) ∧ Hp ⟨w0, I0, []⟩ (g.2.2.2.2) [some (g_3, [(.int .i64 0), (.int .i64 0), (.int .i64 0), (.slice none 0 0)], 52), e_z, some (g_q, [(.int .i64 3), (.int .i64 0), (.int .i64 0), v_y], 52), some ((g.2.2.1), [(.int .i64 7), (.int .i64 0), (.int .i64 (g.1)), (g.2.2.2.1)], 52)] w' ∧ RepS dTask w' (g.2.2.2.2) v_1 x_0 ∧ OwnS dNode 52 w' (g.2.2.2.2) v_y e_z x_w ∧ RepS dNode w' (g.2.2.2.2) (g.2.2.2.1) (g.2.1)) ?_ ?_
          ·
            have hs := hp.stp (Ch.drew [] w_1p)
            have hp := hp.drew
            replace r_2 := r_2.step hs
            replace r_1j := r_1j.step hs
            replace r_19 := r_19.step hs
            replace o_13 := o_13.step hs
            refine W.heldG (.q 0 (.q 1 (.q 2 (.q 3 (.q 4 (.q 5 (.l 6 (.q 7 (.l 8 (.l 9 .done .no) .no)) (.l 8 (.l 6 (.q 7 (.l 9 .done .no)) .no) .no)))))))) (SK (Stp I_1h w_1p.drew I_1h) [(g_1n, [(.int .i64 4), (.int .i64 0), (.int .i64 0), (.slice A_1k m_1l m_1m)], 52)] [[]]) MX (by kernel_rfl) ⟨Stp.refl _ _, (kp_cons (fun _ => (hp.own 0 _ _ _ rfl).1) kp_nil)⟩ ?_
            have hz := Stp.refl I_1h w_1p.drew
            refine ⟨SK.same (by kernel_rfl), ?_⟩
            refine ⟨SK.same (by kernel_rfl), ?_⟩
            refine ⟨SK.same (by kernel_rfl), ?_⟩
            obtain ⟨x_1s, q_1t, q_1r⟩ := bind_some q_1r
            refine evh_index rfl rfl rfl Try.underlying22 T37 r_2 q_1t ?_
            intro p_1u c_1v d_1w a_1x
            obtain rfl := dTask_o d_1w
            refine ⟨SK.same (by kernel_rfl), ?_⟩
            refine evh0 (rn_field rfl rfl FO37_3) ?_
            refine ⟨SK.same (by kernel_rfl), ?_⟩
            refine evh (fun w' hw => rn_load rfl rfl (run_loadVar1 T3 ((a_1x.step (S0.si hw)).2 4 _ rfl))) ?_
            refine ⟨SK.same (by kernel_rfl), ?_⟩
            refine evh (fun w' hw => rn_load rfl rfl (run_loadVarA T52 rfl ((S0.keep (p := 0) hw rfl rfl (by kernel_rfl)).at_ (i := 0) rfl))) ?_
            refine ⟨?_, ?_⟩
            ·
              refine ev_litN (d := dNode) (xs := [(Node.mk 4 0 0 [(Node.mk 2 x_x 0 []), (Node.mk 1 x_x 0 []), (Node.mk 3 0 0 [(Node.mk 1 (IntKind.i64.wrap (32 + x_x)) 0 []), (Node.mk 2 63 0 [])])])]) (cs := [(.int .i64 4), (.int .i64 0), (.int .i64 0), (.slice A_1k m_1l m_1m)]) hp rfl rfl Try.underlying50 T52 (by decide) rfl rfl (Elems.cons (d := dNode) (xs := _) (dNode_m (x := (Node.mk 4 0 0 [(Node.mk 2 x_x 0 []), (Node.mk 1 x_x 0 []), (Node.mk 3 0 0 [(Node.mk 1 (IntKind.i64.wrap (32 + x_x)) 0 []), (Node.mk 2 63 0 [])])])) r_1j) (Elems.nil _ _ _ _)) ?_
              intro v_1y I_1z w_20 hp hs r_21
              replace hz := hz.trans hs
              replace r_2 := r_2.step hs
              replace r_1j := r_1j.step hs
              replace r_19 := r_19.step hs
              replace o_13 := o_13.step hs
              refine ⟨SK (Stp I_1z w_20 I_1z) [(g_1n, [(.int .i64 4), (.int .i64 0), (.int .i64 0), (.slice A_1k m_1l m_1m)], 52)] [[]], ⟨Stp.refl _ _, (kp_cons (fun _ => (hp.own 0 _ _ _ rfl).1) kp_nil)⟩, fun L x h => ⟨hz.held h.1, h.2⟩, ?_⟩
              have hz := Stp.refl I_1z w_20
              refine ⟨SK.same (by kernel_rfl), ?_⟩
              obtain ⟨A_22, m_23, m_24, rfl⟩ := r_21.isSl
              refine evh0 (fun w => rn_build (cs := [(.int .i64 7), (.int .i64 0), (.int .i64 x_1s.Tries), (.slice A_22 m_23 m_24)]) rfl rfl T52 PL52 rfl) ?_
              refine ⟨?_, trivial⟩
              refine ev_alloc hp rfl T52 ?_
              intro g_25 w_26 hp hs
              replace hz := hz.trans hs
              replace r_2 := r_2.step hs
              replace r_21 := r_21.step hs
              replace r_1j := r_1j.step hs
              replace r_19 := r_19.step hs
              replace o_13 := o_13.step hs
              refine ⟨SK (Stp I_1z w_26 I_1z) [(g_1n, [(.int .i64 4), (.int .i64 0), (.int .i64 0), (.slice A_1k m_1l m_1m)], 52)] [[]], ⟨Stp.refl _ _, (kp_cons (fun _ => (hp.own 1 _ _ _ rfl).1) kp_nil)⟩, fun L x h => ⟨hz.held h.1, h.2⟩, ?_⟩
              have hz := Stp.refl I_1z w_26
              refine ⟨?_, trivial⟩
              refine ev_storeA hp (i := 0) (off := 0) (vs := [(.int .i64 7), (.int .i64 0), (.int .i64 x_1s.Tries), (.slice A_22 m_23 m_24)]) rfl rfl rfl rfl T52 rfl (Nat.le_of_ble_eq_true rfl) (ones_cons rfl (ones_cons rfl (ones_cons rfl (ones_cons r_21.one ones_nil)))) ?_
              intro w_27 hp hs
              replace hz := hz.trans hs
              replace r_2 := r_2.step hs
              replace r_21 := r_21.step hs
              replace r_1j := r_1j.step hs
              replace r_19 := r_19.step hs
              replace o_13 := o_13.step hs
              refine ⟨SK (Stp I_1z w_27 I_1z) [(g_1n, [(.int .i64 4), (.int .i64 0), (.int .i64 0), (.slice A_1k m_1l m_1m)], 52)] [[]], ⟨Stp.refl _ _, (kp_cons (fun _ => (hp.own 1 _ _ _ rfl).1) kp_nil)⟩, fun L x h => ⟨hz.held h.1, h.2⟩, ?_⟩
              have hz := Stp.refl I_1z w_27
              obtain rfl := Option.some.inj q_1r
              have hp := hp.perm [3, 4, 5, 0] (by decide)
              exact ⟨(x_1s.Tries, [(Node.mk 4 0 0 [(Node.mk 2 x_x 0 []), (Node.mk 1 x_x 0 []), (Node.mk 3 0 0 [(Node.mk 1 (IntKind.i64.wrap (32 + x_x)) 0 []), (Node.mk 2 63 0 [])])])], g_25, (.slice A_22 m_23 m_24), I_1z), (.c rfl (.c rfl (.c rfl (.c rfl (.c rfl .n))))), rfl, hp, r_2, o_13, r_21⟩
            refine ⟨?_, trivial⟩
            refine ev_alloc hp rfl T52 ?_
            intro g_28 w_29 hp hs
            replace hz := hz.trans hs
            replace r_2 := r_2.step hs
            replace r_1j := r_1j.step hs
            replace r_19 := r_19.step hs
            replace o_13 := o_13.step hs
            refine ⟨SK (Stp I_1h w_29 I_1h) [(g_1n, [(.int .i64 4), (.int .i64 0), (.int .i64 0), (.slice A_1k m_1l m_1m)], 52)] [[]], ⟨Stp.refl _ _, (kp_cons (fun _ => (hp.own 1 _ _ _ rfl).1) kp_nil)⟩, fun L x h => ⟨hz.held h.1, h.2⟩, ?_⟩
            have hz := Stp.refl I_1h w_29
            refine ⟨?_, trivial⟩
            refine ev_litN (d := dNode) (xs := [(Node.mk 4 0 0 [(Node.mk 2 x_x 0 []), (Node.mk 1 x_x 0 []), (Node.mk 3 0 0 [(Node.mk 1 (IntKind.i64.wrap (32 + x_x)) 0 []), (Node.mk 2 63 0 [])])])]) (cs := [(.int .i64 4), (.int .i64 0), (.int .i64 0), (.slice A_1k m_1l m_1m)]) hp rfl rfl Try.underlying50 T52 (by decide) rfl rfl (Elems.cons (d := dNode) (xs := _) (dNode_m (x := (Node.mk 4 0 0 [(Node.mk 2 x_x 0 []), (Node.mk 1 x_x 0 []), (Node.mk 3 0 0 [(Node.mk 1 (IntKind.i64.wrap (32 + x_x)) 0 []), (Node.mk 2 63 0 [])])])) r_1j) (Elems.nil _ _ _ _)) ?_
            intro v_2a I_2b w_2c hp hs r_2d
            replace hz := hz.trans hs
            replace r_2 := r_2.step hs
            replace r_1j := r_1j.step hs
            replace r_19 := r_19.step hs
            replace o_13 := o_13.step hs
            refine ⟨SK (Stp I_2b w_2c I_2b) [(g_1n, [(.int .i64 4), (.int .i64 0), (.int .i64 0), (.slice A_1k m_1l m_1m)], 52)] [[]], ⟨Stp.refl _ _, (kp_cons (fun _ => (hp.own 1 _ _ _ rfl).1) kp_nil)⟩, fun L x h => ⟨hz.held h.1, h.2⟩, ?_⟩
            have hz := Stp.refl I_2b w_2c
            refine ⟨SK.same (by kernel_rfl), ?_⟩
            obtain ⟨A_2e, m_2f, m_2g, rfl⟩ := r_2d.isSl
            refine evh0 (fun w => rn_build (cs := [(.int .i64 7), (.int .i64 0), (.int .i64 x_1s.Tries), (.slice A_2e m_2f m_2g)]) rfl rfl T52 PL52 rfl) ?_
            refine ⟨?_, trivial⟩
            refine ev_storeA hp (i := 0) (off := 0) (vs := [(.int .i64 7), (.int .i64 0), (.int .i64 x_1s.Tries), (.slice A_2e m_2f m_2g)]) rfl rfl rfl rfl T52 rfl (Nat.le_of_ble_eq_true rfl) (ones_cons rfl (ones_cons rfl (ones_cons rfl (ones_cons r_2d.one ones_nil)))) ?_
            intro w_2h hp hs
            replace hz := hz.trans hs
            replace r_2 := r_2.step hs
            replace r_2d := r_2d.step hs
            replace r_1j := r_1j.step hs
            replace r_19 := r_19.step hs
            replace o_13 := o_13.step hs
            refine ⟨SK (Stp I_2b w_2h I_2b) [(g_1n, [(.int .i64 4), (.int .i64 0), (.int .i64 0), (.slice A_1k m_1l m_1m)], 52)] [[]], ⟨Stp.refl _ _, (kp_cons (fun _ => (hp.own 1 _ _ _ rfl).1) kp_nil)⟩, fun L x h => ⟨hz.held h.1, h.2⟩, ?_⟩
            have hz := Stp.refl I_2b w_2h
            obtain rfl := Option.some.inj q_1r
            have hp := hp.perm [3, 4, 5, 0] (by decide)
            exact ⟨(x_1s.Tries, [(Node.mk 4 0 0 [(Node.mk 2 x_x 0 []), (Node.mk 1 x_x 0 []), (Node.mk 3 0 0 [(Node.mk 1 (IntKind.i64.wrap (32 + x_x)) 0 []), (Node.mk 2 63 0 [])])])], g_28, (.slice A_2e m_2f m_2g), I_2b), (.c rfl (.c rfl (.c rfl (.c rfl (.c rfl .n))))), rfl, hp, r_2, o_13, r_2d⟩
          ·
            rintro ⟨x_2i, x_2j, g_2k, v_2l, I_2m⟩ w_2n ⟨hy, hp, r_2, o_13, r_2o⟩
            replace hy := hy.symm
            subst hy
            have hs := hp.stp (Ch.drew [] w_2n)
            have hp := hp.drew
            replace r_2 := r_2.step hs
            replace o_13 := o_13.step hs
            replace r_2o := r_2o.step hs
            refine W.heldG (.q 0 (.q 1 (.q 2 (.q 3 (.q 4 (.q 5 (.q 6 (.q 7 (.l 8 (.q 9 (.l 10 (.l 11 (.q 12 (.l 13 .done .no)) .no) .no)) .no))))))))) (SK (Stp I_2m w_2n.drew I_2m) [(g_q, [(.int .i64 3), (.int .i64 0), (.int .i64 0), v_y], 52), (g_2k, [(.int .i64 7), (.int .i64 0), (.int .i64 x_2i), v_2l], 52)] [[13], []]) MX (by kernel_rfl) ⟨Stp.refl _ _, (kp_cons (fun _ => (hp.own 2 _ _ _ rfl).1) (kp_cons (fun _ => (hp.own 3 _ _ _ rfl).1) kp_nil))⟩ ?_
            have hz := Stp.refl I_2m w_2n.drew
            refine ⟨SK.same (by kernel_rfl), ?_⟩
            refine evh0 (rn_field rfl rfl FO52_3) ?_
            refine ⟨SK.same (by kernel_rfl), ?_⟩
            refine evh (fun w' hw => rn_load rfl rfl (run_loadVar1 T50 ((S0.keep (p := 0) hw rfl rfl (by kernel_rfl)).cell (i := 0) (off := 3) rfl rfl))) ?_
            refine ⟨SK.same (by kernel_rfl), ?_⟩
            refine ⟨SK.same (by kernel_rfl), ?_⟩
            refine ⟨SK.same (by kernel_rfl), ?_⟩
            obtain ⟨x_2p, q_2q, q_14⟩ := bind_some q_14
            refine evh_index rfl rfl rfl Try.underlying22 T37 r_2 q_2q ?_
            intro p_2r c_2s d_2t a_2u
            obtain rfl := dTask_o d_2t
            refine ⟨SK.same (by kernel_rfl), ?_⟩
            refine evh0 (rn_field rfl rfl FO37_2) ?_
            refine ⟨SK.same (by kernel_rfl), ?_⟩
            refine evh (fun w' hw => rn_load rfl rfl (run_loadVar1 T3 ((a_2u.step (S0.si hw)).2 3 _ rfl))) ?_
            refine ⟨SK.same (by kernel_rfl), ?_⟩
            refine evh (fun w' hw => rn_load rfl rfl (run_loadVarA T52 rfl ((S0.keep (p := 1) hw rfl rfl (by kernel_rfl)).at_ (i := 0) rfl))) ?_
            refine ⟨?_, trivial⟩
            obtain ⟨A_2v, m_2w, m_2x, rfl⟩ := r_2o.isSl
            refine ev_litN (d := dNode) (xs := [(Node.mk 7 0 x_2i x_2j)]) (cs := [(.int .i64 7), (.int .i64 0), (.int .i64 x_2i), (.slice A_2v m_2w m_2x)]) hp rfl rfl Try.underlying50 T52 (by decide) rfl rfl (Elems.cons (d := dNode) (xs := _) (dNode_m (x := (Node.mk 7 0 x_2i x_2j)) r_2o) (Elems.nil _ _ _ _)) ?_
            intro v_2y I_2z w_30 hp hs r_31
            replace hz := hz.trans hs
            replace r_2 := r_2.step hs
            replace o_13 := o_13.step hs
            replace r_2o := r_2o.step hs
            refine ⟨SK (Stp I_2z w_30 I_2z) [(g_q, [(.int .i64 3), (.int .i64 0), (.int .i64 0), v_y], 52), (g_2k, [(.int .i64 7), (.int .i64 0), (.int .i64 x_2i), (.slice A_2v m_2w m_2x)], 52)] [[13], []], ⟨Stp.refl _ _, (kp_cons (fun _ => (hp.own 2 _ _ _ rfl).1) (kp_cons (fun _ => (hp.own 3 _ _ _ rfl).1) kp_nil))⟩, fun L x h => ⟨hz.held h.1, h.2⟩, ?_⟩
            have hz := Stp.refl I_2z w_30
            refine ⟨SK.same (by kernel_rfl), ?_⟩
            obtain ⟨A_32, m_33, m_34, rfl⟩ := r_31.isSl
            refine evh0 (fun w => rn_build (cs := [(.int .i64 8), (.int .i64 0), (.int .i64 x_2p.Limit), (.slice A_32 m_33 m_34)]) rfl rfl T52 PL52 rfl) ?_
            refine ⟨?_, trivial⟩
            refine ev_litN (d := dNode) (xs := [(Node.mk 8 0 x_2p.Limit [(Node.mk 7 0 x_2i x_2j)])]) (cs := [(.int .i64 8), (.int .i64 0), (.int .i64 x_2p.Limit), (.slice A_32 m_33 m_34)]) hp rfl rfl Try.underlying50 T52 (by decide) rfl rfl (Elems.cons (d := dNode) (xs := _) (dNode_m (x := (Node.mk 8 0 x_2p.Limit [(Node.mk 7 0 x_2i x_2j)])) r_31) (Elems.nil _ _ _ _)) ?_
            intro v_35 I_36 w_37 hp hs r_38
            replace hz := hz.trans hs
            replace r_2 := r_2.step hs
            replace o_13 := o_13.step hs
            replace r_2o := r_2o.step hs
            refine ⟨SK (Stp I_36 w_37 I_36) [(g_q, [(.int .i64 3), (.int .i64 0), (.int .i64 0), v_y], 52), (g_2k, [(.int .i64 7), (.int .i64 0), (.int .i64 x_2i), (.slice A_2v m_2w m_2x)], 52)] [[13], []], ⟨Stp.refl _ _, (kp_cons (fun _ => (hp.own 2 _ _ _ rfl).1) (kp_cons (fun _ => (hp.own 3 _ _ _ rfl).1) kp_nil))⟩, fun L x h => ⟨hz.held h.1, h.2⟩, ?_⟩
            have hz := Stp.refl I_36 w_37
            refine ⟨?_, trivial⟩
            obtain ⟨x_39, q_3a, q_14⟩ := bind_some q_14
            refine ev_append hp (i := 1) rfl rfl rfl rfl Try.underlying50 T52 rfl rfl o_13 r_38 q_3a ?_
            rintro v_3b e_3c w_3d hp hs o_3e
            replace hz := hz.trans hs
            replace r_2 := r_2.step hs
            replace o_13 := o_13.step hs
            replace r_2o := r_2o.step hs
            refine ⟨SK (Stp I_36 w_3d I_36) [(g_q, [(.int .i64 3), (.int .i64 0), (.int .i64 0), v_y], 52), (g_2k, [(.int .i64 7), (.int .i64 0), (.int .i64 x_2i), (.slice A_2v m_2w m_2x)], 52)] [[13], []], ⟨Stp.refl _ _, (kp_cons (fun _ => (hp.own 2 _ _ _ rfl).1) (kp_cons (fun _ => (hp.own 3 _ _ _ rfl).1) kp_nil))⟩, fun L x h => ⟨hz.held h.1, h.2⟩, ?_⟩
            have hz := Stp.refl I_36 w_3d
            refine ⟨SK.same (by kernel_rfl), ?_⟩
            refine evh0 (rn_field rfl rfl FO52_3) ?_
            refine ⟨?_, trivial⟩
            refine ev_store1 hp (i := 2) (off := 3) rfl rfl rfl rfl T50 o_3e.one (Nat.le_of_ble_eq_true rfl) ?_
            intro w_3f hp hs
            replace hz := hz.trans hs
            replace r_2 := r_2.step hs
            replace o_3e := o_3e.step hs
            replace r_2o := r_2o.step hs
            refine ⟨SK (Stp I_36 w_3f I_36) [(g_q, [(.int .i64 3), (.int .i64 0), (.int .i64 0), v_y], 52), (g_2k, [(.int .i64 7), (.int .i64 0), (.int .i64 x_2i), (.slice A_2v m_2w m_2x)], 52)] [[13], []], ⟨Stp.refl _ _, (kp_cons (kp_off (by kernel_rfl)) (kp_cons (fun _ => (hp.own 3 _ _ _ rfl).1) kp_nil))⟩, fun L x h => ⟨hz.held h.1, h.2⟩, ?_⟩
            have hz := Stp.refl I_36 w_3f
            apply go
            have hp := hp.sel [0, 1, 2] (by decide)
            exact ⟨_, (Option.some.inj q_14).symm, (v_3b, e_3c, I_36), (.c rfl (.c rfl (.c rfl (.c rfl .n)))), ⟨hp, r_2, o_3e⟩⟩
        ·
          have q_14 := cond_f q_14 hc
          apply go
          have q_3g := congrArg some (q_15 _ (Option.some.inj q_14).symm)
          obtain rfl := Option.some.inj q_3g
          exact ⟨(x_w, v_y, e_z, I_10), (.c rfl (.c rfl .n)), rfl, hp, o_13⟩
      ·
        rintro ⟨x_3h, v_3i, e_3j, I_3k⟩ w_3l ⟨hy, hp, o_3m⟩
        replace hy := hy.symm
        subst hy
        apply go
        apply go
        refine ev (rn_load rfl rfl (run_loadVarA T52 rfl (hp.at_ (i := 2) rfl))) ?_
        refine ev_storeA hp (i := 0) (off := 0) (vs := [(.int .i64 3), (.int .i64 0), (.int .i64 0), v_3i]) rfl rfl rfl rfl T52 rfl (Nat.le_of_ble_eq_true rfl) (ones_cons rfl (ones_cons rfl (ones_cons rfl (ones_cons o_3m.one ones_nil)))) ?_
        intro w_3n hp hs
        replace o_3m := o_3m.step hs
        apply go
        obtain rfl := Option.some.inj h
        have r_3o := o_3m.frz hp (i := 1) rfl
        obtain ⟨hp, hs⟩ := freeze_hp hp (i := 1) rfl
        have hp := hp.sel [0, 2] (by decide)
        refine ⟨_, run_loadVarA T52 rfl (hp.at_ (i := 0) rfl), ?_⟩
        have hp := hp.sel [] (by decide)
        exact ⟨(Ad I_3k e_3j), v_3i, rfl, hp, r_3o⟩

end Go.Proofs.Ytkhmdpekfcahkaa

namespace Go.Proofs.Ytkhmdpekfcahkaa
open Go Go.Proofs.Ytkhmdpekfcahkaa.Gw Go.RowKit
set_option linter.unusedVariables false
attribute [local irreducible] Ev EvQ EvS EvH
def ref42_New_S (f : (List Task) → Option (Mission_2 × Int)) : Prop := ∀ (w0 : World) (I0 : Nat → Prop) (x_0 : (List Task)) (v_1 : Value) (r_2 : RepS dTask w0 I0 v_1 x_0) (hI : ∀ g, I0 g → g < w0.heap.size) (r : (Mission_2 × Int)), f x_0 = some r →
    Ret Try.prog 16 #[v_1] w0 fun v w1 => ∃ (I1 : Nat → Prop) (u_3 : Value), v = (.tuple #[(.agg #[u_3, (.int .i64 r.1.Done), (.int .i64 r.1.Ran), (.int .i64 r.1.Failed), (.int .i64 r.1.Status), (.int .i64 r.1.Ticks)]), (.int .i64 r.2)]) ∧ Hp ⟨w0, I0, []⟩ I1 [] w1 ∧ RepS dTask w1 I1 u_3 r.1.Tasks
theorem ref42_New_ok (n : Nat) : ref42_New_S (ref42_New n) := by
  intro w0 I0 x_0 v_1 r_2 hI r h
  unfold ref42_New at h
  refine enter Try.func16 rfl (Nat.le_of_ble_eq_true rfl) ?_
  have hp : Hp ⟨w0, I0, []⟩ I0 [] w0 := Hp.start hI
  apply go
  apply go
  refine ev_alloc hp rfl T44 ?_
  intro g_3 w_4 hp hs
  replace r_2 := r_2.step hs
  apply go
  apply go
  apply go
  obtain ⟨⟨x_5, x_6⟩, q_7, h⟩ := bind_some h
  refine ev_call rfl rfl C23 (((ref42_Build_ok n) _ _  x_0 v_1 r_2 hp.imm _ q_7).mono ?_)
  rintro _ w_8 ⟨I_9, v_a, hv, hq, r_b⟩
  replace hv := hv.symm
  subst hv
  have hs := hq.st
  have hp := hp.join0 hq
  replace r_2 := r_2.step hs
  refine ev_alloc hp rfl T52 ?_
  intro g_c w_d hp hs
  replace r_2 := r_2.step hs
  replace r_b := r_b.step hs
  refine ev_storeA hp (i := 0) (off := 0) (vs := [(.int .i64 x_5.Kind), (.int .i64 x_5.Name), (.int .i64 x_5.Count), v_a]) rfl rfl rfl rfl T52 rfl (Nat.le_of_ble_eq_true rfl) (ones_cons rfl (ones_cons rfl (ones_cons rfl (ones_cons r_b.one ones_nil)))) ?_
  intro w_e hp hs
  replace r_2 := r_2.step hs
  replace r_b := r_b.step hs
  apply go
  apply go
  apply go
  refine sel_of (fun hc => ?_) (fun hc => ?_)
  ·
    have h := cond_t h hc
    apply go
    apply go
    refine ev0 (fun w => rn_build (cs := [(.slice none 0 0), (.int .i64 0), (.int .i64 0), (.int .i64 0), (.int .i64 0), (.int .i64 0)]) rfl rfl T44 PL44 (by kernel_rfl)) ?_
    refine ev_storeA hp (i := 1) (off := 0) (vs := [(.slice none 0 0), (.int .i64 0), (.int .i64 0), (.int .i64 0), (.int .i64 0), (.int .i64 0)]) rfl rfl rfl rfl T44 rfl (Nat.le_of_ble_eq_true rfl) (ones_of rfl) ?_
    intro w_f hp hs
    replace r_b := r_b.step hs
    apply go
    obtain rfl := Option.some.inj h
    refine ⟨_, run_loadVarA T44 rfl (hp.at_ (i := 1) rfl), ?_⟩
    have hp := hp.sel [] (by decide)
    exact ⟨I_9, .slice none 0 0, rfl, hp, RepS.nil _ _ _⟩
  ·
    have h := cond_f h hc
    apply go
    apply go
    apply go
    refine ev_litON (d := dTask) (xs := ([] : List Task)) (cs := []) hp rfl rfl Try.underlying22 T37 (by decide) (by decide) rfl rfl (Elems.nil _ _ _ _) ?_
    intro v_g e_h w_i hp hs o_j
    replace r_2 := r_2.step hs
    replace r_b := r_b.step hs
    obtain ⟨x_k, q_l, h⟩ := bind_some h
    refine ev_append hp (i := 0) rfl rfl rfl rfl Try.underlying22 T37 rfl rfl o_j r_2 q_l ?_
    rintro v_m e_n w_o hp hs o_p
    replace r_b := r_b.step hs
    obtain ⟨A_q, m_r, m_s, rfl⟩ := o_p.isSl
    refine ev0 (fun w => rn_build (cs := [(.slice A_q m_r m_s), (.int .i64 0), (.int .i64 0), (.int .i64 0), (.int .i64 1), (.int .i64 0)]) rfl rfl T44 PL44 (by kernel_rfl)) ?_
    refine ev_storeA hp (i := 2) (off := 0) (vs := [(.slice A_q m_r m_s), (.int .i64 0), (.int .i64 0), (.int .i64 0), (.int .i64 1), (.int .i64 0)]) rfl rfl rfl rfl T44 rfl (Nat.le_of_ble_eq_true rfl) (ones_cons o_p.one (ones_cons rfl (ones_cons rfl (ones_cons rfl (ones_cons rfl (ones_cons rfl ones_nil)))))) ?_
    intro w_t hp hs
    replace r_b := r_b.step hs
    replace o_p := o_p.step hs
    apply go
    obtain rfl := Option.some.inj h
    have r_u := o_p.frz hp (i := 0) rfl
    obtain ⟨hp, hs⟩ := freeze_hp hp (i := 0) rfl
    replace r_b := r_b.step hs
    have hp := hp.sel [1, 2] (by decide)
    refine ⟨_, run_loadVarA T44 rfl (hp.at_ (i := 1) rfl), ?_⟩
    have hp := hp.sel [] (by decide)
    exact ⟨(Ad I_9 e_n), (.slice A_q m_r m_s), rfl, hp, r_u⟩

end Go.Proofs.Ytkhmdpekfcahkaa

namespace Go.Proofs.Ytkhmdpekfcahkaa
open Go Go.Proofs.Ytkhmdpekfcahkaa.Gw Go.RowKit
set_option linter.unusedVariables false
attribute [local irreducible] Ev EvQ EvS EvH
def slices_Cloneint_int__S (f : (List Int) → Option ((List Int) × (List Int))) : Prop := ∀ (w0 : World) (I0 : Nat → Prop) (x_0 : (List Int)) (v_1 : Value) (e_2 : Ent) (o_3 : OwnS (dI .i64) 3 w0 I0 v_1 e_2 x_0) (hp : Hp ⟨w0, I0, blks [e_2]⟩ I0 [e_2] w0) (r : ((List Int) × (List Int))), f x_0 = some r →
    Ret Try.prog 33 #[v_1] w0 fun v w1 => ∃ (I1 : Nat → Prop) (u_4 : Value) (u_5 : Ent) (u_6 : Ent), v = u_4 ∧ Hp ⟨w0, I0, blks [e_2]⟩ I1 ([u_5] ++ [u_6]) w1 ∧ OwnS (dI .i64) 3 w1 I1 u_4 u_5 r.1 ∧ OwnS (dI .i64) 3 w1 I1 v_1 u_6 r.2
theorem slices_Cloneint_int__ok (n : Nat) : slices_Cloneint_int__S (slices_Cloneint_int_ n) := by
  intro w0 I0 x_0 v_1 e_2 o_3 hp r h
  unfold slices_Cloneint_int_ at h
  refine enter Try.func33 rfl (Nat.le_of_ble_eq_true rfl) ?_
  generalize blks [e_2] = B at hp ⊢
  have hp : Hp ⟨w0, I0, B⟩ I0 [e_2] w0 := hp
  apply go
  apply go
  apply go
  apply go
  apply go
  rcases o_3.nilcase with ⟨hv, he, hx⟩ | ⟨a_4, n_5, hv, ho⟩
  ·
    subst hv; subst he; subst hx
    replace h : some (([] : (List Int)), ([] : (List Int))) = some _ := h
    refine ev0 (rn_eqNil rfl rfl rfl Try.underlying31) ?_
    apply go
    apply go
    apply go
    apply go
    obtain rfl := Option.some.inj h
    have hp := hp.none_
    have o_6 := OwnS.nil (dI .i64) 3 w0 I0
    exact ⟨I0, (.slice none 0 0), none, none, rfl, hp, o_6, o_3⟩
  ·
    subst hv; have o_3 := ho
    refine ev0 (rn_eqNil rfl rfl rfl Try.underlying31) ?_
    apply go
    apply go
    apply go
    apply go
    refine ev_litON (d := (dI .i64)) (xs := ([] : List Int)) (cs := []) hp rfl rfl Try.underlying31 T3 (by decide) (by decide) rfl rfl (Elems.nil _ _ _ _) ?_
    intro v_7 e_8 w_9 hp hs o_a
    replace o_3 := o_3.step hs
    obtain ⟨x_b, q_c, h⟩ := bind_some h
    refine ev_appendF hp (i := 0) (j := 1) rfl rfl rfl rfl rfl Try.underlying31 T3 rfl rfl (dI_flat _) o_a o_3 q_c ?_
    rintro v_d e_e w_f hp hs o_g
    apply go
    obtain rfl := Option.some.inj h
    exact ⟨I0, v_d, e_e, e_2, rfl, hp, o_g, o_3⟩

end Go.Proofs.Ytkhmdpekfcahkaa

namespace Go.Proofs.Ytkhmdpekfcahkaa
open Go Go.Proofs.Ytkhmdpekfcahkaa.Gw Go.RowKit
set_option linter.unusedVariables false
attribute [local irreducible] Ev EvQ EvS EvH
def tree_Runner_Clone_S (f : Runner → Option ((Option Runner) × Runner)) : Prop := ∀ (w0 : World) (I0 : Nat → Prop) (x_0 : Runner) (g_1 : Nat) (E_2 : List Ent) (q_3 : qR w0 I0 g_1 E_2 x_0) (hp : Hp ⟨w0, I0, blks E_2⟩ I0 E_2 w0) (r : ((Option Runner) × Runner)), f x_0 = some r →
    Ret Try.prog 24 #[(.pointer (some ⟨g_1, 0, none⟩))] w0 fun v w1 => ∃ (I1 : Nat → Prop) (u_4 : Value) (u_5 : List Ent) (u_6 : List Ent), v = u_4 ∧ Hp ⟨w0, I0, blks E_2⟩ I1 (u_5 ++ u_6) w1 ∧ qoR w1 I1 u_4 u_5 r.1 ∧ qR w1 I1 g_1 u_6 r.2
theorem tree_Runner_Clone_ok (n : Nat) : tree_Runner_Clone_S (tree_Runner_Clone n) := by
  intro w0 I0 x_0 g_1 E_2 q_3 hp r h
  unfold tree_Runner_Clone at h
  refine enter Try.func24 rfl (Nat.le_of_ble_eq_true rfl) ?_
  generalize blks E_2 = B at hp ⊢
  obtain ⟨v_4, v_5, e_6, v_7, e_8, rfl, r_9, o_a, o_b⟩ := q_3
  have hp : Hp ⟨w0, I0, B⟩ I0 [some (g_1, [v_4, v_5, v_7], 70), e_6, e_8] w0 := hp
  apply go
  apply go
  apply go
  apply go
  apply go
  refine ev0 (rn_eqNilP rfl rfl rfl Try.underlying55 (b := false) rfl) ?_
  apply go
  apply go
  apply go
  have hs := hp.stp (Ch.drew [] w0)
  have hp := hp.drew
  replace r_9 := r_9.step hs
  replace o_a := o_a.step hs
  replace o_b := o_b.step hs
  refine W.held [(0, true), (1, true), (2, true), (3, true), (4, true), (5, true), (6, true), (7, true), (9, true), (10, true), (11, true), (12, true), (8, false), (13, false), (14, true), (15, false), (16, true)] (fun x => Stp I0 w0.drew I0 x ∧ OwnK [(g_1, [v_4, v_5, v_7], 70)] x) MX (by kernel_rfl) ⟨Stp.refl _ _, (OwnK.cons (hp.own 0 _ _ _ rfl).1 OwnK.nil)⟩ ?_
  have hz := Stp.refl I0 w0.drew
  refine evh0 (rn_field rfl rfl FO70_0) ?_
  refine evh (fun w' hw => rn_load rfl rfl (run_loadVar1 T68 (hw.2.cell (i := 0) (off := 0) rfl rfl))) ?_
  refine evh0 (rn_field rfl rfl FO70_1) ?_
  refine evh (fun w' hw => rn_load rfl rfl (run_loadVar1 T31 (hw.2.cell (i := 0) (off := 1) rfl rfl))) ?_
  refine evh0 (rn_field rfl rfl FO70_2) ?_
  refine evh (fun w' hw => rn_load rfl rfl (run_loadVar1 T39 (hw.2.cell (i := 0) (off := 2) rfl rfl))) ?_
  obtain ⟨⟨x_c, x_d⟩, q_e, h⟩ := bind_some h
  refine ev_call rfl rfl C33 (((slices_Cloneint_int__ok n) _ _  x_0.counters v_5 e_6 o_a (hp.lendL [1] (by decide)) _ q_e).mono ?_)
  rintro _ w_f ⟨I_g, v_h, e_i, e_j, hv, hq24534, o_k, o_l⟩
  replace hv := hv.symm
  subst hv
  have hs := hq24534.st
  have hp := hp.backL [1] [0, 2] (by decide) hq24534
  replace hz := hz.trans hs
  replace r_9 := r_9.step hs
  replace o_b := o_b.step hs
  refine ⟨fun x => Stp I_g w_f I_g x ∧ OwnK [(g_1, [v_4, v_5, v_7], 70)] x, ⟨Stp.refl _ _, (OwnK.cons (hp.own 2 _ _ _ rfl).1 OwnK.nil)⟩, fun x hx => ⟨hz.held hx.1, hx.2⟩, ?_⟩
  have hz := Stp.refl I_g w_f
  obtain ⟨⟨x_m, x_n⟩, q_o, h⟩ := bind_some h
  refine ev_call rfl rfl C22 (((slices_Clonebool_bool__ok n) _ _  x_0.active v_7 e_8 o_b (hp.lendL [3] (by decide)) _ q_o).mono ?_)
  rintro _ w_p ⟨I_q, v_r, e_s, e_t, hv, hq24545, o_u, o_v⟩
  replace hv := hv.symm
  subst hv
  have hs := hq24545.st
  have hp := hp.backL [3] [0, 1, 2] (by decide) hq24545
  replace hz := hz.trans hs
  replace r_9 := r_9.step hs
  replace o_k := o_k.step hs
  replace o_l := o_l.step hs
  refine ⟨fun x => Stp I_q w_p I_q x ∧ OwnK [(g_1, [v_4, v_5, v_7], 70)] x, ⟨Stp.refl _ _, (OwnK.cons (hp.own 4 _ _ _ rfl).1 OwnK.nil)⟩, fun x hx => ⟨hz.held hx.1, hx.2⟩, ?_⟩
  have hz := Stp.refl I_q w_p
  obtain ⟨A_w, m_x, m_y, rfl⟩ := r_9.isSl
  obtain ⟨A_z, m_10, m_11, rfl⟩ := o_k.isSl
  obtain ⟨A_12, m_13, m_14, rfl⟩ := o_u.isSl
  refine evh0 (fun w => rn_build (cs := [(.slice A_w m_x m_y), (.slice A_z m_10 m_11), (.slice A_12 m_13 m_14)]) rfl rfl T70 PL70 rfl) ?_
  refine ev_box hp rfl rfl ?_
  intro g_15 w_16 hp hs
  replace hz := hz.trans hs
  replace r_9 := r_9.step hs
  replace o_k := o_k.step hs
  replace o_u := o_u.step hs
  replace o_l := o_l.step hs
  replace o_v := o_v.step hs
  refine ⟨fun x => Stp I_q w_16 I_q x ∧ OwnK [(g_1, [(.slice A_w m_x m_y), v_5, v_7], 70)] x, ⟨Stp.refl _ _, (OwnK.cons (hp.own 5 _ _ _ rfl).1 OwnK.nil)⟩, fun x hx => ⟨hz.held hx.1, hx.2⟩, ?_⟩
  have hz := Stp.refl I_q w_16
  apply go
  obtain rfl := Option.some.inj h
  have hp := hp.perm [0, 3, 1, 5, 4, 2] (by decide)
  exact ⟨I_q, (.pointer (some ⟨g_15, 0, none⟩)), [some (g_15, [(.slice A_w m_x m_y), (.slice A_z m_10 m_11), (.slice A_12 m_13 m_14)], 70), e_i, e_s], [some (g_1, [(.slice A_w m_x m_y), v_5, v_7], 70), e_j, e_t], rfl, hp, ⟨_, rfl, ⟨(.slice A_w m_x m_y), (.slice A_z m_10 m_11), e_i, (.slice A_12 m_13 m_14), e_s, rfl, r_9, o_k, o_u⟩⟩, ⟨(.slice A_w m_x m_y), v_5, e_j, v_7, e_t, rfl, r_9, o_l, o_v⟩⟩

end Go.Proofs.Ytkhmdpekfcahkaa

namespace Go.Proofs.Ytkhmdpekfcahkaa
open Go Go.Proofs.Ytkhmdpekfcahkaa.Gw Go.RowKit
set_option linter.unusedVariables false
attribute [local irreducible] Ev EvQ EvS EvH
def mission_Mission_Clone_S (f : Mission → Option ((Option Mission) × Mission)) : Prop := ∀ (w0 : World) (I0 : Nat → Prop) (x_0 : Mission) (g_1 : Nat) (E_2 : List Ent) (q_3 : qM w0 I0 g_1 E_2 x_0) (hp : Hp ⟨w0, I0, blks E_2⟩ I0 E_2 w0) (r : ((Option Mission) × Mission)), f x_0 = some r →
    Ret Try.prog 17 #[(.pointer (some ⟨g_1, 0, none⟩))] w0 fun v w1 => ∃ (I1 : Nat → Prop) (u_4 : Value) (u_5 : List Ent) (u_6 : List Ent), v = u_4 ∧ Hp ⟨w0, I0, blks E_2⟩ I1 (u_5 ++ u_6) w1 ∧ qoM w1 I1 u_4 u_5 r.1 ∧ qM w1 I1 g_1 u_6 r.2
theorem mission_Mission_Clone_ok (n : Nat) : mission_Mission_Clone_S (mission_Mission_Clone n) := by
  intro w0 I0 x_0 g_1 E_2 q_3 hp r h
  unfold mission_Mission_Clone at h
  refine enter Try.func17 rfl (Nat.le_of_ble_eq_true rfl) ?_
  generalize blks E_2 = B at hp ⊢
  obtain ⟨g_4, E_5, v_6, e_7, rfl, q_8, o_9⟩ := q_3
  obtain ⟨v_a, v_b, e_c, v_d, e_e, rfl, r_f, o_g, o_h⟩ := q_8
  have hp : Hp ⟨w0, I0, B⟩ I0 [some (g_1, [(.pointer (some ⟨g_4, 0, none⟩)), v_6, (.int .i64 x_0.status), (.int .i64 x_0.ticks)], 59), some (g_4, [v_a, v_b, v_d], 70), e_c, e_e, e_7] w0 := hp
  apply go
  apply go
  apply go
  apply go
  apply go
  refine ev0 (rn_eqNilP rfl rfl rfl Try.underlying26 (b := false) rfl) ?_
  apply go
  apply go
  apply go
  have hs := hp.stp (Ch.drew [] w0)
  have hp := hp.drew
  replace o_9 := o_9.step hs
  replace r_f := r_f.step hs
  replace o_g := o_g.step hs
  replace o_h := o_h.step hs
  refine W.held [(0, true), (1, true), (2, true), (3, true), (5, true), (6, true), (7, true), (8, true), (10, true), (11, true), (12, true), (13, true), (14, true), (15, true), (16, true), (17, true), (4, false), (9, false), (18, true), (19, false), (20, true)] (fun x => Stp I0 w0.drew I0 x ∧ OwnK [(g_1, [(.pointer (some ⟨g_4, 0, none⟩)), v_6, (.int .i64 x_0.status), (.int .i64 x_0.ticks)], 59)] x) MX (by kernel_rfl) ⟨Stp.refl _ _, (OwnK.cons (hp.own 0 _ _ _ rfl).1 OwnK.nil)⟩ ?_
  have hz := Stp.refl I0 w0.drew
  refine evh0 (rn_field rfl rfl FO59_0) ?_
  refine evh (fun w' hw => rn_load rfl rfl (run_loadVar1 T55 (hw.2.cell (i := 0) (off := 0) rfl rfl))) ?_
  refine evh0 (rn_field rfl rfl FO59_1) ?_
  refine evh (fun w' hw => rn_load rfl rfl (run_loadVar1 T39 (hw.2.cell (i := 0) (off := 1) rfl rfl))) ?_
  refine evh0 (rn_field rfl rfl FO59_2) ?_
  refine evh (fun w' hw => rn_load rfl rfl (run_loadVar1 T3 (hw.2.cell (i := 0) (off := 2) rfl rfl))) ?_
  refine evh0 (rn_field rfl rfl FO59_3) ?_
  refine evh (fun w' hw => rn_load rfl rfl (run_loadVar1 T3 (hw.2.cell (i := 0) (off := 3) rfl rfl))) ?_
  obtain ⟨⟨x_i, x_j⟩, q_k, h⟩ := bind_some h
  refine ev_call rfl rfl C24 (((tree_Runner_Clone_ok n) _ _  (Runner.mk x_0.run.nodes x_0.run.counters x_0.run.active) g_4 [some (g_4, [v_a, v_b, v_d], 70), e_c, e_e] ⟨v_a, v_b, e_c, v_d, e_e, rfl, r_f, o_g, o_h⟩ (hp.lendL [1, 2, 3] (by decide)) _ q_k).mono ?_)
  rintro _ w_l ⟨I_m, v_n, F_o, F_p, hv, hq24662, q_q, q_r⟩
  replace hv := hv.symm
  subst hv
  rcases x_i with _ | x_s
  ·
    obtain ⟨rfl, rfl⟩ := q_q
    obtain ⟨v_t, v_u, e_v, v_w, e_x, rfl, r_y, o_z, o_10⟩ := q_r
    have hs := hq24662.st
    have hp := hp.backL [1, 2, 3] [0, 4] (by decide) hq24662
    replace hz := hz.trans hs
    replace o_9 := o_9.step hs
    refine ⟨fun x => Stp I_m w_l I_m x ∧ OwnK [(g_1, [(.pointer (some ⟨g_4, 0, none⟩)), v_6, (.int .i64 x_0.status), (.int .i64 x_0.ticks)], 59)] x, ⟨Stp.refl _ _, (OwnK.cons (hp.own 3 _ _ _ rfl).1 OwnK.nil)⟩, fun x hx => ⟨hz.held hx.1, hx.2⟩, ?_⟩
    have hz := Stp.refl I_m w_l
    obtain ⟨⟨x_11, x_12⟩, q_13, h⟩ := bind_some h
    refine ev_call rfl rfl C22 (((slices_Clonebool_bool__ok n) _ _  x_0.done v_6 e_7 o_9 (hp.lendL [4] (by decide)) _ q_13).mono ?_)
    rintro _ w_14 ⟨I_15, v_16, e_17, e_18, hv, hq24682, o_19, o_1a⟩
    replace hv := hv.symm
    subst hv
    have hs := hq24682.st
    have hp := hp.backL [4] [0, 1, 2, 3] (by decide) hq24682
    replace hz := hz.trans hs
    replace r_y := r_y.step hs
    replace o_z := o_z.step hs
    replace o_10 := o_10.step hs
    refine ⟨fun x => Stp I_15 w_14 I_15 x ∧ OwnK [(g_1, [(.pointer (some ⟨g_4, 0, none⟩)), v_6, (.int .i64 x_0.status), (.int .i64 x_0.ticks)], 59)] x, ⟨Stp.refl _ _, (OwnK.cons (hp.own 5 _ _ _ rfl).1 OwnK.nil)⟩, fun x hx => ⟨hz.held hx.1, hx.2⟩, ?_⟩
    have hz := Stp.refl I_15 w_14
    obtain ⟨A_1b, m_1c, m_1d, rfl⟩ := o_19.isSl
    refine evh0 (fun w => rn_build (cs := [(.pointer none), (.slice A_1b m_1c m_1d), (.int .i64 x_0.status), (.int .i64 x_0.ticks)]) rfl rfl T59 PL59 rfl) ?_
    refine ev_box hp rfl rfl ?_
    intro g_1e w_1f hp hs
    replace hz := hz.trans hs
    replace o_19 := o_19.step hs
    replace r_y := r_y.step hs
    replace o_z := o_z.step hs
    replace o_10 := o_10.step hs
    replace o_1a := o_1a.step hs
    refine ⟨fun x => Stp I_15 w_1f I_15 x ∧ OwnK [(g_1, [(.pointer (some ⟨g_4, 0, none⟩)), v_6, (.int .i64 x_0.status), (.int .i64 x_0.ticks)], 59)] x, ⟨Stp.refl _ _, (OwnK.cons (hp.own 6 _ _ _ rfl).1 OwnK.nil)⟩, fun x hx => ⟨hz.held hx.1, hx.2⟩, ?_⟩
    have hz := Stp.refl I_15 w_1f
    apply go
    cases h
  ·
    obtain ⟨g_1g, rfl, v_1h, v_1i, e_1j, v_1k, e_1l, rfl, r_1m, o_1n, o_1o⟩ := q_q
    obtain ⟨v_1p, v_1q, e_1r, v_1s, e_1t, rfl, r_1u, o_1v, o_1w⟩ := q_r
    have hs := hq24662.st
    have hp := hp.backL [1, 2, 3] [0, 4] (by decide) hq24662
    replace hz := hz.trans hs
    replace o_9 := o_9.step hs
    refine ⟨fun x => Stp I_m w_l I_m x ∧ OwnK [(g_1, [(.pointer (some ⟨g_4, 0, none⟩)), v_6, (.int .i64 x_0.status), (.int .i64 x_0.ticks)], 59)] x, ⟨Stp.refl _ _, (OwnK.cons (hp.own 6 _ _ _ rfl).1 OwnK.nil)⟩, fun x hx => ⟨hz.held hx.1, hx.2⟩, ?_⟩
    have hz := Stp.refl I_m w_l
    obtain ⟨⟨x_1x, x_1y⟩, q_1z, h⟩ := bind_some h
    refine ev_call rfl rfl C22 (((slices_Clonebool_bool__ok n) _ _  x_0.done v_6 e_7 o_9 (hp.lendL [7] (by decide)) _ q_1z).mono ?_)
    rintro _ w_20 ⟨I_21, v_22, e_23, e_24, hv, hq24716, o_25, o_26⟩
    replace hv := hv.symm
    subst hv
    have hs := hq24716.st
    have hp := hp.backL [7] [0, 1, 2, 3, 4, 5, 6] (by decide) hq24716
    replace hz := hz.trans hs
    replace r_1m := r_1m.step hs
    replace o_1n := o_1n.step hs
    replace o_1o := o_1o.step hs
    replace r_1u := r_1u.step hs
    replace o_1v := o_1v.step hs
    replace o_1w := o_1w.step hs
    refine ⟨fun x => Stp I_21 w_20 I_21 x ∧ OwnK [(g_1, [(.pointer (some ⟨g_4, 0, none⟩)), v_6, (.int .i64 x_0.status), (.int .i64 x_0.ticks)], 59)] x, ⟨Stp.refl _ _, (OwnK.cons (hp.own 8 _ _ _ rfl).1 OwnK.nil)⟩, fun x hx => ⟨hz.held hx.1, hx.2⟩, ?_⟩
    have hz := Stp.refl I_21 w_20
    obtain ⟨A_27, m_28, m_29, rfl⟩ := o_25.isSl
    refine evh0 (fun w => rn_build (cs := [(.pointer (some ⟨g_1g, 0, none⟩)), (.slice A_27 m_28 m_29), (.int .i64 x_0.status), (.int .i64 x_0.ticks)]) rfl rfl T59 PL59 rfl) ?_
    refine ev_box hp rfl rfl ?_
    intro g_2a w_2b hp hs
    replace hz := hz.trans hs
    replace o_25 := o_25.step hs
    replace r_1m := r_1m.step hs
    replace o_1n := o_1n.step hs
    replace o_1o := o_1o.step hs
    replace r_1u := r_1u.step hs
    replace o_1v := o_1v.step hs
    replace o_1w := o_1w.step hs
    replace o_26 := o_26.step hs
    refine ⟨fun x => Stp I_21 w_2b I_21 x ∧ OwnK [(g_1, [(.pointer (some ⟨g_4, 0, none⟩)), v_6, (.int .i64 x_0.status), (.int .i64 x_0.ticks)], 59)] x, ⟨Stp.refl _ _, (OwnK.cons (hp.own 9 _ _ _ rfl).1 OwnK.nil)⟩, fun x hx => ⟨hz.held hx.1, hx.2⟩, ?_⟩
    have hz := Stp.refl I_21 w_2b
    apply go
    obtain rfl := Option.some.inj h
    have hp := hp.perm [0, 3, 4, 5, 1, 9, 6, 7, 8, 2] (by decide)
    exact ⟨I_21, (.pointer (some ⟨g_2a, 0, none⟩)), [some (g_2a, [(.pointer (some ⟨g_1g, 0, none⟩)), (.slice A_27 m_28 m_29), (.int .i64 x_0.status), (.int .i64 x_0.ticks)], 59), some (g_1g, [v_1h, v_1i, v_1k], 70), e_1j, e_1l, e_23], [some (g_1, [(.pointer (some ⟨g_4, 0, none⟩)), v_6, (.int .i64 x_0.status), (.int .i64 x_0.ticks)], 59), some (g_4, [v_1p, v_1q, v_1s], 70), e_1r, e_1t, e_24], rfl, hp, ⟨_, rfl, ⟨g_1g, [some (g_1g, [v_1h, v_1i, v_1k], 70), e_1j, e_1l], (.slice A_27 m_28 m_29), e_23, rfl, ⟨v_1h, v_1i, e_1j, v_1k, e_1l, rfl, r_1m, o_1n, o_1o⟩, o_25⟩⟩, ⟨g_4, [some (g_4, [v_1p, v_1q, v_1s], 70), e_1r, e_1t], v_6, e_24, rfl, ⟨v_1p, v_1q, e_1r, v_1s, e_1t, rfl, r_1u, o_1v, o_1w⟩, o_26⟩⟩

end Go.Proofs.Ytkhmdpekfcahkaa

namespace Go.Proofs.Ytkhmdpekfcahkaa
open Go Go.Proofs.Ytkhmdpekfcahkaa.Gw Go.RowKit
set_option linter.unusedVariables false
attribute [local irreducible] Ev EvQ EvS EvH
def ref42_status_S (f : (List Int) → Int → Option Int) : Prop := ∀ (w0 : World) (I0 : Nat → Prop) (x_0 : (List Int)) (v_1 : Value) (r_2 : RepS (dI .i64) w0 I0 v_1 x_0) (x_3 : Int) (hI : ∀ g, I0 g → g < w0.heap.size) (r : Int), f x_0 x_3 = some r →
    Ret Try.prog 25 #[v_1, (.int .i64 x_3)] w0 fun v w1 => v = (.int .i64 r) ∧ Ch [] w0 w1
theorem ref42_status_ok (n : Nat) : ref42_status_S (ref42_status n) := by
  intro w0 I0 x_0 v_1 r_2 x_3 hI r h
  unfold ref42_status at h
  refine enter Try.func25 rfl (Nat.le_of_ble_eq_true rfl) ?_
  have hp : Hp ⟨w0, I0, []⟩ I0 [] w0 := Hp.start hI
  apply go
  apply go
  apply go
  obtain ⟨y_4, q_5, h⟩ := bind_some h
  refine W.cut (γ := Bool) (fun g => [(0, v_1), (1, (.int .i64 x_3)), (22, (.bool (g)))]) (fun g w' => y_4 = (g) ∧ w0 = w') ?_ ?_
  ·
    apply go
    refine ev0 (rn_len rfl rfl Try.underlying31 r_2) ?_
    refine sel_of (fun hc => ?_) (fun hc => ?_)
    ·
      have q_5 := cond_t q_5 hc
      obtain rfl := Option.some.inj q_5
      exact ⟨true, (.c rfl (.c rfl (.c rfl .n))), rfl, rfl⟩
    ·
      have q_5 := cond_f q_5 hc
      obtain ⟨x_6, q_7, q_5⟩ := bind_some q_5
      refine ev_index rfl rfl rfl Try.underlying31 T3 r_2 q_7 ?_
      intro p_8 c_9 d_a a_b
      obtain rfl : c_9 = [(.int .i64 x_6)] := d_a
      refine ev (rn_load rfl rfl (run_loadVar1 T3 (a_b.2 0 _ rfl))) ?_
      refine sel_of (fun hc => ?_) (fun hc => ?_)
      ·
        have q_5 := cond_t q_5 hc
        obtain rfl := Option.some.inj q_5
        exact ⟨true, (.c rfl (.c rfl (.c rfl .n))), rfl, rfl⟩
      ·
        have q_5 := cond_f q_5 hc
        obtain ⟨x_c, q_d, q_5⟩ := bind_some q_5
        refine ev_index rfl rfl rfl Try.underlying31 T3 r_2 q_d ?_
        intro p_e c_f d_g a_h
        obtain rfl : c_f = [(.int .i64 x_c)] := d_g
        refine ev (rn_load rfl rfl (run_loadVar1 T3 (a_h.2 0 _ rfl))) ?_
        obtain rfl := Option.some.inj q_5
        exact ⟨(decide (x_c > 3)), (.c rfl (.c rfl (.c rfl .n))), rfl, rfl⟩
  ·
    rintro x_i _ ⟨hy, rfl⟩
    replace hy := hy.symm
    subst hy
    apply go
    refine sel_of (fun hc => ?_) (fun hc => ?_)
    ·
      have h := cond_t h hc
      apply go
      apply go
      apply go
      obtain rfl := Option.some.inj h
      exact ⟨rfl, hp.ch⟩
    ·
      have h := cond_f h hc
      apply go
      apply go
      apply go
      obtain ⟨x_j, q_k, h⟩ := bind_some h
      refine ev_index rfl rfl rfl Try.underlying31 T3 r_2 q_k ?_
      intro p_l c_m d_n a_o
      obtain rfl : c_m = [(.int .i64 x_j)] := d_n
      refine ev (rn_load rfl rfl (run_loadVar1 T3 (a_o.2 0 _ rfl))) ?_
      apply go
      obtain rfl := Option.some.inj h
      exact ⟨rfl, hp.ch⟩

end Go.Proofs.Ytkhmdpekfcahkaa

namespace Go.Proofs.Ytkhmdpekfcahkaa
open Go Go.Proofs.Ytkhmdpekfcahkaa.Gw Go.RowKit
set_option linter.unusedVariables false
attribute [local irreducible] Ev EvQ EvS EvH
def ref42_Mission_Tick_S (f : Mission_2 → (List Int) → Option (Mission_2 × Int × Int × Int)) : Prop := ∀ (w0 : World) (I0 : Nat → Prop) (x_0 : Mission_2) (v_1 : Value) (r_2 : RepS dTask w0 I0 v_1 x_0.Tasks) (x_3 : (List Int)) (v_4 : Value) (r_5 : RepS (dI .i64) w0 I0 v_4 x_3) (hI : ∀ g, I0 g → g < w0.heap.size) (r : (Mission_2 × Int × Int × Int)), f x_0 x_3 = some r →
    Ret Try.prog 18 #[(.agg #[v_1, (.int .i64 x_0.Done), (.int .i64 x_0.Ran), (.int .i64 x_0.Failed), (.int .i64 x_0.Status), (.int .i64 x_0.Ticks)]), v_4] w0 fun v w1 => ∃ (I1 : Nat → Prop) (u_6 : Value), v = (.tuple #[(.agg #[u_6, (.int .i64 r.1.Done), (.int .i64 r.1.Ran), (.int .i64 r.1.Failed), (.int .i64 r.1.Status), (.int .i64 r.1.Ticks)]), (.int .i64 r.2.1), (.int .i64 r.2.2.1), (.int .i64 r.2.2.2)]) ∧ Hp ⟨w0, I0, []⟩ I1 [] w1 ∧ RepS dTask w1 I1 u_6 r.1.Tasks
theorem ref42_Mission_Tick_ok (n : Nat) : ref42_Mission_Tick_S (ref42_Mission_Tick n) := by
  intro w0 I0 x_0 v_1 r_2 x_3 v_4 r_5 hI r h
  unfold ref42_Mission_Tick at h
  refine enter Try.func18 rfl (Nat.le_of_ble_eq_true rfl) ?_
  have hp : Hp ⟨w0, I0, []⟩ I0 [] w0 := Hp.start hI
  apply go
  apply go
  refine ev_box hp rfl rfl ?_
  intro g_6 w_7 hp hs
  replace r_5 := r_5.step hs
  replace r_2 := r_2.step hs
  refine ev_alloc hp rfl T44 ?_
  intro g_8 w_9 hp hs
  replace r_5 := r_5.step hs
  replace r_2 := r_2.step hs
  apply go
  apply go
  apply go
  refine ev0 (rn_field rfl rfl FO44_4) ?_
  refine ev (rn_load rfl rfl (run_loadVar1 T3 (hp.cell (i := 1) (off := 4) rfl rfl))) ?_
  apply go
  refine sel_of (fun hc => ?_) (fun hc => ?_)
  ·
    have h := cond_t h hc
    apply go
    apply go
    refine ev (rn_load rfl rfl (run_loadVarA T44 rfl (hp.at_ (i := 1) rfl))) ?_
    refine ev_storeA hp (i := 0) (off := 0) (vs := [v_1, (.int .i64 x_0.Done), (.int .i64 x_0.Ran), (.int .i64 x_0.Failed), (.int .i64 x_0.Status), (.int .i64 x_0.Ticks)]) rfl rfl rfl rfl T44 rfl (Nat.le_of_ble_eq_true rfl) (ones_cons r_2.one (ones_cons rfl (ones_cons rfl (ones_cons rfl (ones_cons rfl (ones_cons rfl ones_nil)))))) ?_
    intro w_a hp hs
    replace r_2 := r_2.step hs
    apply go
    obtain rfl := Option.some.inj h
    refine ⟨_, run_loadVarA T44 rfl (hp.at_ (i := 0) rfl), ?_⟩
    have hp := hp.sel [] (by decide)
    exact ⟨I0, v_1, rfl, hp, r_2⟩
  ·
    have h := cond_f h hc
    apply go
    apply go
    apply go
    refine ev0 (rn_field rfl rfl FO44_5) ?_
    refine ev (rn_load rfl rfl (run_loadVar1 T3 (hp.cell (i := 1) (off := 5) rfl rfl))) ?_
    refine ev0 (rn_field rfl rfl FO44_5) ?_
    refine ev_store1 hp (i := 1) (off := 5) rfl rfl rfl rfl T3 rfl (Nat.le_of_ble_eq_true rfl) ?_
    intro w_b hp hs
    replace r_5 := r_5.step hs
    replace r_2 := r_2.step hs
    apply go
    apply go
    obtain ⟨y_c, q_d, h⟩ := bind_some h
    refine W.cut (γ := (Int × Int × Int × Int)) (fun g => [(2, (.pointer (some ⟨g_6, 0, none⟩))), (4, (.pointer (some ⟨g_8, 0, none⟩))), (8, (.int .i64 (g.2.2.2)))]) (fun g w' => y_c = .go ((g.1), (g.2.1), (g.2.2.1), (g.2.2.2)) ∧ Hp ⟨w0, I0, []⟩ I0 [some (g_6, [v_1, (.int .i64 (g.1)), (.int .i64 (g.2.1)), (.int .i64 (g.2.2.1)), (.int .i64 x_0.Status), (.int .i64 (IntKind.i64.wrap (x_0.Ticks + 1)))], 44), some (g_8, [(.slice none 0 0), (.int .i64 0), (.int .i64 0), (.int .i64 0), (.int .i64 0), (.int .i64 0)], 44)] w' ∧ RepS dTask w' I0 v_1 x_0.Tasks) ?_ ?_
    ·
      apply go
      have hp := hp.perm [1, 0] (by decide)
      refine W.loop q_d (γ := Unit) (fun s _ => [(1, v_4), (2, (.pointer (some ⟨g_6, 0, none⟩))), (4, (.pointer (some ⟨g_8, 0, none⟩))), (8, (.int .i64 (s.2.2.2)))]) (fun s _ w' => Hp ⟨w0, I0, []⟩ I0 [some (g_6, [v_1, (.int .i64 (s.1)), (.int .i64 (s.2.1)), (.int .i64 (s.2.2.1)), (.int .i64 x_0.Status), (.int .i64 (IntKind.i64.wrap (x_0.Ticks + 1)))], 44), some (g_8, [(.slice none 0 0), (.int .i64 0), (.int .i64 0), (.int .i64 0), (.int .i64 0), (.int .i64 0)], 44)] w' ∧ RepS (dI .i64) w' I0 v_4 x_3 ∧ RepS dTask w' I0 v_1 x_0.Tasks) () (.c rfl (.c rfl (.c rfl (.c rfl .n)))) ⟨hp, r_5, r_2⟩ ?_
      rintro ⟨x_e, x_f, x_g, x_h⟩ ⟨⟩ w_i y_j ⟨hp, r_5, r_2⟩ q_k q_l
      unfold ref42_Mission_Tick_L1 at q_k
      apply go
      apply go
      apply go
      refine ev0 (rn_field rfl rfl FO44_1) ?_
      refine ev (rn_load rfl rfl (run_loadVar1 T3 (hp.cell (i := 0) (off := 1) rfl rfl))) ?_
      refine ev0 (rn_field rfl rfl FO44_0) ?_
      refine ev (rn_load rfl rfl (run_loadVar1 T22 (hp.cell (i := 0) (off := 0) rfl rfl))) ?_
      refine ev0 (rn_len rfl rfl Try.underlying22 r_2) ?_
      apply go
      refine sel_of (fun hc => ?_) (fun hc => ?_)
      ·
        have q_k := cond_t q_k hc
        apply go
        apply go
        apply go
        apply go
        refine ev0 (rn_field rfl rfl FO44_1) ?_
        refine ev (rn_load rfl rfl (run_loadVar1 T3 (hp.cell (i := 0) (off := 1) rfl rfl))) ?_
        apply go
        apply go
        apply go
        apply go
        obtain ⟨x_m, q_n, q_k⟩ := bind_some q_k
        refine ev_call rfl rfl C25 (((ref42_status_ok n) _ _  x_3 v_4 r_5 x_e hp.imm _ q_n).mono ?_)
        rintro _ w_o ⟨rfl, hc⟩
        have hs := hp.stp hc
        replace hp := hp.ext hc
        replace r_5 := r_5.step hs
        replace r_2 := r_2.step hs
        apply go
        apply go
        apply go
        apply go
        refine sel_of (fun hc => ?_) (fun hc => ?_)
        ·
          have q_k := cond_t q_k hc
          apply go
          apply go
          refine ev0 (rn_field rfl rfl FO44_1) ?_
          refine ev (rn_load rfl rfl (run_loadVar1 T3 (hp.cell (i := 0) (off := 1) rfl rfl))) ?_
          refine ev0 (rn_field rfl rfl FO44_1) ?_
          refine ev_store1 hp (i := 0) (off := 1) rfl rfl rfl rfl T3 rfl (Nat.le_of_ble_eq_true rfl) ?_
          intro w_p hp hs
          replace r_5 := r_5.step hs
          replace r_2 := r_2.step hs
          apply go
          apply go
          refine ev0 (rn_field rfl rfl FO44_2) ?_
          refine ev_store1 hp (i := 0) (off := 2) rfl rfl rfl rfl T3 rfl (Nat.le_of_ble_eq_true rfl) ?_
          intro w_q hp hs
          replace r_5 := r_5.step hs
          replace r_2 := r_2.step hs
          refine ev0 (rn_field rfl rfl FO44_3) ?_
          refine ev_store1 hp (i := 0) (off := 3) rfl rfl rfl rfl T3 rfl (Nat.le_of_ble_eq_true rfl) ?_
          intro w_r hp hs
          replace r_5 := r_5.step hs
          replace r_2 := r_2.step hs
          apply go
          exact ⟨_, (Option.some.inj q_k).symm, (), (.c rfl (.c rfl (.c rfl (.c rfl .n)))), ⟨hp, r_5, r_2⟩⟩
        ·
          have q_k := cond_f q_k hc
          apply go
          obtain ⟨y_s, q_t, q_k⟩ := bind_some q_k
          refine W.cut (γ := (Int × Int)) (fun g => [(2, (.pointer (some ⟨g_6, 0, none⟩))), (4, (.pointer (some ⟨g_8, 0, none⟩))), (8, (.int .i64 (g.2))), (9, (.int .i64 x_e))]) (fun g w' => y_s = .go ((g.1), (g.2)) ∧ Hp ⟨w0, I0, []⟩ I0 [some (g_6, [v_1, (.int .i64 x_e), (.int .i64 x_f), (.int .i64 (g.1)), (.int .i64 x_0.Status), (.int .i64 (IntKind.i64.wrap (x_0.Ticks + 1)))], 44), some (g_8, [(.slice none 0 0), (.int .i64 0), (.int .i64 0), (.int .i64 0), (.int .i64 0), (.int .i64 0)], 44)] w' ∧ RepS dTask w' I0 v_1 x_0.Tasks) ?_ ?_
          ·
            apply go
            apply go
            apply go
            refine sel_of (fun hc => ?_) (fun hc => ?_)
            ·
              have q_t := cond_t q_t hc
              apply go
              apply go
              apply go
              apply go
              obtain ⟨x_u, q_v, q_t⟩ := bind_some q_t
              refine ev_call rfl rfl C25 (((ref42_status_ok n) _ _  x_3 v_4 r_5 (IntKind.i64.wrap (32 + x_e)) hp.imm _ q_v).mono ?_)
              rintro _ w_w ⟨rfl, hc⟩
              have hs := hp.stp hc
              replace hp := hp.ext hc
              replace r_2 := r_2.step hs
              apply go
              refine sel_of (fun hc => ?_) (fun hc => ?_)
              ·
                have q_t := cond_t q_t hc
                apply go
                apply go
                refine ev0 (rn_field rfl rfl FO44_3) ?_
                refine ev (rn_load rfl rfl (run_loadVar1 T3 (hp.cell (i := 0) (off := 3) rfl rfl))) ?_
                refine ev0 (rn_field rfl rfl FO44_3) ?_
                refine ev_store1 hp (i := 0) (off := 3) rfl rfl rfl rfl T3 rfl (Nat.le_of_ble_eq_true rfl) ?_
                intro w_x hp hs
                replace r_2 := r_2.step hs
                apply go
                refine W.quiet (fun w' => Ch [] w_x w') MX (by kernel_rfl) (Ch.drew [] w_x) ?_
                refine evq0 (rn_field rfl rfl FO44_3) ?_
                refine evq (fun w' hw => rn_load rfl rfl (run_loadVar1 T3 ((hp.ext hw).cell (i := 0) (off := 3) rfl rfl))) ?_
                refine evq0 (rn_field rfl rfl FO44_0) ?_
                refine evq (fun w' hw => rn_load rfl rfl (run_loadVar1 T22 ((hp.ext hw).cell (i := 0) (off := 0) rfl rfl))) ?_
                obtain ⟨x_y, q_z, q_t⟩ := bind_some q_t
                refine evq_index rfl rfl rfl Try.underlying22 T37 r_2 q_z ?_
                intro p_10 c_11 d_12 a_13
                obtain rfl := dTask_o d_12
                refine evq0 (rn_field rfl rfl FO37_3) ?_
                refine evq (fun w' hw => rn_load rfl rfl (run_loadVar1 T3 ((a_13.step (hp.stp hw)).2 4 _ rfl))) ?_
                intro w_14 hc
                have hs := hp.stp hc
                replace hp := hp.ext hc
                replace r_2 := r_2.step hs
                apply go
                refine sel_of (fun hc => ?_) (fun hc => ?_)
                ·
                  have q_t := cond_t q_t hc
                  apply go
                  apply go
                  refine ev0 (rn_field rfl rfl FO44_4) ?_
                  refine ev_store1 hp (i := 0) (off := 4) rfl rfl rfl rfl T3 rfl (Nat.le_of_ble_eq_true rfl) ?_
                  intro w_15 hp hs
                  replace r_2 := r_2.step hs
                  apply go
                  have hs := hp.stp (Ch.drew [] w_15)
                  have hp := hp.drew
                  replace r_2 := r_2.step hs
                  refine W.held [(0, true), (1, true), (2, true), (3, true), (4, false), (5, true), (6, true), (7, true)] (fun x => Stp I0 w_15.drew I0 x ∧ OwnK [(g_6, [v_1, (.int .i64 x_e), (.int .i64 x_f), (.int .i64 (IntKind.i64.wrap (x_g + 1))), (.int .i64 3), (.int .i64 (IntKind.i64.wrap (x_0.Ticks + 1)))], 44)] x) MX (by kernel_rfl) ⟨Stp.refl _ _, (OwnK.cons (hp.own 0 _ _ _ rfl).1 OwnK.nil)⟩ ?_
                  have hz := Stp.refl I0 w_15.drew
                  refine evh (fun w' hw => rn_load rfl rfl (run_loadVarA T44 rfl (hw.2.at_ (i := 0) rfl))) ?_
                  refine evh0 (rn_field rfl rfl FO44_4) ?_
                  refine evh (fun w' hw => rn_load rfl rfl (run_loadVar1 T3 (hw.2.cell (i := 0) (off := 4) rfl rfl))) ?_
                  refine ev_storeA hp (i := 1) (off := 0) (vs := [v_1, (.int .i64 x_e), (.int .i64 x_f), (.int .i64 (IntKind.i64.wrap (x_g + 1))), (.int .i64 3), (.int .i64 (IntKind.i64.wrap (x_0.Ticks + 1)))]) rfl rfl rfl rfl T44 rfl (Nat.le_of_ble_eq_true rfl) (ones_cons r_2.one (ones_cons rfl (ones_cons rfl (ones_cons rfl (ones_cons rfl (ones_cons rfl ones_nil)))))) ?_
                  intro w_16 hp hs
                  replace hz := hz.trans hs
                  replace r_2 := r_2.step hs
                  refine ⟨fun x => Stp I0 w_16 I0 x ∧ OwnK [(g_6, [v_1, (.int .i64 x_e), (.int .i64 x_f), (.int .i64 (IntKind.i64.wrap (x_g + 1))), (.int .i64 3), (.int .i64 (IntKind.i64.wrap (x_0.Ticks + 1)))], 44)] x, ⟨Stp.refl _ _, (OwnK.cons (hp.own 0 _ _ _ rfl).1 OwnK.nil)⟩, fun x hx => ⟨hz.held hx.1, hx.2⟩, ?_⟩
                  have hz := Stp.refl I0 w_16
                  apply go
                  obtain rfl := Option.some.inj q_t
                  have q_17 := congrArg some (q_l _ (Option.some.inj q_k).symm)
                  obtain rfl := Option.some.inj q_17
                  obtain rfl := Option.some.inj h
                  refine ⟨_, run_loadVarA T44 rfl (hp.at_ (i := 1) rfl), ?_⟩
                  have hp := hp.sel [] (by decide)
                  exact ⟨I0, v_1, rfl, hp, r_2⟩
                ·
                  have q_t := cond_f q_t hc
                  apply go
                  obtain rfl := Option.some.inj q_t
                  exact ⟨((IntKind.i64.wrap (x_g + 1)), (IntKind.i64.wrap (32 + x_e))), (.c rfl (.c rfl (.c rfl (.c rfl .n)))), rfl, hp, r_2⟩
              ·
                have q_t := cond_f q_t hc
                apply go
                obtain rfl := Option.some.inj q_t
                exact ⟨(x_g, (IntKind.i64.wrap (32 + x_e))), (.c rfl (.c rfl (.c rfl (.c rfl .n)))), rfl, hp, r_2⟩
            ·
              have q_t := cond_f q_t hc
              apply go
              obtain rfl := Option.some.inj q_t
              exact ⟨(x_g, x_e), (.c rfl (.c rfl (.c rfl (.c rfl .n)))), rfl, hp, r_2⟩
          ·
            rintro ⟨x_18, x_19⟩ w_1a ⟨hy, hp, r_2⟩
            replace hy := hy.symm
            subst hy
            apply go
            apply go
            refine ev0 (rn_field rfl rfl FO44_2) ?_
            refine ev (rn_load rfl rfl (run_loadVar1 T3 (hp.cell (i := 0) (off := 2) rfl rfl))) ?_
            refine ev0 (rn_field rfl rfl FO44_2) ?_
            refine ev_store1 hp (i := 0) (off := 2) rfl rfl rfl rfl T3 rfl (Nat.le_of_ble_eq_true rfl) ?_
            intro w_1b hp hs
            replace r_2 := r_2.step hs
            obtain ⟨y_1c, q_1d, q_k⟩ := bind_some q_k
            refine W.cut (γ := Int) (fun g => [(2, (.pointer (some ⟨g_6, 0, none⟩))), (4, (.pointer (some ⟨g_8, 0, none⟩))), (8, (.int .i64 x_19))]) (fun g w' => y_1c = (g) ∧ Hp ⟨w0, I0, []⟩ I0 [some (g_6, [v_1, (.int .i64 x_e), (.int .i64 (IntKind.i64.wrap (x_f + 1))), (.int .i64 x_18), (.int .i64 (g)), (.int .i64 (IntKind.i64.wrap (x_0.Ticks + 1)))], 44), some (g_8, [(.slice none 0 0), (.int .i64 0), (.int .i64 0), (.int .i64 0), (.int .i64 0), (.int .i64 0)], 44)] w' ∧ RepS dTask w' I0 v_1 x_0.Tasks) ?_ ?_
            ·
              apply go
              refine W.quiet (fun w' => Ch [] w_1b w') MX (by kernel_rfl) (Ch.drew [] w_1b) ?_
              refine evq0 (rn_field rfl rfl FO44_2) ?_
              refine evq (fun w' hw => rn_load rfl rfl (run_loadVar1 T3 ((hp.ext hw).cell (i := 0) (off := 2) rfl rfl))) ?_
              refine evq0 (rn_field rfl rfl FO44_0) ?_
              refine evq (fun w' hw => rn_load rfl rfl (run_loadVar1 T22 ((hp.ext hw).cell (i := 0) (off := 0) rfl rfl))) ?_
              obtain ⟨x_1e, q_1f, q_1d⟩ := bind_some q_1d
              refine evq_index rfl rfl rfl Try.underlying22 T37 r_2 q_1f ?_
              intro p_1g c_1h d_1i a_1j
              obtain rfl := dTask_o d_1i
              refine evq0 (rn_field rfl rfl FO37_2) ?_
              refine evq (fun w' hw => rn_load rfl rfl (run_loadVar1 T3 ((a_1j.step (hp.stp hw)).2 3 _ rfl))) ?_
              intro w_1k hc
              have hs := hp.stp hc
              replace hp := hp.ext hc
              replace r_2 := r_2.step hs
              apply go
              refine sel_of (fun hc => ?_) (fun hc => ?_)
              ·
                have q_1d := cond_t q_1d hc
                apply go
                refine ev0 (rn_field rfl rfl FO44_4) ?_
                refine ev_store1 hp (i := 0) (off := 4) rfl rfl rfl rfl T3 rfl (Nat.le_of_ble_eq_true rfl) ?_
                intro w_1l hp hs
                replace r_2 := r_2.step hs
                obtain rfl := Option.some.inj q_1d
                exact ⟨3, (.c rfl (.c rfl (.c rfl .n))), rfl, hp, r_2⟩
              ·
                have q_1d := cond_f q_1d hc
                apply go
                obtain rfl := Option.some.inj q_1d
                exact ⟨x_0.Status, (.c rfl (.c rfl (.c rfl .n))), rfl, hp, r_2⟩
            ·
              rintro x_1m w_1n ⟨hy, hp, r_2⟩
              replace hy := hy.symm
              subst hy
              apply go
              have hs := hp.stp (Ch.drew [] w_1n)
              have hp := hp.drew
              replace r_2 := r_2.step hs
              refine W.held [(0, true), (1, true), (2, true), (3, true), (4, false), (5, true), (6, true), (7, true)] (fun x => Stp I0 w_1n.drew I0 x ∧ OwnK [(g_6, [v_1, (.int .i64 x_e), (.int .i64 (IntKind.i64.wrap (x_f + 1))), (.int .i64 x_18), (.int .i64 x_1m), (.int .i64 (IntKind.i64.wrap (x_0.Ticks + 1)))], 44)] x) MX (by kernel_rfl) ⟨Stp.refl _ _, (OwnK.cons (hp.own 0 _ _ _ rfl).1 OwnK.nil)⟩ ?_
              have hz := Stp.refl I0 w_1n.drew
              refine evh (fun w' hw => rn_load rfl rfl (run_loadVarA T44 rfl (hw.2.at_ (i := 0) rfl))) ?_
              refine evh0 (rn_field rfl rfl FO44_4) ?_
              refine evh (fun w' hw => rn_load rfl rfl (run_loadVar1 T3 (hw.2.cell (i := 0) (off := 4) rfl rfl))) ?_
              refine ev_storeA hp (i := 1) (off := 0) (vs := [v_1, (.int .i64 x_e), (.int .i64 (IntKind.i64.wrap (x_f + 1))), (.int .i64 x_18), (.int .i64 x_1m), (.int .i64 (IntKind.i64.wrap (x_0.Ticks + 1)))]) rfl rfl rfl rfl T44 rfl (Nat.le_of_ble_eq_true rfl) (ones_cons r_2.one (ones_cons rfl (ones_cons rfl (ones_cons rfl (ones_cons rfl (ones_cons rfl ones_nil)))))) ?_
              intro w_1o hp hs
              replace hz := hz.trans hs
              replace r_2 := r_2.step hs
              refine ⟨fun x => Stp I0 w_1o I0 x ∧ OwnK [(g_6, [v_1, (.int .i64 x_e), (.int .i64 (IntKind.i64.wrap (x_f + 1))), (.int .i64 x_18), (.int .i64 x_1m), (.int .i64 (IntKind.i64.wrap (x_0.Ticks + 1)))], 44)] x, ⟨Stp.refl _ _, (OwnK.cons (hp.own 0 _ _ _ rfl).1 OwnK.nil)⟩, fun x hx => ⟨hz.held hx.1, hx.2⟩, ?_⟩
              have hz := Stp.refl I0 w_1o
              apply go
              have q_1p := congrArg some (q_l _ (Option.some.inj q_k).symm)
              obtain rfl := Option.some.inj q_1p
              obtain rfl := Option.some.inj h
              refine ⟨_, run_loadVarA T44 rfl (hp.at_ (i := 1) rfl), ?_⟩
              have hp := hp.sel [] (by decide)
              exact ⟨I0, v_1, rfl, hp, r_2⟩
      ·
        have q_k := cond_f q_k hc
        apply go
        have q_1q := congrArg some (q_l _ (Option.some.inj q_k).symm)
        obtain rfl := Option.some.inj q_1q
        exact ⟨(x_e, x_f, x_g, x_h), (.c rfl (.c rfl (.c rfl .n))), rfl, hp, r_2⟩
    ·
      rintro ⟨x_1r, x_1s, x_1t, x_1u⟩ w_1v ⟨hy, hp, r_2⟩
      replace hy := hy.symm
      subst hy
      apply go
      apply go
      refine ev0 (rn_field rfl rfl FO44_4) ?_
      refine ev_store1 hp (i := 0) (off := 4) rfl rfl rfl rfl T3 rfl (Nat.le_of_ble_eq_true rfl) ?_
      intro w_1w hp hs
      replace r_2 := r_2.step hs
      apply go
      have hs := hp.stp (Ch.drew [] w_1w)
      have hp := hp.drew
      replace r_2 := r_2.step hs
      refine W.held [(0, true), (1, true), (2, true), (3, true), (4, false), (5, true), (6, true), (7, true)] (fun x => Stp I0 w_1w.drew I0 x ∧ OwnK [(g_6, [v_1, (.int .i64 x_1r), (.int .i64 x_1s), (.int .i64 x_1t), (.int .i64 2), (.int .i64 (IntKind.i64.wrap (x_0.Ticks + 1)))], 44)] x) MX (by kernel_rfl) ⟨Stp.refl _ _, (OwnK.cons (hp.own 0 _ _ _ rfl).1 OwnK.nil)⟩ ?_
      have hz := Stp.refl I0 w_1w.drew
      refine evh (fun w' hw => rn_load rfl rfl (run_loadVarA T44 rfl (hw.2.at_ (i := 0) rfl))) ?_
      refine evh0 (rn_field rfl rfl FO44_4) ?_
      refine evh (fun w' hw => rn_load rfl rfl (run_loadVar1 T3 (hw.2.cell (i := 0) (off := 4) rfl rfl))) ?_
      refine ev_storeA hp (i := 1) (off := 0) (vs := [v_1, (.int .i64 x_1r), (.int .i64 x_1s), (.int .i64 x_1t), (.int .i64 2), (.int .i64 (IntKind.i64.wrap (x_0.Ticks + 1)))]) rfl rfl rfl rfl T44 rfl (Nat.le_of_ble_eq_true rfl) (ones_cons r_2.one (ones_cons rfl (ones_cons rfl (ones_cons rfl (ones_cons rfl (ones_cons rfl ones_nil)))))) ?_
      intro w_1x hp hs
      replace hz := hz.trans hs
      replace r_2 := r_2.step hs
      refine ⟨fun x => Stp I0 w_1x I0 x ∧ OwnK [(g_6, [v_1, (.int .i64 x_1r), (.int .i64 x_1s), (.int .i64 x_1t), (.int .i64 2), (.int .i64 (IntKind.i64.wrap (x_0.Ticks + 1)))], 44)] x, ⟨Stp.refl _ _, (OwnK.cons (hp.own 0 _ _ _ rfl).1 OwnK.nil)⟩, fun x hx => ⟨hz.held hx.1, hx.2⟩, ?_⟩
      have hz := Stp.refl I0 w_1x
      apply go
      obtain rfl := Option.some.inj h
      refine ⟨_, run_loadVarA T44 rfl (hp.at_ (i := 1) rfl), ?_⟩
      have hp := hp.sel [] (by decide)
      exact ⟨I0, v_1, rfl, hp, r_2⟩

end Go.Proofs.Ytkhmdpekfcahkaa

namespace Go.Proofs.Ytkhmdpekfcahkaa
open Go Go.Proofs.Ytkhmdpekfcahkaa.Gw Go.RowKit
set_option linter.unusedVariables false
attribute [local irreducible] Ev EvQ EvS EvH
def mission_Mission_Donenil_S (f : Option (List Bool)) : Prop := ∀ (w0 : World) (I0 : Nat → Prop)  (hI : ∀ g, I0 g → g < w0.heap.size) (r : (List Bool)), f  = some r →
    Ret Try.prog 13 #[(.pointer none)] w0 fun v w1 => ∃ (I1 : Nat → Prop) (u_0 : Value), v = u_0 ∧ Hp ⟨w0, I0, []⟩ I1 [] w1 ∧ RepS dB w1 I1 u_0 r
theorem mission_Mission_Donenil_ok (n : Nat) : mission_Mission_Donenil_S (mission_Mission_Donenil n) := by
  intro w0 I0 hI r h
  unfold mission_Mission_Donenil at h
  refine enter Try.func13 rfl (Nat.le_of_ble_eq_true rfl) ?_
  have hp : Hp ⟨w0, I0, []⟩ I0 [] w0 := Hp.start hI
  apply go
  apply go
  apply go
  apply go
  apply go
  refine ev0 (rn_eqNilP rfl rfl rfl Try.underlying26 (b := true) rfl) ?_
  apply go
  apply go
  apply go
  apply go
  obtain rfl := Option.some.inj h
  exact ⟨I0, .slice none 0 0, rfl, hp, RepS.nil _ _ _⟩

end Go.Proofs.Ytkhmdpekfcahkaa

namespace Go.Proofs.Ytkhmdpekfcahkaa
open Go Go.Proofs.Ytkhmdpekfcahkaa.Gw Go.RowKit
set_option linter.unusedVariables false
attribute [local irreducible] Ev EvQ EvS EvH
def mission_Mission_Ticksnil_S (f : Option Int) : Prop := ∀ (w0 : World) (I0 : Nat → Prop)  (hI : ∀ g, I0 g → g < w0.heap.size) (r : Int), f  = some r →
    Ret Try.prog 14 #[(.pointer none)] w0 fun v w1 => ∃ (I1 : Nat → Prop), v = (.int .i64 r) ∧ Hp ⟨w0, I0, []⟩ I1 [] w1
theorem mission_Mission_Ticksnil_ok (n : Nat) : mission_Mission_Ticksnil_S (mission_Mission_Ticksnil n) := by
  intro w0 I0 hI r h
  unfold mission_Mission_Ticksnil at h
  refine enter Try.func14 rfl (Nat.le_of_ble_eq_true rfl) ?_
  have hp : Hp ⟨w0, I0, []⟩ I0 [] w0 := Hp.start hI
  apply go
  apply go
  apply go
  apply go
  apply go
  refine ev0 (rn_eqNilP rfl rfl rfl Try.underlying26 (b := true) rfl) ?_
  apply go
  apply go
  apply go
  apply go
  obtain rfl := Option.some.inj h
  exact ⟨I0, rfl, hp⟩

end Go.Proofs.Ytkhmdpekfcahkaa

namespace Go.Proofs.Ytkhmdpekfcahkaa
open Go Go.Proofs.Ytkhmdpekfcahkaa.Gw Go.RowKit
set_option linter.unusedVariables false
attribute [local irreducible] Ev EvQ EvS EvH
def mission_Mission_Statusnil_S (f : Option Int) : Prop := ∀ (w0 : World) (I0 : Nat → Prop)  (hI : ∀ g, I0 g → g < w0.heap.size) (r : Int), f  = some r →
    Ret Try.prog 15 #[(.pointer none)] w0 fun v w1 => ∃ (I1 : Nat → Prop), v = (.int .i64 r) ∧ Hp ⟨w0, I0, []⟩ I1 [] w1
theorem mission_Mission_Statusnil_ok (n : Nat) : mission_Mission_Statusnil_S (mission_Mission_Statusnil n) := by
  intro w0 I0 hI r h
  unfold mission_Mission_Statusnil at h
  refine enter Try.func15 rfl (Nat.le_of_ble_eq_true rfl) ?_
  have hp : Hp ⟨w0, I0, []⟩ I0 [] w0 := Hp.start hI
  apply go
  apply go
  apply go
  apply go
  apply go
  refine ev0 (rn_eqNilP rfl rfl rfl Try.underlying26 (b := true) rfl) ?_
  apply go
  apply go
  apply go
  apply go
  obtain rfl := Option.some.inj h
  exact ⟨I0, rfl, hp⟩

end Go.Proofs.Ytkhmdpekfcahkaa

namespace Go.Proofs.Ytkhmdpekfcahkaa
open Go Go.Proofs.Ytkhmdpekfcahkaa.Gw Go.RowKit
set_option linter.unusedVariables false
attribute [local irreducible] Ev EvQ EvS EvH
def mission_Mission_Clonenil_S (f : Option (Option Mission)) : Prop := ∀ (w0 : World) (I0 : Nat → Prop)  (hI : ∀ g, I0 g → g < w0.heap.size) (r : (Option Mission)), f  = some r →
    Ret Try.prog 17 #[(.pointer none)] w0 fun v w1 => ∃ (I1 : Nat → Prop) (u_0 : Value) (u_1 : List Ent), v = u_0 ∧ Hp ⟨w0, I0, []⟩ I1 u_1 w1 ∧ qoM w1 I1 u_0 u_1 r
theorem mission_Mission_Clonenil_ok (n : Nat) : mission_Mission_Clonenil_S (mission_Mission_Clonenil n) := by
  intro w0 I0 hI r h
  unfold mission_Mission_Clonenil at h
  refine enter Try.func17 rfl (Nat.le_of_ble_eq_true rfl) ?_
  have hp : Hp ⟨w0, I0, []⟩ I0 [] w0 := Hp.start hI
  apply go
  apply go
  apply go
  apply go
  apply go
  refine ev0 (rn_eqNilP rfl rfl rfl Try.underlying26 (b := true) rfl) ?_
  apply go
  apply go
  apply go
  apply go
  obtain rfl := Option.some.inj h
  exact ⟨I0, (.pointer none), [], rfl, hp, ⟨rfl, rfl⟩⟩

end Go.Proofs.Ytkhmdpekfcahkaa
