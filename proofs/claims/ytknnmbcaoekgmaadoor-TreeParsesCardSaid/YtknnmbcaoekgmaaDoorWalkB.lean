/-
  Each function of the program computes the plain function of its name.
-/
import Derived.Test.YtknnmbcaoekgmaaDoorFactsA
import Derived.Test.YtknnmbcaoekgmaaDoorWalkA
import Derived.Test.YtknnmbcaoekgmaaDoorCoreA
namespace Go.Proofs.YtknnmbcaoekgmaaDoor
open Go Go.Proofs.YtknnmbcaoekgmaaDoor.Gw Go.RowKit
set_option linter.unusedVariables false
attribute [local irreducible] Ev EvQ EvS EvH
def tree_parser_node_S (f : Parser → Int → Option (Node × Bool × Parser)) : Prop := ∀ (w0 : World) (I0 : Nat → Prop) (tb : Tb w0 I0 1 .u64 pow10) (x_0 : Parser) (g_1 : Nat) (E_2 : List Ent) (q_3 : qP w0 I0 g_1 E_2 x_0) (x_4 : Int) (hp : Hp ⟨w0, I0, blks E_2⟩ I0 E_2 w0) (r : (Node × Bool × Parser)), f x_0 x_4 = some r →
    Ret Tryd.prog 23 #[(.pointer (some ⟨g_1, 0, none⟩)), (.int .i64 x_4)] w0 fun v w1 => ∃ (I1 : Nat → Prop) (u_5 : Value) (u_6 : List Ent), v = (.tuple #[(.agg #[(.int .i64 r.1.Kind), (.int .i64 r.1.Name), (.int .i64 r.1.Count), u_5]), (.bool r.2.1)]) ∧ Hp ⟨w0, I0, blks E_2⟩ I1 u_6 w1 ∧ RepS dNode w1 I1 u_5 r.1.Kids ∧ qP w1 I1 g_1 u_6 r.2.2
theorem tree_parser_node_F_ok (n : Nat) (self : Parser → Int → Option (Node × Bool × Parser)) (ih : tree_parser_node_S self) : tree_parser_node_S (tree_parser_node_F n self) := by
  intro w0 I0 tb x_0 g_1 E_2 q_3 x_4 hp r h
  unfold tree_parser_node_F at h
  refine enter Tryd.func23 rfl (Nat.le_of_ble_eq_true rfl) ?_
  generalize blks E_2 = B at hp ⊢
  obtain rfl := q_3
  have hp : Hp ⟨w0, I0, B⟩ I0 [some (g_1, [(.string x_0.s), (.int .i64 x_0.nodes)], 51)] w0 := hp
  apply go
  apply go
  refine ev_alloc hp rfl T24 ?_
  intro g_5 w_6 hp hs
  replace tb := tb.step hs
  apply go
  apply go
  refine ev0 (rn_field rfl rfl FO51_1) ?_
  refine ev (rn_load rfl rfl (run_loadVar1 T3 (hp.cell (i := 1) (off := 1) rfl rfl))) ?_
  refine ev0 (rn_field rfl rfl FO51_1) ?_
  refine ev_store1 hp (i := 1) (off := 1) rfl rfl rfl rfl T3 rfl (Nat.le_of_ble_eq_true rfl) ?_
  intro w_7 hp hs
  replace tb := tb.step hs
  apply go
  obtain ⟨y_8, q_9, h⟩ := bind_some h
  refine W.cut (γ := Bool) (fun g => [(0, (.pointer (some ⟨g_1, 0, none⟩))), (1, (.int .i64 x_4)), (4, (.pointer (some ⟨g_5, 0, none⟩))), (32, (.bool (g)))]) (fun g w' => y_8 = (g) ∧ w_7 = w') ?_ ?_
  ·
    apply go
    refine sel_of (fun hc => ?_) (fun hc => ?_)
    ·
      have q_9 := cond_t q_9 hc
      obtain rfl := Option.some.inj q_9
      exact ⟨true, (.c rfl (.c rfl (.c rfl (.c rfl .n)))), rfl, rfl⟩
    ·
      have q_9 := cond_f q_9 hc
      refine ev0 (rn_field rfl rfl FO51_1) ?_
      refine ev (rn_load rfl rfl (run_loadVar1 T3 (hp.cell (i := 1) (off := 1) rfl rfl))) ?_
      refine sel_of (fun hc => ?_) (fun hc => ?_)
      ·
        have q_9 := cond_t q_9 hc
        obtain rfl := Option.some.inj q_9
        exact ⟨true, (.c rfl (.c rfl (.c rfl (.c rfl .n)))), rfl, rfl⟩
      ·
        have q_9 := cond_f q_9 hc
        refine ev0 (rn_field rfl rfl FO51_0) ?_
        refine ev (rn_load rfl rfl (run_loadVar1 T9 (hp.cell (i := 1) (off := 0) rfl rfl))) ?_
        obtain rfl := Option.some.inj q_9
        exact ⟨(x_0.s.toList == (ByteArray.mk #[]).toList), (.c rfl (.c rfl (.c rfl (.c rfl .n)))), rfl, rfl⟩
  ·
    rintro x_a _ ⟨hy, rfl⟩
    replace hy := hy.symm
    subst hy
    apply go
    refine sel_of (fun hc => ?_) (fun hc => ?_)
    ·
      have h := cond_t h hc
      apply go
      apply go
      refine ev0 (fun w => rn_build (cs := [(.int .i64 0), (.int .i64 0), (.int .i64 0), (.slice none 0 0)]) rfl rfl T24 PL24 rfl) ?_
      refine ev_storeA hp (i := 0) (off := 0) (vs := [(.int .i64 0), (.int .i64 0), (.int .i64 0), (.slice none 0 0)]) rfl rfl rfl rfl T24 rfl (Nat.le_of_ble_eq_true rfl) (ones_of rfl) ?_
      intro w_b hp hs
      replace tb := tb.step hs
      apply go
      obtain rfl := Option.some.inj h
      refine ⟨_, run_loadVarA T24 rfl (hp.at_ (i := 0) rfl), ?_⟩
      have hp := hp.sel [1] (by decide)
      exact ⟨I0, (.slice none 0 0), [some (g_1, [(.string x_0.s), (.int .i64 (IntKind.i64.wrap (x_0.nodes + 1)))], 51)], rfl, hp, RepS.nil _ _ _, rfl⟩
    ·
      have h := cond_f h hc
      apply go
      apply go
      apply go
      obtain ⟨⟨x_c, x_d⟩, q_e, h⟩ := bind_some h
      refine ev_call rfl rfl C38 (((tree_parser_take_ok n) _ _  (Parser.mk x_0.s (IntKind.i64.wrap (x_0.nodes + 1))) g_1 [some (g_1, [(.string x_0.s), (.int .i64 (IntKind.i64.wrap (x_0.nodes + 1)))], 51)] rfl 40 (hp.lendL [1] (by decide)) _ q_e).mono ?_)
      rintro _ w_f ⟨I_g, F_h, hv, hq6190, q_i⟩
      replace hv := hv.symm
      subst hv
      obtain rfl := q_i
      have hs := hq6190.st
      have hp := hp.backL [1] [0] (by decide) hq6190
      replace tb := tb.step hs
      apply go
      apply go
      apply go
      refine ev0 (rn_field rfl rfl FO51_0) ?_
      refine ev (rn_load rfl rfl (run_loadVar1 T9 (hp.cell (i := 0) (off := 0) rfl rfl))) ?_
      apply go
      refine sel_of (fun hc => ?_) (fun hc => ?_)
      ·
        have h := cond_t h hc
        apply go
        apply go
        refine ev0 (fun w => rn_build (cs := [(.int .i64 0), (.int .i64 0), (.int .i64 0), (.slice none 0 0)]) rfl rfl T24 PL24 rfl) ?_
        refine ev_storeA hp (i := 1) (off := 0) (vs := [(.int .i64 0), (.int .i64 0), (.int .i64 0), (.slice none 0 0)]) rfl rfl rfl rfl T24 rfl (Nat.le_of_ble_eq_true rfl) (ones_of rfl) ?_
        intro w_j hp hs
        replace tb := tb.step hs
        apply go
        obtain rfl := Option.some.inj h
        refine ⟨_, run_loadVarA T24 rfl (hp.at_ (i := 1) rfl), ?_⟩
        have hp := hp.sel [0] (by decide)
        exact ⟨I_g, (.slice none 0 0), [some (g_1, [(.string x_d.s), (.int .i64 x_d.nodes)], 51)], rfl, hp, RepS.nil _ _ _, rfl⟩
      ·
        have h := cond_f h hc
        apply go
        apply go
        apply go
        refine ev0 (rn_field rfl rfl FO51_0) ?_
        refine ev (rn_load rfl rfl (run_loadVar1 T9 (hp.cell (i := 0) (off := 0) rfl rfl))) ?_
        obtain ⟨x_k, q_l, h⟩ := bind_some h
        refine ev0 (rn_indexS rfl rfl rfl Tryd.underlying9 q_l) ?_
        obtain ⟨x_m, q_n, h⟩ := bind_some h
        refine ev_call rfl rfl C39 (((strings_IndexByte_ok n) _ _  (ByteArray.mk #[32, 97, 116, 115, 102, 112, 105, 114, 111]) x_k hp.imm _ q_n).mono ?_)
        rintro _ w_o ⟨rfl, hc⟩
        have hs := hp.stp hc
        replace hp := hp.ext hc
        replace tb := tb.step hs
        refine ev0 (fun w => rn_build (cs := [(.int .i64 x_m), (.int .i64 0), (.int .i64 0), (.slice none 0 0)]) rfl rfl T24 PL24 rfl) ?_
        refine ev_alloc hp rfl T24 ?_
        intro g_p w_q hp hs
        replace tb := tb.step hs
        refine ev_storeA hp (i := 0) (off := 0) (vs := [(.int .i64 x_m), (.int .i64 0), (.int .i64 0), (.slice none 0 0)]) rfl rfl rfl rfl T24 rfl (Nat.le_of_ble_eq_true rfl) (ones_of rfl) ?_
        intro w_r hp hs
        replace tb := tb.step hs
        apply go
        apply go
        refine ev0 (rn_field rfl rfl FO51_0) ?_
        refine ev (rn_load rfl rfl (run_loadVar1 T9 (hp.cell (i := 1) (off := 0) rfl rfl))) ?_
        obtain ⟨x_s, q_t, h⟩ := bind_some h
        refine ev0 (rn_sliceStr (kl := .i64) (kh := .i64) rfl rfl rfl rfl Tryd.underlying9 q_t) ?_
        refine ev0 (rn_field rfl rfl FO51_0) ?_
        refine ev_store1 hp (i := 1) (off := 0) rfl rfl rfl rfl T9 rfl (Nat.le_of_ble_eq_true rfl) ?_
        intro w_u hp hs
        replace tb := tb.step hs
        apply go
        obtain ⟨y_v, q_w, h⟩ := bind_some h
        refine W.cut (γ := Bool) (fun g => [(0, (.pointer (some ⟨g_1, 0, none⟩))), (1, (.int .i64 x_4)), (4, (.pointer (some ⟨g_5, 0, none⟩))), (6, (.bool x_c)), (7, (.pointer (some ⟨g_p, 0, none⟩))), (66, (.bool (g)))]) (fun g w' => y_v = (g) ∧ w_u = w') ?_ ?_
        ·
          apply go
          refine ev0 (rn_field rfl rfl FO24_0) ?_
          refine ev (rn_load rfl rfl (run_loadVar1 T3 (hp.cell (i := 0) (off := 0) rfl rfl))) ?_
          refine sel_of (fun hc => ?_) (fun hc => ?_)
          ·
            have q_w := cond_t q_w hc
            obtain rfl := Option.some.inj q_w
            exact ⟨true, (.c rfl (.c rfl (.c rfl (.c rfl (.c rfl (.c rfl .n)))))), rfl, rfl⟩
          ·
            have q_w := cond_f q_w hc
            refine ev0 (rn_field rfl rfl FO24_0) ?_
            refine ev (rn_load rfl rfl (run_loadVar1 T3 (hp.cell (i := 0) (off := 0) rfl rfl))) ?_
            refine ev0 (rn_neB rfl rfl rfl Tryd.underlying4) ?_
            obtain rfl := Option.some.inj q_w
            exact ⟨(!(x_c == (decide (x_m ≥ 3)))), (.c rfl (.c rfl (.c rfl (.c rfl (.c rfl (.c rfl .n)))))), rfl, rfl⟩
        ·
          rintro x_x _ ⟨hy, rfl⟩
          replace hy := hy.symm
          subst hy
          apply go
          refine sel_of (fun hc => ?_) (fun hc => ?_)
          ·
            have h := cond_t h hc
            apply go
            apply go
            refine ev0 (fun w => rn_build (cs := [(.int .i64 0), (.int .i64 0), (.int .i64 0), (.slice none 0 0)]) rfl rfl T24 PL24 rfl) ?_
            refine ev_storeA hp (i := 2) (off := 0) (vs := [(.int .i64 0), (.int .i64 0), (.int .i64 0), (.slice none 0 0)]) rfl rfl rfl rfl T24 rfl (Nat.le_of_ble_eq_true rfl) (ones_of rfl) ?_
            intro w_y hp hs
            replace tb := tb.step hs
            apply go
            obtain rfl := Option.some.inj h
            refine ⟨_, run_loadVarA T24 rfl (hp.at_ (i := 2) rfl), ?_⟩
            have hp := hp.sel [1] (by decide)
            exact ⟨I_g, (.slice none 0 0), [some (g_1, [(.string x_s), (.int .i64 x_d.nodes)], 51)], rfl, hp, RepS.nil _ _ _, rfl⟩
          ·
            have h := cond_f h hc
            apply go
            apply go
            apply go
            obtain ⟨y_z, q_10, h⟩ := bind_some h
            refine W.cut (γ := (ByteArray × Int × Int × Int × Bool × (Nat → Prop))) (fun g => [(0, (.pointer (some ⟨g_1, 0, none⟩))), (1, (.int .i64 x_4)), (4, (.pointer (some ⟨g_5, 0, none⟩))), (6, (.bool x_c)), (7, (.pointer (some ⟨g_p, 0, none⟩))), (8, (.bool (g.2.2.2.2.1)))]) (fun g w' => y_z = ((g.1), (g.2.1), (g.2.2.1), (g.2.2.2.1), (g.2.2.2.2.1)) ∧ Hp ⟨w0, I0, B⟩ (g.2.2.2.2.2) [some (g_1, [(.string (g.1)), (.int .i64 (g.2.1))], 51), some (g_5, [(.int .i64 0), (.int .i64 0), (.int .i64 0), (.slice none 0 0)], 24), some (g_p, [(.int .i64 x_m), (.int .i64 (g.2.2.1)), (.int .i64 (g.2.2.2.1)), (.slice none 0 0)], 24)] w' ∧ Tb w' (g.2.2.2.2.2) 1 .u64 pow10) ?_ ?_
            ·
              apply go
              apply go
              refine ev0 (rn_field rfl rfl FO24_0) ?_
              refine ev (rn_load rfl rfl (run_loadVar1 T3 (hp.cell (i := 0) (off := 0) rfl rfl))) ?_
              apply go
              obtain ⟨y_11, q_12, q_10⟩ := bind_some q_10
              refine W.cut (γ := Bool) (fun g => [(0, (.pointer (some ⟨g_1, 0, none⟩))), (1, (.int .i64 x_4)), (4, (.pointer (some ⟨g_5, 0, none⟩))), (6, (.bool x_c)), (7, (.pointer (some ⟨g_p, 0, none⟩))), (8, (.bool true)), (69, (.int .i64 x_m)), (70, (.bool (g)))]) (fun g w' => y_11 = (g) ∧ w_u = w') ?_ ?_
              ·
                apply go
                apply go
                apply go
                refine sel_of (fun hc => ?_) (fun hc => ?_)
                ·
                  have q_12 := cond_t q_12 hc
                  apply go
                  obtain rfl := Option.some.inj q_12
                  exact ⟨(x_m == 1), (.c rfl (.c rfl (.c rfl (.c rfl (.c rfl (.c rfl (.c rfl (.c rfl .n)))))))), rfl, rfl⟩
                ·
                  have q_12 := cond_f q_12 hc
                  apply go
                  obtain rfl := Option.some.inj q_12
                  exact ⟨(x_m == 2), (.c rfl (.c rfl (.c rfl (.c rfl (.c rfl (.c rfl (.c rfl (.c rfl .n)))))))), rfl, rfl⟩
              ·
                rintro x_13 _ ⟨hy, rfl⟩
                replace hy := hy.symm
                subst hy
                apply go
                refine sel_of (fun hc => ?_) (fun hc => ?_)
                ·
                  have q_10 := cond_t q_10 hc
                  apply go
                  obtain ⟨⟨x_14, x_15, x_16⟩, q_17, q_10⟩ := bind_some q_10
                  refine ev_call rfl rfl C40 (((tree_parser_number_ok n) _ _ tb (Parser.mk x_s x_d.nodes) g_1 [some (g_1, [(.string x_s), (.int .i64 x_d.nodes)], 51)] rfl (hp.lendL [1] (by decide)) _ q_17).mono ?_)
                  rintro _ w_18 ⟨I_19, F_1a, hv, hq6253, q_1b⟩
                  replace hv := hv.symm
                  subst hv
                  obtain rfl := q_1b
                  have hs := hq6253.st
                  have hp := hp.backL [1] [0, 2] (by decide) hq6253
                  replace tb := tb.step hs
                  refine ev0 (rn_field rfl rfl FO24_1) ?_
                  refine ev_store1 hp (i := 1) (off := 1) rfl rfl rfl rfl T3 rfl (Nat.le_of_ble_eq_true rfl) ?_
                  intro w_1c hp hs
                  replace tb := tb.step hs
                  obtain rfl := Option.some.inj q_10
                  have hp := hp.perm [0, 2, 1] (by decide)
                  exact ⟨(x_16.s, x_16.nodes, x_14, 0, x_15, I_19), (.c rfl (.c rfl (.c rfl (.c rfl (.c rfl (.c rfl .n)))))), rfl, hp, tb⟩
                ·
                  have q_10 := cond_f q_10 hc
                  obtain ⟨y_1d, q_1e, q_10⟩ := bind_some q_10
                  refine W.cut (γ := Bool) (fun g => [(0, (.pointer (some ⟨g_1, 0, none⟩))), (1, (.int .i64 x_4)), (4, (.pointer (some ⟨g_5, 0, none⟩))), (6, (.bool x_c)), (7, (.pointer (some ⟨g_p, 0, none⟩))), (8, (.bool true)), (79, (.bool (g)))]) (fun g w' => y_1d = (g) ∧ w_u = w') ?_ ?_
                  ·
                    apply go
                    apply go
                    apply go
                    refine sel_of (fun hc => ?_) (fun hc => ?_)
                    ·
                      have q_1e := cond_t q_1e hc
                      apply go
                      obtain rfl := Option.some.inj q_1e
                      exact ⟨(x_m == 5), (.c rfl (.c rfl (.c rfl (.c rfl (.c rfl (.c rfl (.c rfl .n))))))), rfl, rfl⟩
                    ·
                      have q_1e := cond_f q_1e hc
                      apply go
                      apply go
                      apply go
                      refine sel_of (fun hc => ?_) (fun hc => ?_)
                      ·
                        have q_1e := cond_t q_1e hc
                        apply go
                        obtain rfl := Option.some.inj q_1e
                        exact ⟨(x_m == 7), (.c rfl (.c rfl (.c rfl (.c rfl (.c rfl (.c rfl (.c rfl .n))))))), rfl, rfl⟩
                      ·
                        have q_1e := cond_f q_1e hc
                        apply go
                        obtain rfl := Option.some.inj q_1e
                        exact ⟨(x_m == 8), (.c rfl (.c rfl (.c rfl (.c rfl (.c rfl (.c rfl (.c rfl .n))))))), rfl, rfl⟩
                  ·
                    rintro x_1f _ ⟨hy, rfl⟩
                    replace hy := hy.symm
                    subst hy
                    apply go
                    refine sel_of (fun hc => ?_) (fun hc => ?_)
                    ·
                      have q_10 := cond_t q_10 hc
                      apply go
                      obtain ⟨⟨x_1g, x_1h, x_1i⟩, q_1j, q_10⟩ := bind_some q_10
                      refine ev_call rfl rfl C40 (((tree_parser_number_ok n) _ _ tb (Parser.mk x_s x_d.nodes) g_1 [some (g_1, [(.string x_s), (.int .i64 x_d.nodes)], 51)] rfl (hp.lendL [1] (by decide)) _ q_1j).mono ?_)
                      rintro _ w_1k ⟨I_1l, F_1m, hv, hq6266, q_1n⟩
                      replace hv := hv.symm
                      subst hv
                      obtain rfl := q_1n
                      have hs := hq6266.st
                      have hp := hp.backL [1] [0, 2] (by decide) hq6266
                      replace tb := tb.step hs
                      refine ev0 (rn_field rfl rfl FO24_2) ?_
                      refine ev_store1 hp (i := 1) (off := 2) rfl rfl rfl rfl T3 rfl (Nat.le_of_ble_eq_true rfl) ?_
                      intro w_1o hp hs
                      replace tb := tb.step hs
                      obtain rfl := Option.some.inj q_10
                      have hp := hp.perm [0, 2, 1] (by decide)
                      exact ⟨(x_1i.s, x_1i.nodes, 0, x_1g, x_1h, I_1l), (.c rfl (.c rfl (.c rfl (.c rfl (.c rfl (.c rfl .n)))))), rfl, hp, tb⟩
                    ·
                      have q_10 := cond_f q_10 hc
                      apply go
                      obtain rfl := Option.some.inj q_10
                      have hp := hp.perm [1, 2, 0] (by decide)
                      exact ⟨(x_s, x_d.nodes, 0, 0, true, I_g), (.c rfl (.c rfl (.c rfl (.c rfl (.c rfl (.c rfl .n)))))), rfl, hp, tb⟩
            ·
              rintro ⟨x_1p, x_1q, x_1r, x_1s, x_1t, I_1u⟩ w_1v ⟨hy, hp, tb⟩
              replace hy := hy.symm
              subst hy
              obtain ⟨y_1w, q_1x, h⟩ := bind_some h
              refine W.cut (γ := (ByteArray × Int × (List Node) × Bool × Value × Ent × (Nat → Prop))) (fun g => [(0, (.pointer (some ⟨g_1, 0, none⟩))), (4, (.pointer (some ⟨g_5, 0, none⟩))), (6, (.bool x_c)), (7, (.pointer (some ⟨g_p, 0, none⟩))), (8, (.bool (g.2.2.2.1)))]) (fun g w' => y_1w = ((g.1), (g.2.1), (g.2.2.1), (g.2.2.2.1)) ∧ Hp ⟨w0, I0, B⟩ (g.2.2.2.2.2.2) [some (g_1, [(.string (g.1)), (.int .i64 (g.2.1))], 51), some (g_5, [(.int .i64 0), (.int .i64 0), (.int .i64 0), (.slice none 0 0)], 24), (g.2.2.2.2.2.1), some (g_p, [(.int .i64 x_m), (.int .i64 x_1r), (.int .i64 x_1s), (g.2.2.2.2.1)], 24)] w' ∧ OwnS dNode 24 w' (g.2.2.2.2.2.2) (g.2.2.2.2.1) (g.2.2.2.2.2.1) (g.2.2.1) ∧ Tb w' (g.2.2.2.2.2.2) 1 .u64 pow10) ?_ ?_
              ·
                apply go
                have hp := hp.none_
                have o_1y := OwnS.nil dNode 24 w_1v I_1u
                have hp := hp.perm [1, 2, 0, 3] (by decide)
                refine W.loop q_1x (γ := (Value × Ent × (Nat → Prop))) (fun s g => [(0, (.pointer (some ⟨g_1, 0, none⟩))), (1, (.int .i64 x_4)), (4, (.pointer (some ⟨g_5, 0, none⟩))), (6, (.bool x_c)), (7, (.pointer (some ⟨g_p, 0, none⟩))), (8, (.bool (s.2.2.2)))]) (fun s g w' => Hp ⟨w0, I0, B⟩ (g.2.2) [some (g_1, [(.string (s.1)), (.int .i64 (s.2.1))], 51), some (g_5, [(.int .i64 0), (.int .i64 0), (.int .i64 0), (.slice none 0 0)], 24), (g.2.1), some (g_p, [(.int .i64 x_m), (.int .i64 x_1r), (.int .i64 x_1s), (g.1)], 24)] w' ∧ OwnS dNode 24 w' (g.2.2) (g.1) (g.2.1) (s.2.2.1) ∧ Tb w' (g.2.2) 1 .u64 pow10) ((.slice none 0 0), none, I_1u) (.c rfl (.c rfl (.c rfl (.c rfl (.c rfl (.c rfl .n)))))) ⟨hp, o_1y, tb⟩ ?_
                rintro ⟨x_1z, x_20, x_21, x_22⟩ ⟨v_23, e_24, I_25⟩ w_26 y_27 ⟨hp, o_28, tb⟩ q_29 q_2a
                unfold tree_parser_node_L1 at q_29
                apply go
                obtain ⟨y_2b, q_2c, q_29⟩ := bind_some q_29
                refine W.cut (γ := (ByteArray × Int × Bool × (Nat → Prop))) (fun g => [(0, (.pointer (some ⟨g_1, 0, none⟩))), (1, (.int .i64 x_4)), (4, (.pointer (some ⟨g_5, 0, none⟩))), (6, (.bool x_c)), (7, (.pointer (some ⟨g_p, 0, none⟩))), (8, (.bool x_22)), (96, (.bool (g.2.2.1)))]) (fun g w' => y_2b = ((g.1), (g.2.1), (g.2.2.1)) ∧ Hp ⟨w0, I0, B⟩ (g.2.2.2) [some (g_1, [(.string (g.1)), (.int .i64 (g.2.1))], 51), some (g_5, [(.int .i64 0), (.int .i64 0), (.int .i64 0), (.slice none 0 0)], 24), e_24, some (g_p, [(.int .i64 x_m), (.int .i64 x_1r), (.int .i64 x_1s), v_23], 24)] w' ∧ OwnS dNode 24 w' (g.2.2.2) v_23 e_24 x_21 ∧ Tb w' (g.2.2.2) 1 .u64 pow10) ?_ ?_
                ·
                  apply go
                  refine sel_of (fun hc => ?_) (fun hc => ?_)
                  ·
                    have q_2c := cond_t q_2c hc
                    refine sel_of (fun hc => ?_) (fun hc => ?_)
                    ·
                      have q_2c := cond_t q_2c hc
                      obtain ⟨⟨x_2d, x_2e⟩, q_2f, q_2c⟩ := bind_some q_2c
                      refine ev_call rfl rfl C38 (((tree_parser_take_ok n) _ _  (Parser.mk x_1z x_20) g_1 [some (g_1, [(.string x_1z), (.int .i64 x_20)], 51)] rfl 32 (hp.lendL [0] (by decide)) _ q_2f).mono ?_)
                      rintro _ w_2g ⟨I_2h, F_2i, hv, hq6606, q_2j⟩
                      replace hv := hv.symm
                      subst hv
                      obtain rfl := q_2j
                      have hs := hq6606.st
                      have hp := hp.backL [0] [1, 2, 3] (by decide) hq6606
                      replace o_28 := o_28.step hs
                      replace tb := tb.step hs
                      obtain rfl := Option.some.inj q_2c
                      exact ⟨(x_2e.s, x_2e.nodes, x_2d, I_2h), (.c rfl (.c rfl (.c rfl (.c rfl (.c rfl (.c rfl (.c rfl .n))))))), rfl, hp, o_28, tb⟩
                    ·
                      have q_2c := cond_f q_2c hc
                      obtain rfl := Option.some.inj q_2c
                      exact ⟨(x_1z, x_20, false, I_25), (.c rfl (.c rfl (.c rfl (.c rfl (.c rfl (.c rfl (.c rfl .n))))))), rfl, hp, o_28, tb⟩
                  ·
                    have q_2c := cond_f q_2c hc
                    obtain rfl := Option.some.inj q_2c
                    exact ⟨(x_1z, x_20, false, I_25), (.c rfl (.c rfl (.c rfl (.c rfl (.c rfl (.c rfl (.c rfl .n))))))), rfl, hp, o_28, tb⟩
                ·
                  rintro ⟨x_2k, x_2l, x_2m, I_2n⟩ w_2o ⟨hy, hp, o_28, tb⟩
                  replace hy := hy.symm
                  subst hy
                  apply go
                  refine sel_of (fun hc => ?_) (fun hc => ?_)
                  ·
                    have q_29 := cond_t q_29 hc
                    apply go
                    apply go
                    apply go
                    apply go
                    refine ev_alloc hp rfl T24 ?_
                    intro g_2p w_2q hp hs
                    replace o_28 := o_28.step hs
                    replace tb := tb.step hs
                    apply go
                    apply go
                    obtain ⟨⟨x_2r, x_2s, x_2t⟩, q_2u, q_29⟩ := bind_some q_29
                    refine ev_call rfl rfl C23 ((ih _ _ tb (Parser.mk x_2k x_2l) g_1 [some (g_1, [(.string x_2k), (.int .i64 x_2l)], 51)] rfl (IntKind.i64.wrap (x_4 - 1)) (hp.lendL [1] (by decide)) _ q_2u).mono ?_)
                    rintro _ w_2v ⟨I_2w, v_2x, F_2y, hv, hq6619, r_2z, q_30⟩
                    replace hv := hv.symm
                    subst hv
                    obtain rfl := q_30
                    have hs := hq6619.st
                    have hp := hp.backL [1] [0, 2, 3, 4] (by decide) hq6619
                    replace o_28 := o_28.step hs
                    replace tb := tb.step hs
                    refine ev_storeA hp (i := 1) (off := 0) (vs := [(.int .i64 x_2r.Kind), (.int .i64 x_2r.Name), (.int .i64 x_2r.Count), v_2x]) rfl rfl rfl rfl T24 rfl (Nat.le_of_ble_eq_true rfl) (ones_cons rfl (ones_cons rfl (ones_cons rfl (ones_cons r_2z.one ones_nil)))) ?_
                    intro w_31 hp hs
                    replace r_2z := r_2z.step hs
                    replace o_28 := o_28.step hs
                    replace tb := tb.step hs
                    apply go
                    apply go
                    apply go
                    refine sel_of (fun hc => ?_) (fun hc => ?_)
                    ·
                      have q_29 := cond_t q_29 hc
                      apply go
                      refine ev0 (rn_field rfl rfl FO24_3) ?_
                      refine ev (rn_load rfl rfl (run_loadVar1 T22 (hp.cell (i := 4) (off := 3) rfl rfl))) ?_
                      refine ev (rn_load rfl rfl (run_loadVarA T24 rfl (hp.at_ (i := 1) rfl))) ?_
                      obtain ⟨A_32, m_33, m_34, rfl⟩ := r_2z.isSl
                      refine ev_litN (d := dNode) (xs := [(Node.mk x_2r.Kind x_2r.Name x_2r.Count x_2r.Kids)]) (cs := [(.int .i64 x_2r.Kind), (.int .i64 x_2r.Name), (.int .i64 x_2r.Count), (.slice A_32 m_33 m_34)]) hp rfl rfl Tryd.underlying22 T24 (by decide) rfl rfl (Elems.cons (d := dNode) (xs := _) (dNode_m (x := (Node.mk x_2r.Kind x_2r.Name x_2r.Count x_2r.Kids)) r_2z) (Elems.nil _ _ _ _)) ?_
                      intro v_35 I_36 w_37 hp hs r_38
                      replace o_28 := o_28.step hs
                      replace r_2z := r_2z.step hs
                      replace tb := tb.step hs
                      obtain ⟨x_39, q_3a, q_29⟩ := bind_some q_29
                      refine ev_append hp (i := 3) rfl rfl rfl rfl Tryd.underlying22 T24 rfl rfl o_28 r_38 q_3a ?_
                      rintro v_3b e_3c w_3d hp hs o_3e
                      replace r_2z := r_2z.step hs
                      replace o_28 := o_28.step hs
                      replace tb := tb.step hs
                      refine ev0 (rn_field rfl rfl FO24_3) ?_
                      refine ev_store1 hp (i := 4) (off := 3) rfl rfl rfl rfl T22 o_3e.one (Nat.le_of_ble_eq_true rfl) ?_
                      intro w_3f hp hs
                      replace r_2z := r_2z.step hs
                      replace o_3e := o_3e.step hs
                      replace tb := tb.step hs
                      have hp := hp.sel [0, 2, 3, 4] (by decide)
                      exact ⟨_, (Option.some.inj q_29).symm, (v_3b, e_3c, I_36), (.c rfl (.c rfl (.c rfl (.c rfl (.c rfl (.c rfl .n)))))), ⟨hp, o_3e, tb⟩⟩
                    ·
                      have q_29 := cond_f q_29 hc
                      apply go
                      have hp := hp.sel [0, 2, 3, 4] (by decide)
                      exact ⟨_, (Option.some.inj q_29).symm, (v_23, e_24, I_2w), (.c rfl (.c rfl (.c rfl (.c rfl (.c rfl (.c rfl .n)))))), ⟨hp, o_28, tb⟩⟩
                  ·
                    have q_29 := cond_f q_29 hc
                    apply go
                    have q_3g := congrArg some (q_2a _ (Option.some.inj q_29).symm)
                    obtain rfl := Option.some.inj q_3g
                    exact ⟨(x_2k, x_2l, x_21, x_22, v_23, e_24, I_2n), (.c rfl (.c rfl (.c rfl (.c rfl (.c rfl .n))))), rfl, hp, o_28, tb⟩
              ·
                rintro ⟨x_3h, x_3i, x_3j, x_3k, v_3l, e_3m, I_3n⟩ w_3o ⟨hy, hp, o_3p, tb⟩
                replace hy := hy.symm
                subst hy
                obtain ⟨y_3q, q_3r, h⟩ := bind_some h
                refine W.cut (γ := (Int × Int × Int × (List Node) × Bool × ByteArray × Int × Value × Ent × (Nat → Prop))) (fun g => [(4, (.pointer (some ⟨g_5, 0, none⟩))), (5, (.bool (g.2.2.2.2.1)))]) (fun g w' => y_3q = ((g.1), (g.2.1), (g.2.2.1), (g.2.2.2.1), (g.2.2.2.2.1), (g.2.2.2.2.2.1), (g.2.2.2.2.2.2.1)) ∧ Hp ⟨w0, I0, B⟩ (g.2.2.2.2.2.2.2.2.2) [(g.2.2.2.2.2.2.2.2.1), some (g_5, [(.int .i64 (g.1)), (.int .i64 (g.2.1)), (.int .i64 (g.2.2.1)), (g.2.2.2.2.2.2.2.1)], 24), some (g_1, [(.string (g.2.2.2.2.2.1)), (.int .i64 (g.2.2.2.2.2.2.1))], 51)] w' ∧ OwnS dNode 24 w' (g.2.2.2.2.2.2.2.2.2) (g.2.2.2.2.2.2.2.1) (g.2.2.2.2.2.2.2.2.1) (g.2.2.2.1) ∧ Tb w' (g.2.2.2.2.2.2.2.2.2) 1 .u64 pow10) ?_ ?_
                ·
                  have hs := hp.stp (Ch.drew [] w_3o)
                  have hp := hp.drew
                  replace o_3p := o_3p.step hs
                  replace tb := tb.step hs
                  refine W.held [(0, true), (1, true), (2, true), (3, true), (4, true), (5, true), (6, true), (7, false), (8, true), (9, true), (10, false), (11, true)] (fun x => Stp I_3n w_3o.drew I_3n x ∧ OwnK [(g_p, [(.int .i64 x_m), (.int .i64 x_1r), (.int .i64 x_1s), v_3l], 24)] x) MX (by kernel_rfl) ⟨Stp.refl _ _, (OwnK.cons (hp.own 3 _ _ _ rfl).1 OwnK.nil)⟩ ?_
                  have hz := Stp.refl I_3n w_3o.drew
                  refine evh (fun w' hw => rn_load rfl rfl (run_loadVarA T24 rfl (hw.2.at_ (i := 0) rfl))) ?_
                  refine sel_of (fun hc => ?_) (fun hc => ?_)
                  ·
                    have q_3r := cond_t q_3r hc
                    refine sel_of (fun hc => ?_) (fun hc => ?_)
                    ·
                      have q_3r := cond_t q_3r hc
                      refine ⟨fun x => Stp I_3n w_3o.drew I_3n x ∧ OwnK [(g_p, [(.int .i64 x_m), (.int .i64 x_1r), (.int .i64 x_1s), v_3l], 24)] x, ⟨Stp.refl _ _, (OwnK.cons (hp.own 3 _ _ _ rfl).1 OwnK.nil)⟩, fun x hx => ⟨hz.held hx.1, hx.2⟩, ?_⟩
                      have hz := Stp.refl I_3n w_3o.drew
                      refine ev_storeA hp (i := 1) (off := 0) (vs := [(.int .i64 x_m), (.int .i64 x_1r), (.int .i64 x_1s), v_3l]) rfl rfl rfl rfl T24 rfl (Nat.le_of_ble_eq_true rfl) (ones_cons rfl (ones_cons rfl (ones_cons rfl (ones_cons o_3p.one ones_nil)))) ?_
                      intro w_3s hp hs
                      replace hz := hz.trans hs
                      replace o_3p := o_3p.step hs
                      replace tb := tb.step hs
                      refine ⟨fun x => Stp I_3n w_3s I_3n x ∧ OwnK [(g_p, [(.int .i64 x_m), (.int .i64 x_1r), (.int .i64 x_1s), v_3l], 24)] x, ⟨Stp.refl _ _, (OwnK.cons (hp.own 3 _ _ _ rfl).1 OwnK.nil)⟩, fun x hx => ⟨hz.held hx.1, hx.2⟩, ?_⟩
                      have hz := Stp.refl I_3n w_3s
                      obtain rfl := Option.some.inj q_3r
                      have hp := hp.perm [2, 1, 0] (by decide)
                      exact ⟨(x_m, x_1r, x_1s, x_3j, true, x_3h, x_3i, v_3l, e_3m, I_3n), (.c rfl (.c rfl .n)), rfl, hp, o_3p, tb⟩
                    ·
                      have q_3r := cond_f q_3r hc
                      obtain ⟨⟨x_3t, x_3u⟩, q_3v, q_3r⟩ := bind_some q_3r
                      refine ev_call rfl rfl C38 (((tree_parser_take_ok n) _ _  (Parser.mk x_3h x_3i) g_1 [some (g_1, [(.string x_3h), (.int .i64 x_3i)], 51)] rfl 41 (hp.lendL [0] (by decide)) _ q_3v).mono ?_)
                      rintro _ w_3w ⟨I_3x, F_3y, hv, hq6692, q_3z⟩
                      replace hv := hv.symm
                      subst hv
                      obtain rfl := q_3z
                      have hs := hq6692.st
                      have hp := hp.backL [0] [1, 2, 3] (by decide) hq6692
                      replace hz := hz.trans hs
                      replace o_3p := o_3p.step hs
                      replace tb := tb.step hs
                      refine ⟨fun x => Stp I_3x w_3w I_3x x ∧ OwnK [(g_p, [(.int .i64 x_m), (.int .i64 x_1r), (.int .i64 x_1s), v_3l], 24)] x, ⟨Stp.refl _ _, (OwnK.cons (hp.own 3 _ _ _ rfl).1 OwnK.nil)⟩, fun x hx => ⟨hz.held hx.1, hx.2⟩, ?_⟩
                      have hz := Stp.refl I_3x w_3w
                      refine ev_storeA hp (i := 1) (off := 0) (vs := [(.int .i64 x_m), (.int .i64 x_1r), (.int .i64 x_1s), v_3l]) rfl rfl rfl rfl T24 rfl (Nat.le_of_ble_eq_true rfl) (ones_cons rfl (ones_cons rfl (ones_cons rfl (ones_cons o_3p.one ones_nil)))) ?_
                      intro w_40 hp hs
                      replace hz := hz.trans hs
                      replace o_3p := o_3p.step hs
                      replace tb := tb.step hs
                      refine ⟨fun x => Stp I_3x w_40 I_3x x ∧ OwnK [(g_p, [(.int .i64 x_m), (.int .i64 x_1r), (.int .i64 x_1s), v_3l], 24)] x, ⟨Stp.refl _ _, (OwnK.cons (hp.own 3 _ _ _ rfl).1 OwnK.nil)⟩, fun x hx => ⟨hz.held hx.1, hx.2⟩, ?_⟩
                      have hz := Stp.refl I_3x w_40
                      obtain rfl := Option.some.inj q_3r
                      have hp := hp.perm [2, 1, 0] (by decide)
                      exact ⟨(x_m, x_1r, x_1s, x_3j, x_3t, x_3u.s, x_3u.nodes, v_3l, e_3m, I_3x), (.c rfl (.c rfl .n)), rfl, hp, o_3p, tb⟩
                  ·
                    have q_3r := cond_f q_3r hc
                    refine ⟨fun x => Stp I_3n w_3o.drew I_3n x ∧ OwnK [(g_p, [(.int .i64 x_m), (.int .i64 x_1r), (.int .i64 x_1s), v_3l], 24)] x, ⟨Stp.refl _ _, (OwnK.cons (hp.own 3 _ _ _ rfl).1 OwnK.nil)⟩, fun x hx => ⟨hz.held hx.1, hx.2⟩, ?_⟩
                    have hz := Stp.refl I_3n w_3o.drew
                    refine ev_storeA hp (i := 1) (off := 0) (vs := [(.int .i64 x_m), (.int .i64 x_1r), (.int .i64 x_1s), v_3l]) rfl rfl rfl rfl T24 rfl (Nat.le_of_ble_eq_true rfl) (ones_cons rfl (ones_cons rfl (ones_cons rfl (ones_cons o_3p.one ones_nil)))) ?_
                    intro w_41 hp hs
                    replace hz := hz.trans hs
                    replace o_3p := o_3p.step hs
                    replace tb := tb.step hs
                    refine ⟨fun x => Stp I_3n w_41 I_3n x ∧ OwnK [(g_p, [(.int .i64 x_m), (.int .i64 x_1r), (.int .i64 x_1s), v_3l], 24)] x, ⟨Stp.refl _ _, (OwnK.cons (hp.own 3 _ _ _ rfl).1 OwnK.nil)⟩, fun x hx => ⟨hz.held hx.1, hx.2⟩, ?_⟩
                    have hz := Stp.refl I_3n w_41
                    obtain rfl := Option.some.inj q_3r
                    have hp := hp.perm [2, 1, 0] (by decide)
                    exact ⟨(x_m, x_1r, x_1s, x_3j, false, x_3h, x_3i, v_3l, e_3m, I_3n), (.c rfl (.c rfl .n)), rfl, hp, o_3p, tb⟩
                ·
                  rintro ⟨x_42, x_43, x_44, x_45, x_46, x_47, x_48, v_49, e_4a, I_4b⟩ w_4c ⟨hy, hp, o_4d, tb⟩
                  replace hy := hy.symm
                  subst hy
                  apply go
                  obtain rfl := Option.some.inj h
                  have r_4e := o_4d.frz hp (i := 0) rfl
                  obtain ⟨hp, hs⟩ := freeze_hp hp (i := 0) rfl
                  replace tb := tb.step hs
                  have hp := hp.sel [1, 2] (by decide)
                  refine ⟨_, run_loadVarA T24 rfl (hp.at_ (i := 0) rfl), ?_⟩
                  have hp := hp.sel [1] (by decide)
                  exact ⟨(Ad I_4b e_4a), v_49, [some (g_1, [(.string x_47), (.int .i64 x_48)], 51)], rfl, hp, r_4e, rfl⟩
theorem tree_parser_node_ok : ∀ n, tree_parser_node_S (tree_parser_node n)
  | 0 => by intro w0 I0 tb x_0 g_1 E_2 q_3 x_4 hp r h; cases h
  | n + 1 => tree_parser_node_F_ok n _ (tree_parser_node_ok n)

end Go.Proofs.YtknnmbcaoekgmaaDoor

namespace Go.Proofs.YtknnmbcaoekgmaaDoor
open Go Go.Proofs.YtknnmbcaoekgmaaDoor.Gw Go.RowKit
set_option linter.unusedVariables false
attribute [local irreducible] Ev EvQ EvS EvH
def tree_Parse_S (f : ByteArray → Option (Node × Int)) : Prop := ∀ (w0 : World) (I0 : Nat → Prop) (tb : Tb w0 I0 1 .u64 pow10) (x_0 : ByteArray) (hI : ∀ g, I0 g → g < w0.heap.size) (r : (Node × Int)), f x_0 = some r →
    Ret Tryd.prog 9 #[(.string x_0)] w0 fun v w1 => ∃ (I1 : Nat → Prop) (u_1 : Value), v = (.tuple #[(.agg #[(.int .i64 r.1.Kind), (.int .i64 r.1.Name), (.int .i64 r.1.Count), u_1]), (.int .i64 r.2)]) ∧ Hp ⟨w0, I0, []⟩ I1 [] w1 ∧ RepS dNode w1 I1 u_1 r.1.Kids
theorem tree_Parse_ok (n : Nat) : tree_Parse_S (tree_Parse n) := by
  intro w0 I0 tb x_0 hI r h
  unfold tree_Parse at h
  refine enter Tryd.func9 rfl (Nat.le_of_ble_eq_true rfl) ?_
  have hp : Hp ⟨w0, I0, []⟩ I0 [] w0 := Hp.start hI
  apply go
  apply go
  refine ev_alloc hp rfl T24 ?_
  intro g_1 w_2 hp hs
  replace tb := tb.step hs
  apply go
  apply go
  apply go
  refine ev0 (rn_lenS rfl rfl Tryd.underlying9) ?_
  apply go
  refine sel_of (fun hc => ?_) (fun hc => ?_)
  ·
    have h := cond_t h hc
    apply go
    apply go
    refine ev0 (fun w => rn_build (cs := [(.int .i64 0), (.int .i64 0), (.int .i64 0), (.slice none 0 0)]) rfl rfl T24 PL24 rfl) ?_
    refine ev_storeA hp (i := 0) (off := 0) (vs := [(.int .i64 0), (.int .i64 0), (.int .i64 0), (.slice none 0 0)]) rfl rfl rfl rfl T24 rfl (Nat.le_of_ble_eq_true rfl) (ones_of rfl) ?_
    intro w_3 hp hs
    replace tb := tb.step hs
    apply go
    obtain rfl := Option.some.inj h
    refine ⟨_, run_loadVarA T24 rfl (hp.at_ (i := 0) rfl), ?_⟩
    have hp := hp.sel [] (by decide)
    exact ⟨I0, .slice none 0 0, rfl, hp, RepS.nil _ _ _⟩
  ·
    have h := cond_f h hc
    apply go
    apply go
    apply go
    refine ev0 (fun w => rn_build (cs := [(.string x_0), (.int .i64 0)]) rfl rfl T51 PL51 rfl) ?_
    refine ev_box hp rfl rfl ?_
    intro g_4 w_5 hp hs
    replace tb := tb.step hs
    apply go
    apply go
    obtain ⟨⟨x_6, x_7, x_8⟩, q_9, h⟩ := bind_some h
    refine ev_call rfl rfl C23 (((tree_parser_node_ok n) _ _ tb (Parser.mk x_0 0) g_4 [some (g_4, [(.string x_0), (.int .i64 0)], 51)] rfl 16 (hp.lendL [0] (by decide)) _ q_9).mono ?_)
    rintro _ w_a ⟨I_b, v_c, F_d, hv, hq6713, r_e, q_f⟩
    replace hv := hv.symm
    subst hv
    obtain rfl := q_f
    have hs := hq6713.st
    have hp := hp.backL [0] [1] (by decide) hq6713
    replace tb := tb.step hs
    refine ev_alloc hp rfl T24 ?_
    intro g_g w_h hp hs
    replace r_e := r_e.step hs
    replace tb := tb.step hs
    refine ev_storeA hp (i := 0) (off := 0) (vs := [(.int .i64 x_6.Kind), (.int .i64 x_6.Name), (.int .i64 x_6.Count), v_c]) rfl rfl rfl rfl T24 rfl (Nat.le_of_ble_eq_true rfl) (ones_cons rfl (ones_cons rfl (ones_cons rfl (ones_cons r_e.one ones_nil)))) ?_
    intro w_i hp hs
    replace r_e := r_e.step hs
    replace tb := tb.step hs
    apply go
    obtain ⟨y_j, q_k, h⟩ := bind_some h
    refine W.cut (γ := Bool) (fun g => [(2, (.pointer (some ⟨g_1, 0, none⟩))), (5, (.pointer (some ⟨g_g, 0, none⟩))), (32, (.bool (g)))]) (fun g w' => y_j = (g) ∧ Hp ⟨w0, I0, []⟩ I_b [some (g_1, [(.int .i64 0), (.int .i64 0), (.int .i64 0), (.slice none 0 0)], 24), some (g_g, [(.int .i64 x_6.Kind), (.int .i64 x_6.Name), (.int .i64 x_6.Count), v_c], 24)] w' ∧ RepS dNode w' I_b v_c x_6.Kids ∧ Tb w' I_b 1 .u64 pow10) ?_ ?_
    ·
      apply go
      refine sel_of (fun hc => ?_) (fun hc => ?_)
      ·
        have q_k := cond_t q_k hc
        obtain rfl := Option.some.inj q_k
        have hp := hp.perm [2, 0] (by decide)
        exact ⟨true, (.c rfl (.c rfl (.c rfl .n))), rfl, hp, r_e, tb⟩
      ·
        have q_k := cond_f q_k hc
        refine ev0 (rn_field rfl rfl FO51_0) ?_
        refine ev (rn_load rfl rfl (run_loadVar1 T9 (hp.cell (i := 1) (off := 0) rfl rfl))) ?_
        refine sel_of (fun hc => ?_) (fun hc => ?_)
        ·
          have q_k := cond_t q_k hc
          obtain rfl := Option.some.inj q_k
          have hp := hp.perm [2, 0] (by decide)
          exact ⟨true, (.c rfl (.c rfl (.c rfl .n))), rfl, hp, r_e, tb⟩
        ·
          have q_k := cond_f q_k hc
          refine ev (rn_load rfl rfl (run_loadVarA T24 rfl (hp.at_ (i := 0) rfl))) ?_
          obtain ⟨x_l, q_m, q_k⟩ := bind_some q_k
          refine ev_call rfl rfl C19 (((tree_Valid_ok n) _ _  (Node.mk x_6.Kind x_6.Name x_6.Count x_6.Kids) v_c r_e hp.imm _ q_m).mono ?_)
          rintro _ w_n ⟨rfl, hc⟩
          have hs := hp.stp hc
          replace hp := hp.ext hc
          replace r_e := r_e.step hs
          replace tb := tb.step hs
          obtain rfl := Option.some.inj q_k
          have hp := hp.perm [2, 0] (by decide)
          exact ⟨(!x_l), (.c rfl (.c rfl (.c rfl .n))), rfl, hp, r_e, tb⟩
    ·
      rintro x_o w_p ⟨hy, hp, r_e, tb⟩
      replace hy := hy.symm
      subst hy
      apply go
      refine sel_of (fun hc => ?_) (fun hc => ?_)
      ·
        have h := cond_t h hc
        apply go
        apply go
        refine ev0 (fun w => rn_build (cs := [(.int .i64 0), (.int .i64 0), (.int .i64 0), (.slice none 0 0)]) rfl rfl T24 PL24 rfl) ?_
        refine ev_storeA hp (i := 0) (off := 0) (vs := [(.int .i64 0), (.int .i64 0), (.int .i64 0), (.slice none 0 0)]) rfl rfl rfl rfl T24 rfl (Nat.le_of_ble_eq_true rfl) (ones_of rfl) ?_
        intro w_q hp hs
        replace r_e := r_e.step hs
        replace tb := tb.step hs
        apply go
        obtain rfl := Option.some.inj h
        refine ⟨_, run_loadVarA T24 rfl (hp.at_ (i := 0) rfl), ?_⟩
        have hp := hp.sel [] (by decide)
        exact ⟨I_b, .slice none 0 0, rfl, hp, RepS.nil _ _ _⟩
      ·
        have h := cond_f h hc
        apply go
        apply go
        apply go
        refine ev (rn_load rfl rfl (run_loadVarA T24 rfl (hp.at_ (i := 1) rfl))) ?_
        refine ev_storeA hp (i := 0) (off := 0) (vs := [(.int .i64 x_6.Kind), (.int .i64 x_6.Name), (.int .i64 x_6.Count), v_c]) rfl rfl rfl rfl T24 rfl (Nat.le_of_ble_eq_true rfl) (ones_cons rfl (ones_cons rfl (ones_cons rfl (ones_cons r_e.one ones_nil)))) ?_
        intro w_r hp hs
        replace r_e := r_e.step hs
        replace tb := tb.step hs
        apply go
        obtain rfl := Option.some.inj h
        refine ⟨_, run_loadVarA T24 rfl (hp.at_ (i := 0) rfl), ?_⟩
        have hp := hp.sel [] (by decide)
        exact ⟨I_b, v_c, rfl, hp, r_e⟩

end Go.Proofs.YtknnmbcaoekgmaaDoor

namespace Go.Proofs.YtknnmbcaoekgmaaDoor
open Go Go.Proofs.YtknnmbcaoekgmaaDoor.Gw Go.RowKit
set_option linter.unusedVariables false
attribute [local irreducible] Ev EvQ EvS EvH
def ref41_Same_S (f : Node → Node → Option Bool) : Prop := ∀ (w0 : World) (I0 : Nat → Prop) (x_0 : Node) (v_1 : Value) (r_2 : RepS dNode w0 I0 v_1 x_0.Kids) (x_3 : Node) (v_4 : Value) (r_5 : RepS dNode w0 I0 v_4 x_3.Kids) (hI : ∀ g, I0 g → g < w0.heap.size) (r : Bool), f x_0 x_3 = some r →
    Ret Tryd.prog 11 #[(.agg #[(.int .i64 x_0.Kind), (.int .i64 x_0.Name), (.int .i64 x_0.Count), v_1]), (.agg #[(.int .i64 x_3.Kind), (.int .i64 x_3.Name), (.int .i64 x_3.Count), v_4])] w0 fun v w1 => v = (.bool r) ∧ Ch [] w0 w1
theorem ref41_Same_F_ok (n : Nat) (self : Node → Node → Option Bool) (ih : ref41_Same_S self) : ref41_Same_S (ref41_Same_F n self) := by
  intro w0 I0 x_0 v_1 r_2 x_3 v_4 r_5 hI r h
  unfold ref41_Same_F at h
  refine enter Tryd.func11 rfl (Nat.le_of_ble_eq_true rfl) ?_
  have hp : Hp ⟨w0, I0, []⟩ I0 [] w0 := Hp.start hI
  apply go
  apply go
  refine ev_boxI hp rfl rfl ?_
  intro p_6 I_7 w_8 hp hs a_9
  replace r_5 := r_5.step hs
  replace r_2 := r_2.step hs
  refine ev_boxI hp rfl rfl ?_
  intro p_a I_b w_c hp hs a_d
  replace a_9 := a_9.step hs
  replace r_2 := r_2.step hs
  replace r_5 := r_5.step hs
  apply go
  obtain ⟨y_e, q_f, h⟩ := bind_some h
  refine W.cut (γ := Bool) (fun g => [(2, (.pointer (some (p_6)))), (3, (.pointer (some (p_a)))), (33, (.bool (g)))]) (fun g w' => y_e = (g) ∧ w_c = w') ?_ ?_
  ·
    apply go
    refine ev0 (rn_field rfl rfl FO24_0) ?_
    refine ev (rn_load rfl rfl (run_loadVar1 T3 (a_9.2 0 _ rfl))) ?_
    refine ev0 (rn_field rfl rfl FO24_0) ?_
    refine ev (rn_load rfl rfl (run_loadVar1 T3 (a_d.2 0 _ rfl))) ?_
    refine sel_of (fun hc => ?_) (fun hc => ?_)
    ·
      have q_f := cond_t q_f hc
      obtain rfl := Option.some.inj q_f
      exact ⟨true, (.c rfl (.c rfl (.c rfl .n))), rfl, rfl⟩
    ·
      have q_f := cond_f q_f hc
      refine ev0 (rn_field rfl rfl FO24_1) ?_
      refine ev (rn_load rfl rfl (run_loadVar1 T3 (a_9.2 1 _ rfl))) ?_
      refine ev0 (rn_field rfl rfl FO24_1) ?_
      refine ev (rn_load rfl rfl (run_loadVar1 T3 (a_d.2 1 _ rfl))) ?_
      refine sel_of (fun hc => ?_) (fun hc => ?_)
      ·
        have q_f := cond_t q_f hc
        obtain rfl := Option.some.inj q_f
        exact ⟨true, (.c rfl (.c rfl (.c rfl .n))), rfl, rfl⟩
      ·
        have q_f := cond_f q_f hc
        refine ev0 (rn_field rfl rfl FO24_2) ?_
        refine ev (rn_load rfl rfl (run_loadVar1 T3 (a_9.2 2 _ rfl))) ?_
        refine ev0 (rn_field rfl rfl FO24_2) ?_
        refine ev (rn_load rfl rfl (run_loadVar1 T3 (a_d.2 2 _ rfl))) ?_
        refine sel_of (fun hc => ?_) (fun hc => ?_)
        ·
          have q_f := cond_t q_f hc
          obtain rfl := Option.some.inj q_f
          exact ⟨true, (.c rfl (.c rfl (.c rfl .n))), rfl, rfl⟩
        ·
          have q_f := cond_f q_f hc
          refine ev0 (rn_field rfl rfl FO24_3) ?_
          refine ev (rn_load rfl rfl (run_loadVar1 T22 (a_9.2 3 _ rfl))) ?_
          refine ev0 (rn_len rfl rfl Tryd.underlying22 r_2) ?_
          refine ev0 (rn_field rfl rfl FO24_3) ?_
          refine ev (rn_load rfl rfl (run_loadVar1 T22 (a_d.2 3 _ rfl))) ?_
          refine ev0 (rn_len rfl rfl Tryd.underlying22 r_5) ?_
          obtain rfl := Option.some.inj q_f
          exact ⟨((x_0.Kids.length : Int) != (x_3.Kids.length : Int)), (.c rfl (.c rfl (.c rfl .n))), rfl, rfl⟩
  ·
    rintro x_g _ ⟨hy, rfl⟩
    replace hy := hy.symm
    subst hy
    apply go
    refine sel_of (fun hc => ?_) (fun hc => ?_)
    ·
      have h := cond_t h hc
      apply go
      apply go
      apply go
      obtain rfl := Option.some.inj h
      exact ⟨rfl, hp.ch⟩
    ·
      have h := cond_f h hc
      apply go
      obtain ⟨y_h, q_i, h⟩ := bind_some h
      refine W.cut (γ := Unit) (fun _ => []) (fun _ w' => y_h = .go () ∧ Hp ⟨w0, I0, []⟩ I_b [] w') ?_ ?_
      ·
        apply go
        apply go
        apply go
        refine W.loop q_i (γ := Unit) (fun s _ => [(2, (.pointer (some (p_6)))), (3, (.pointer (some (p_a)))), (5, (.int .i64 (s)))]) (fun s _ w' => Hp ⟨w0, I0, []⟩ I_b [] w' ∧ RepS dNode w' I_b v_1 x_0.Kids ∧ At w' I_b p_6 [(.int .i64 x_0.Kind), (.int .i64 x_0.Name), (.int .i64 x_0.Count), v_1] ∧ RepS dNode w' I_b v_4 x_3.Kids ∧ At w' I_b p_a [(.int .i64 x_3.Kind), (.int .i64 x_3.Name), (.int .i64 x_3.Count), v_4]) () (.c rfl (.c rfl (.c rfl .n))) ⟨hp, r_2, a_9, r_5, a_d⟩ ?_
        rintro x_j ⟨⟩ w_k y_l ⟨hp, r_2, a_9, r_5, a_d⟩ q_m q_n
        unfold ref41_Same_L1 at q_m
        apply go
        apply go
        apply go
        refine ev0 (rn_field rfl rfl FO24_3) ?_
        refine ev (rn_load rfl rfl (run_loadVar1 T22 (a_9.2 3 _ rfl))) ?_
        refine ev0 (rn_len rfl rfl Tryd.underlying22 r_2) ?_
        apply go
        refine sel_of (fun hc => ?_) (fun hc => ?_)
        ·
          have q_m := cond_t q_m hc
          apply go
          apply go
          apply go
          apply go
          refine W.quiet (fun w' => Ch [] w_k w') MX (by kernel_rfl) (Ch.drew [] w_k) ?_
          refine evq0 (rn_field rfl rfl FO24_3) ?_
          refine evq (fun w' hw => rn_load rfl rfl (run_loadVar1 T22 ((a_9.step (hp.stp hw)).2 3 _ rfl))) ?_
          obtain ⟨x_o, q_p, q_m⟩ := bind_some q_m
          refine evq_index rfl rfl rfl Tryd.underlying22 T24 r_2 q_p ?_
          intro p_q c_r d_s a_t
          obtain ⟨v_u, rfl, r_v⟩ := dNode_o d_s
          refine evq (fun w' hw => rn_load rfl rfl (run_loadVarA T24 rfl (a_t.step (hp.stp hw)))) ?_
          refine evq0 (rn_field rfl rfl FO24_3) ?_
          refine evq (fun w' hw => rn_load rfl rfl (run_loadVar1 T22 ((a_d.step (hp.stp hw)).2 3 _ rfl))) ?_
          obtain ⟨x_w, q_x, q_m⟩ := bind_some q_m
          refine evq_index rfl rfl rfl Tryd.underlying22 T24 r_5 q_x ?_
          intro p_y c_z d_10 a_11
          obtain ⟨v_12, rfl, r_13⟩ := dNode_o d_10
          refine evq (fun w' hw => rn_load rfl rfl (run_loadVarA T24 rfl (a_11.step (hp.stp hw)))) ?_
          obtain ⟨x_14, q_15, q_m⟩ := bind_some q_m
          refine evq_call rfl rfl C11 (fun w' hw => (ih _ _  (Node.mk x_o.Kind x_o.Name x_o.Count x_o.Kids) v_u (r_v.step (hp.stp hw)) (Node.mk x_w.Kind x_w.Name x_w.Count x_w.Kids) v_12 (r_13.step (hp.stp hw)) (hp.ext hw).imm _ q_15).mono fun _ _ ⟨e, hc⟩ => ⟨e, hw.trans hc⟩) ?_
          intro w_16 hc
          have hs := hp.stp hc
          replace hp := hp.ext hc
          replace a_9 := a_9.step hs
          replace r_2 := r_2.step hs
          replace a_d := a_d.step hs
          replace r_5 := r_5.step hs
          apply go
          refine sel_of (fun hc => ?_) (fun hc => ?_)
          ·
            have q_m := cond_t q_m hc
            apply go
            apply go
            apply go
            have q_17 := congrArg some (q_n _ (Option.some.inj q_m).symm)
            obtain rfl := Option.some.inj q_17
            obtain rfl := Option.some.inj h
            exact ⟨rfl, hp.ch⟩
          ·
            have q_m := cond_f q_m hc
            apply go
            apply go
            exact ⟨_, (Option.some.inj q_m).symm, (), (.c rfl (.c rfl (.c rfl .n))), ⟨hp, r_2, a_9, r_5, a_d⟩⟩
        ·
          have q_m := cond_f q_m hc
          apply go
          have q_18 := congrArg some (q_n _ (Option.some.inj q_m).symm)
          obtain rfl := Option.some.inj q_18
          exact ⟨(), .n, rfl, hp⟩
      ·
        rintro ⟨⟩ w_19 ⟨hy, hp⟩
        replace hy := hy.symm
        subst hy
        apply go
        apply go
        apply go
        obtain rfl := Option.some.inj h
        exact ⟨rfl, hp.ch⟩
theorem ref41_Same_ok : ∀ n, ref41_Same_S (ref41_Same n)
  | 0 => by intro w0 I0 x_0 v_1 r_2 x_3 v_4 r_5 hI r h; cases h
  | n + 1 => ref41_Same_F_ok n _ (ref41_Same_ok n)

end Go.Proofs.YtknnmbcaoekgmaaDoor

namespace Go.Proofs.YtknnmbcaoekgmaaDoor
open Go Go.Proofs.YtknnmbcaoekgmaaDoor.Gw Go.RowKit
set_option linter.unusedVariables false
attribute [local irreducible] Ev EvQ EvS EvH
def ref41_between_S (f : Int → Int → Int → Option Bool) : Prop := ∀ (w0 : World) (I0 : Nat → Prop) (x_0 : Int) (x_1 : Int) (x_2 : Int) (hI : ∀ g, I0 g → g < w0.heap.size) (r : Bool), f x_0 x_1 x_2 = some r →
    Ret Tryd.prog 53 #[(.int .i64 x_0), (.int .i64 x_1), (.int .i64 x_2)] w0 fun v w1 => v = (.bool r) ∧ Ch [] w0 w1
theorem ref41_between_ok (n : Nat) : ref41_between_S (ref41_between n) := by
  intro w0 I0 x_0 x_1 x_2 hI r h
  unfold ref41_between at h
  refine enter Tryd.func53 rfl (Nat.le_of_ble_eq_true rfl) ?_
  have hp : Hp ⟨w0, I0, []⟩ I0 [] w0 := Hp.start hI
  apply go
  apply go
  obtain ⟨y_3, q_4, h⟩ := bind_some h
  refine W.cut (γ := Bool) (fun g => [(6, (.bool (g)))]) (fun g w' => y_3 = (g) ∧ w0 = w') ?_ ?_
  ·
    apply go
    refine sel_of (fun hc => ?_) (fun hc => ?_)
    ·
      have q_4 := cond_t q_4 hc
      obtain rfl := Option.some.inj q_4
      exact ⟨(decide (x_0 ≤ x_2)), (.c rfl .n), rfl, rfl⟩
    ·
      have q_4 := cond_f q_4 hc
      obtain rfl := Option.some.inj q_4
      exact ⟨false, (.c rfl .n), rfl, rfl⟩
  ·
    rintro x_5 _ ⟨hy, rfl⟩
    replace hy := hy.symm
    subst hy
    apply go
    obtain rfl := Option.some.inj h
    exact ⟨rfl, hp.ch⟩

end Go.Proofs.YtknnmbcaoekgmaaDoor

namespace Go.Proofs.YtknnmbcaoekgmaaDoor
open Go Go.Proofs.YtknnmbcaoekgmaaDoor.Gw Go.RowKit
set_option linter.unusedVariables false
attribute [local irreducible] Ev EvQ EvS EvH
def ref41_single_S (f : Node → Option Bool) : Prop := ∀ (w0 : World) (I0 : Nat → Prop) (x_0 : Node) (v_1 : Value) (r_2 : RepS dNode w0 I0 v_1 x_0.Kids) (hI : ∀ g, I0 g → g < w0.heap.size) (r : Bool), f x_0 = some r →
    Ret Tryd.prog 41 #[(.agg #[(.int .i64 x_0.Kind), (.int .i64 x_0.Name), (.int .i64 x_0.Count), v_1])] w0 fun v w1 => v = (.bool r) ∧ Ch [] w0 w1
theorem ref41_single_ok (n : Nat) : ref41_single_S (ref41_single n) := by
  intro w0 I0 x_0 v_1 r_2 hI r h
  unfold ref41_single at h
  refine enter Tryd.func41 rfl (Nat.le_of_ble_eq_true rfl) ?_
  have hp : Hp ⟨w0, I0, []⟩ I0 [] w0 := Hp.start hI
  apply go
  apply go
  refine ev_boxI hp rfl rfl ?_
  intro p_3 I_4 w_5 hp hs a_6
  replace r_2 := r_2.step hs
  apply go
  apply go
  refine ev0 (rn_field rfl rfl FO24_3) ?_
  refine ev (rn_load rfl rfl (run_loadVar1 T22 (a_6.2 3 _ rfl))) ?_
  refine ev0 (rn_len rfl rfl Tryd.underlying22 r_2) ?_
  apply go
  apply go
  apply go
  refine ev0 (rn_field rfl rfl FO24_0) ?_
  refine ev (rn_load rfl rfl (run_loadVar1 T3 (a_6.2 0 _ rfl))) ?_
  apply go
  obtain ⟨y_7, q_8, h⟩ := bind_some h
  refine W.cut (γ := Bool) (fun g => [(1, (.pointer (some (p_3)))), (3, (.int .i64 (x_0.Kids.length : Int))), (8, (.int .i64 x_0.Kind)), (9, (.bool (g)))]) (fun g w' => y_7 = (g) ∧ w_5 = w') ?_ ?_
  ·
    apply go
    apply go
    apply go
    refine sel_of (fun hc => ?_) (fun hc => ?_)
    ·
      have q_8 := cond_t q_8 hc
      apply go
      obtain rfl := Option.some.inj q_8
      exact ⟨(x_0.Kind == 1), (.c rfl (.c rfl (.c rfl (.c rfl .n)))), rfl, rfl⟩
    ·
      have q_8 := cond_f q_8 hc
      apply go
      obtain rfl := Option.some.inj q_8
      exact ⟨(x_0.Kind == 2), (.c rfl (.c rfl (.c rfl (.c rfl .n)))), rfl, rfl⟩
  ·
    rintro x_9 _ ⟨hy, rfl⟩
    replace hy := hy.symm
    subst hy
    apply go
    refine sel_of (fun hc => ?_) (fun hc => ?_)
    ·
      have h := cond_t h hc
      obtain ⟨y_a, q_b, h⟩ := bind_some h
      refine W.cut (γ := Bool) (fun g => [(2, (.bool (g)))]) (fun g w' => y_a = (g) ∧ Hp ⟨w0, I0, []⟩ I_4 [] w') ?_ ?_
      ·
        apply go
        refine sel_of (fun hc => ?_) (fun hc => ?_)
        ·
          have q_b := cond_t q_b hc
          refine ev0 (rn_field rfl rfl FO24_1) ?_
          refine ev (rn_load rfl rfl (run_loadVar1 T3 (a_6.2 1 _ rfl))) ?_
          obtain ⟨x_c, q_d, q_b⟩ := bind_some q_b
          refine ev_call rfl rfl C53 (((ref41_between_ok n) _ _  x_0.Name 0 63 hp.imm _ q_d).mono ?_)
          rintro _ w_e ⟨rfl, hc⟩
          have hs := hp.stp hc
          replace hp := hp.ext hc
          replace a_6 := a_6.step hs
          replace r_2 := r_2.step hs
          refine sel_of (fun hc => ?_) (fun hc => ?_)
          ·
            have q_b := cond_t q_b hc
            refine ev0 (rn_field rfl rfl FO24_2) ?_
            refine ev (rn_load rfl rfl (run_loadVar1 T3 (a_6.2 2 _ rfl))) ?_
            obtain rfl := Option.some.inj q_b
            exact ⟨(x_0.Count == 0), (.c rfl .n), rfl, hp⟩
          ·
            have q_b := cond_f q_b hc
            obtain rfl := Option.some.inj q_b
            exact ⟨false, (.c rfl .n), rfl, hp⟩
        ·
          have q_b := cond_f q_b hc
          obtain rfl := Option.some.inj q_b
          exact ⟨false, (.c rfl .n), rfl, hp⟩
      ·
        rintro x_f w_g ⟨hy, hp⟩
        replace hy := hy.symm
        subst hy
        apply go
        obtain rfl := Option.some.inj h
        exact ⟨rfl, hp.ch⟩
    ·
      have h := cond_f h hc
      obtain ⟨y_h, q_i, h⟩ := bind_some h
      refine W.cut (γ := Bool) (fun g => [(1, (.pointer (some (p_3)))), (3, (.int .i64 (x_0.Kids.length : Int))), (8, (.int .i64 x_0.Kind)), (24, (.bool (g)))]) (fun g w' => y_h = (g) ∧ w_5 = w') ?_ ?_
      ·
        apply go
        apply go
        apply go
        refine sel_of (fun hc => ?_) (fun hc => ?_)
        ·
          have q_i := cond_t q_i hc
          apply go
          obtain rfl := Option.some.inj q_i
          exact ⟨(x_0.Kind == 3), (.c rfl (.c rfl (.c rfl (.c rfl .n)))), rfl, rfl⟩
        ·
          have q_i := cond_f q_i hc
          apply go
          obtain rfl := Option.some.inj q_i
          exact ⟨(x_0.Kind == 4), (.c rfl (.c rfl (.c rfl (.c rfl .n)))), rfl, rfl⟩
      ·
        rintro x_j _ ⟨hy, rfl⟩
        replace hy := hy.symm
        subst hy
        apply go
        refine sel_of (fun hc => ?_) (fun hc => ?_)
        ·
          have h := cond_t h hc
          obtain ⟨y_k, q_l, h⟩ := bind_some h
          refine W.cut (γ := Bool) (fun g => [(2, (.bool (g)))]) (fun g w' => y_k = (g) ∧ w_5 = w') ?_ ?_
          ·
            apply go
            refine ev0 (rn_field rfl rfl FO24_1) ?_
            refine ev (rn_load rfl rfl (run_loadVar1 T3 (a_6.2 1 _ rfl))) ?_
            refine sel_of (fun hc => ?_) (fun hc => ?_)
            ·
              have q_l := cond_t q_l hc
              refine ev0 (rn_field rfl rfl FO24_2) ?_
              refine ev (rn_load rfl rfl (run_loadVar1 T3 (a_6.2 2 _ rfl))) ?_
              obtain rfl := Option.some.inj q_l
              exact ⟨(x_0.Count == 0), (.c rfl .n), rfl, rfl⟩
            ·
              have q_l := cond_f q_l hc
              obtain rfl := Option.some.inj q_l
              exact ⟨false, (.c rfl .n), rfl, rfl⟩
          ·
            rintro x_m _ ⟨hy, rfl⟩
            replace hy := hy.symm
            subst hy
            apply go
            obtain rfl := Option.some.inj h
            exact ⟨rfl, hp.ch⟩
        ·
          have h := cond_f h hc
          apply go
          apply go
          apply go
          refine sel_of (fun hc => ?_) (fun hc => ?_)
          ·
            have h := cond_t h hc
            obtain ⟨y_n, q_o, h⟩ := bind_some h
            refine W.cut (γ := Bool) (fun g => [(2, (.bool (g)))]) (fun g w' => y_n = (g) ∧ Hp ⟨w0, I0, []⟩ I_4 [] w') ?_ ?_
            ·
              apply go
              refine sel_of (fun hc => ?_) (fun hc => ?_)
              ·
                have q_o := cond_t q_o hc
                refine ev0 (rn_field rfl rfl FO24_1) ?_
                refine ev (rn_load rfl rfl (run_loadVar1 T3 (a_6.2 1 _ rfl))) ?_
                refine sel_of (fun hc => ?_) (fun hc => ?_)
                ·
                  have q_o := cond_t q_o hc
                  refine ev0 (rn_field rfl rfl FO24_2) ?_
                  refine ev (rn_load rfl rfl (run_loadVar1 T3 (a_6.2 2 _ rfl))) ?_
                  obtain ⟨x_p, q_q, q_o⟩ := bind_some q_o
                  refine ev_call rfl rfl C53 (((ref41_between_ok n) _ _  x_0.Count 1 (x_0.Kids.length : Int) hp.imm _ q_q).mono ?_)
                  rintro _ w_r ⟨rfl, hc⟩
                  have hs := hp.stp hc
                  replace hp := hp.ext hc
                  obtain rfl := Option.some.inj q_o
                  exact ⟨x_p, (.c rfl .n), rfl, hp⟩
                ·
                  have q_o := cond_f q_o hc
                  obtain rfl := Option.some.inj q_o
                  exact ⟨false, (.c rfl .n), rfl, hp⟩
              ·
                have q_o := cond_f q_o hc
                obtain rfl := Option.some.inj q_o
                exact ⟨false, (.c rfl .n), rfl, hp⟩
            ·
              rintro x_s w_t ⟨hy, hp⟩
              replace hy := hy.symm
              subst hy
              apply go
              obtain rfl := Option.some.inj h
              exact ⟨rfl, hp.ch⟩
          ·
            have h := cond_f h hc
            apply go
            apply go
            apply go
            refine sel_of (fun hc => ?_) (fun hc => ?_)
            ·
              have h := cond_t h hc
              obtain ⟨y_u, q_v, h⟩ := bind_some h
              refine W.cut (γ := Bool) (fun g => [(2, (.bool (g)))]) (fun g w' => y_u = (g) ∧ w_5 = w') ?_ ?_
              ·
                apply go
                refine sel_of (fun hc => ?_) (fun hc => ?_)
                ·
                  have q_v := cond_t q_v hc
                  refine ev0 (rn_field rfl rfl FO24_1) ?_
                  refine ev (rn_load rfl rfl (run_loadVar1 T3 (a_6.2 1 _ rfl))) ?_
                  refine sel_of (fun hc => ?_) (fun hc => ?_)
                  ·
                    have q_v := cond_t q_v hc
                    refine ev0 (rn_field rfl rfl FO24_2) ?_
                    refine ev (rn_load rfl rfl (run_loadVar1 T3 (a_6.2 2 _ rfl))) ?_
                    obtain rfl := Option.some.inj q_v
                    exact ⟨(x_0.Count == 0), (.c rfl .n), rfl, rfl⟩
                  ·
                    have q_v := cond_f q_v hc
                    obtain rfl := Option.some.inj q_v
                    exact ⟨false, (.c rfl .n), rfl, rfl⟩
                ·
                  have q_v := cond_f q_v hc
                  obtain rfl := Option.some.inj q_v
                  exact ⟨false, (.c rfl .n), rfl, rfl⟩
              ·
                rintro x_w _ ⟨hy, rfl⟩
                replace hy := hy.symm
                subst hy
                apply go
                obtain rfl := Option.some.inj h
                exact ⟨rfl, hp.ch⟩
            ·
              have h := cond_f h hc
              obtain ⟨y_x, q_y, h⟩ := bind_some h
              refine W.cut (γ := Bool) (fun g => [(1, (.pointer (some (p_3)))), (3, (.int .i64 (x_0.Kids.length : Int))), (64, (.bool (g)))]) (fun g w' => y_x = (g) ∧ w_5 = w') ?_ ?_
              ·
                apply go
                apply go
                apply go
                refine sel_of (fun hc => ?_) (fun hc => ?_)
                ·
                  have q_y := cond_t q_y hc
                  apply go
                  obtain rfl := Option.some.inj q_y
                  exact ⟨(x_0.Kind == 7), (.c rfl (.c rfl (.c rfl .n))), rfl, rfl⟩
                ·
                  have q_y := cond_f q_y hc
                  apply go
                  obtain rfl := Option.some.inj q_y
                  exact ⟨(x_0.Kind == 8), (.c rfl (.c rfl (.c rfl .n))), rfl, rfl⟩
              ·
                rintro x_z _ ⟨hy, rfl⟩
                replace hy := hy.symm
                subst hy
                apply go
                refine sel_of (fun hc => ?_) (fun hc => ?_)
                ·
                  have h := cond_t h hc
                  obtain ⟨y_10, q_11, h⟩ := bind_some h
                  refine W.cut (γ := Bool) (fun g => [(2, (.bool (g)))]) (fun g w' => y_10 = (g) ∧ Hp ⟨w0, I0, []⟩ I_4 [] w') ?_ ?_
                  ·
                    apply go
                    refine sel_of (fun hc => ?_) (fun hc => ?_)
                    ·
                      have q_11 := cond_t q_11 hc
                      refine ev0 (rn_field rfl rfl FO24_1) ?_
                      refine ev (rn_load rfl rfl (run_loadVar1 T3 (a_6.2 1 _ rfl))) ?_
                      refine sel_of (fun hc => ?_) (fun hc => ?_)
                      ·
                        have q_11 := cond_t q_11 hc
                        refine ev0 (rn_field rfl rfl FO24_2) ?_
                        refine ev (rn_load rfl rfl (run_loadVar1 T3 (a_6.2 2 _ rfl))) ?_
                        obtain ⟨x_12, q_13, q_11⟩ := bind_some q_11
                        refine ev_call rfl rfl C53 (((ref41_between_ok n) _ _  x_0.Count 1 1000 hp.imm _ q_13).mono ?_)
                        rintro _ w_14 ⟨rfl, hc⟩
                        have hs := hp.stp hc
                        replace hp := hp.ext hc
                        obtain rfl := Option.some.inj q_11
                        exact ⟨x_12, (.c rfl .n), rfl, hp⟩
                      ·
                        have q_11 := cond_f q_11 hc
                        obtain rfl := Option.some.inj q_11
                        exact ⟨false, (.c rfl .n), rfl, hp⟩
                    ·
                      have q_11 := cond_f q_11 hc
                      obtain rfl := Option.some.inj q_11
                      exact ⟨false, (.c rfl .n), rfl, hp⟩
                  ·
                    rintro x_15 w_16 ⟨hy, hp⟩
                    replace hy := hy.symm
                    subst hy
                    apply go
                    obtain rfl := Option.some.inj h
                    exact ⟨rfl, hp.ch⟩
                ·
                  have h := cond_f h hc
                  apply go
                  apply go
                  apply go
                  apply go
                  obtain rfl := Option.some.inj h
                  exact ⟨rfl, hp.ch⟩

end Go.Proofs.YtknnmbcaoekgmaaDoor

namespace Go.Proofs.YtknnmbcaoekgmaaDoor
open Go Go.Proofs.YtknnmbcaoekgmaaDoor.Gw Go.RowKit
set_option linter.unusedVariables false
attribute [local irreducible] Ev EvQ EvS EvH
def ref41_valid_S (f : Node → Int → Option Bool) : Prop := ∀ (w0 : World) (I0 : Nat → Prop) (x_0 : Node) (v_1 : Value) (r_2 : RepS dNode w0 I0 v_1 x_0.Kids) (x_3 : Int) (hI : ∀ g, I0 g → g < w0.heap.size) (r : Bool), f x_0 x_3 = some r →
    Ret Tryd.prog 24 #[(.agg #[(.int .i64 x_0.Kind), (.int .i64 x_0.Name), (.int .i64 x_0.Count), v_1]), (.int .i64 x_3)] w0 fun v w1 => v = (.bool r) ∧ Ch [] w0 w1
theorem ref41_valid_F_ok (n : Nat) (self : Node → Int → Option Bool) (ih : ref41_valid_S self) : ref41_valid_S (ref41_valid_F n self) := by
  intro w0 I0 x_0 v_1 r_2 x_3 hI r h
  unfold ref41_valid_F at h
  refine enter Tryd.func24 rfl (Nat.le_of_ble_eq_true rfl) ?_
  have hp : Hp ⟨w0, I0, []⟩ I0 [] w0 := Hp.start hI
  apply go
  apply go
  refine ev_boxI hp rfl rfl ?_
  intro p_4 I_5 w_6 hp hs a_7
  replace r_2 := r_2.step hs
  apply go
  obtain ⟨y_8, q_9, h⟩ := bind_some h
  refine W.cut (γ := Bool) (fun g => [(1, (.int .i64 x_3)), (2, (.pointer (some (p_4)))), (12, (.bool (g)))]) (fun g w' => y_8 = (g) ∧ Hp ⟨w0, I0, []⟩ I_5 [] w' ∧ RepS dNode w' I_5 v_1 x_0.Kids ∧ At w' I_5 p_4 [(.int .i64 x_0.Kind), (.int .i64 x_0.Name), (.int .i64 x_0.Count), v_1]) ?_ ?_
  ·
    apply go
    refine sel_of (fun hc => ?_) (fun hc => ?_)
    ·
      have q_9 := cond_t q_9 hc
      obtain rfl := Option.some.inj q_9
      exact ⟨true, (.c rfl (.c rfl (.c rfl .n))), rfl, hp, r_2, a_7⟩
    ·
      have q_9 := cond_f q_9 hc
      refine ev (rn_load rfl rfl (run_loadVarA T24 rfl a_7)) ?_
      obtain ⟨x_a, q_b, q_9⟩ := bind_some q_9
      refine ev_call rfl rfl C41 (((ref41_single_ok n) _ _  (Node.mk x_0.Kind x_0.Name x_0.Count x_0.Kids) v_1 r_2 hp.imm _ q_b).mono ?_)
      rintro _ w_c ⟨rfl, hc⟩
      have hs := hp.stp hc
      replace hp := hp.ext hc
      replace a_7 := a_7.step hs
      replace r_2 := r_2.step hs
      obtain rfl := Option.some.inj q_9
      exact ⟨(!x_a), (.c rfl (.c rfl (.c rfl .n))), rfl, hp, r_2, a_7⟩
  ·
    rintro x_d w_e ⟨hy, hp, r_2, a_7⟩
    replace hy := hy.symm
    subst hy
    apply go
    refine sel_of (fun hc => ?_) (fun hc => ?_)
    ·
      have h := cond_t h hc
      apply go
      apply go
      apply go
      obtain rfl := Option.some.inj h
      exact ⟨rfl, hp.ch⟩
    ·
      have h := cond_f h hc
      apply go
      obtain ⟨y_f, q_g, h⟩ := bind_some h
      refine W.cut (γ := Unit) (fun _ => []) (fun _ w' => y_f = .go () ∧ Hp ⟨w0, I0, []⟩ I_5 [] w') ?_ ?_
      ·
        apply go
        apply go
        apply go
        refine W.loop q_g (γ := Unit) (fun s _ => [(1, (.int .i64 x_3)), (2, (.pointer (some (p_4)))), (5, (.int .i64 (s)))]) (fun s _ w' => Hp ⟨w0, I0, []⟩ I_5 [] w' ∧ RepS dNode w' I_5 v_1 x_0.Kids ∧ At w' I_5 p_4 [(.int .i64 x_0.Kind), (.int .i64 x_0.Name), (.int .i64 x_0.Count), v_1]) () (.c rfl (.c rfl (.c rfl .n))) ⟨hp, r_2, a_7⟩ ?_
        rintro x_h ⟨⟩ w_i y_j ⟨hp, r_2, a_7⟩ q_k q_l
        unfold ref41_valid_L1 at q_k
        apply go
        apply go
        apply go
        refine ev0 (rn_field rfl rfl FO24_3) ?_
        refine ev (rn_load rfl rfl (run_loadVar1 T22 (a_7.2 3 _ rfl))) ?_
        refine ev0 (rn_len rfl rfl Tryd.underlying22 r_2) ?_
        apply go
        refine sel_of (fun hc => ?_) (fun hc => ?_)
        ·
          have q_k := cond_t q_k hc
          apply go
          apply go
          apply go
          apply go
          apply go
          refine ev0 (rn_field rfl rfl FO24_3) ?_
          refine ev (rn_load rfl rfl (run_loadVar1 T22 (a_7.2 3 _ rfl))) ?_
          obtain ⟨x_m, q_n, q_k⟩ := bind_some q_k
          refine ev_index rfl rfl rfl Tryd.underlying22 T24 r_2 q_n ?_
          intro p_o c_p d_q a_r
          obtain ⟨v_s, rfl, r_t⟩ := dNode_o d_q
          refine ev (rn_load rfl rfl (run_loadVarA T24 rfl a_r)) ?_
          obtain ⟨x_u, q_v, q_k⟩ := bind_some q_k
          refine ev_call rfl rfl C24 ((ih _ _  (Node.mk x_m.Kind x_m.Name x_m.Count x_m.Kids) v_s r_t (IntKind.i64.wrap (x_3 - 1)) hp.imm _ q_v).mono ?_)
          rintro _ w_w ⟨rfl, hc⟩
          have hs := hp.stp hc
          replace hp := hp.ext hc
          replace a_7 := a_7.step hs
          replace r_2 := r_2.step hs
          apply go
          refine sel_of (fun hc => ?_) (fun hc => ?_)
          ·
            have q_k := cond_t q_k hc
            apply go
            apply go
            apply go
            have q_x := congrArg some (q_l _ (Option.some.inj q_k).symm)
            obtain rfl := Option.some.inj q_x
            obtain rfl := Option.some.inj h
            exact ⟨rfl, hp.ch⟩
          ·
            have q_k := cond_f q_k hc
            apply go
            apply go
            exact ⟨_, (Option.some.inj q_k).symm, (), (.c rfl (.c rfl (.c rfl .n))), ⟨hp, r_2, a_7⟩⟩
        ·
          have q_k := cond_f q_k hc
          apply go
          have q_y := congrArg some (q_l _ (Option.some.inj q_k).symm)
          obtain rfl := Option.some.inj q_y
          exact ⟨(), .n, rfl, hp⟩
      ·
        rintro ⟨⟩ w_z ⟨hy, hp⟩
        replace hy := hy.symm
        subst hy
        apply go
        apply go
        apply go
        obtain rfl := Option.some.inj h
        exact ⟨rfl, hp.ch⟩
theorem ref41_valid_ok : ∀ n, ref41_valid_S (ref41_valid n)
  | 0 => by intro w0 I0 x_0 v_1 r_2 x_3 hI r h; cases h
  | n + 1 => ref41_valid_F_ok n _ (ref41_valid_ok n)

end Go.Proofs.YtknnmbcaoekgmaaDoor

namespace Go.Proofs.YtknnmbcaoekgmaaDoor
open Go Go.Proofs.YtknnmbcaoekgmaaDoor.Gw Go.RowKit
set_option linter.unusedVariables false
attribute [local irreducible] Ev EvQ EvS EvH
def ref41_Valid_S (f : Node → Option Bool) : Prop := ∀ (w0 : World) (I0 : Nat → Prop) (x_0 : Node) (v_1 : Value) (r_2 : RepS dNode w0 I0 v_1 x_0.Kids) (hI : ∀ g, I0 g → g < w0.heap.size) (r : Bool), f x_0 = some r →
    Ret Tryd.prog 10 #[(.agg #[(.int .i64 x_0.Kind), (.int .i64 x_0.Name), (.int .i64 x_0.Count), v_1])] w0 fun v w1 => v = (.bool r) ∧ Ch [] w0 w1
theorem ref41_Valid_ok (n : Nat) : ref41_Valid_S (ref41_Valid n) := by
  intro w0 I0 x_0 v_1 r_2 hI r h
  unfold ref41_Valid at h
  refine enter Tryd.func10 rfl (Nat.le_of_ble_eq_true rfl) ?_
  have hp : Hp ⟨w0, I0, []⟩ I0 [] w0 := Hp.start hI
  apply go
  apply go
  refine ev_boxI hp rfl rfl ?_
  intro p_3 I_4 w_5 hp hs a_6
  replace r_2 := r_2.step hs
  obtain ⟨y_7, q_8, h⟩ := bind_some h
  refine W.cut (γ := Bool) (fun g => [(2, (.bool (g)))]) (fun g w' => y_7 = (g) ∧ Hp ⟨w0, I0, []⟩ I_4 [] w') ?_ ?_
  ·
    apply go
    refine ev (rn_load rfl rfl (run_loadVarA T24 rfl a_6)) ?_
    obtain ⟨x_9, q_a, q_8⟩ := bind_some q_8
    refine ev_call rfl rfl C18 (((ref41_Size_ok n) _ _  (Node.mk x_0.Kind x_0.Name x_0.Count x_0.Kids) v_1 r_2 hp.imm _ q_a).mono ?_)
    rintro _ w_b ⟨rfl, hc⟩
    have hs := hp.stp hc
    replace hp := hp.ext hc
    replace a_6 := a_6.step hs
    replace r_2 := r_2.step hs
    refine sel_of (fun hc => ?_) (fun hc => ?_)
    ·
      have q_8 := cond_t q_8 hc
      refine ev (rn_load rfl rfl (run_loadVarA T24 rfl a_6)) ?_
      obtain ⟨x_c, q_d, q_8⟩ := bind_some q_8
      refine ev_call rfl rfl C24 (((ref41_valid_ok n) _ _  (Node.mk x_0.Kind x_0.Name x_0.Count x_0.Kids) v_1 r_2 16 hp.imm _ q_d).mono ?_)
      rintro _ w_e ⟨rfl, hc⟩
      have hs := hp.stp hc
      replace hp := hp.ext hc
      obtain rfl := Option.some.inj q_8
      exact ⟨x_c, (.c rfl .n), rfl, hp⟩
    ·
      have q_8 := cond_f q_8 hc
      obtain rfl := Option.some.inj q_8
      exact ⟨false, (.c rfl .n), rfl, hp⟩
  ·
    rintro x_f w_g ⟨hy, hp⟩
    replace hy := hy.symm
    subst hy
    apply go
    obtain rfl := Option.some.inj h
    exact ⟨rfl, hp.ch⟩

end Go.Proofs.YtknnmbcaoekgmaaDoor

namespace Go.Proofs.YtknnmbcaoekgmaaDoor
open Go Go.Proofs.YtknnmbcaoekgmaaDoor.Gw Go.RowKit
set_option linter.unusedVariables false
attribute [local irreducible] Ev EvQ EvS EvH
def ref41_Number_S (f : Int → Option ByteArray) : Prop := ∀ (w0 : World) (I0 : Nat → Prop) (x_0 : Int) (hI : ∀ g, I0 g → g < w0.heap.size) (r : ByteArray), f x_0 = some r →
    Ret Tryd.prog 37 #[(.int .i64 x_0)] w0 fun v w1 => v = (.string r) ∧ Ch [] w0 w1
theorem ref41_Number_F_ok (n : Nat) (self : Int → Option ByteArray) (ih : ref41_Number_S self) : ref41_Number_S (ref41_Number_F n self) := by
  intro w0 I0 x_0 hI r h
  unfold ref41_Number_F at h
  refine enter Tryd.func37 rfl (Nat.le_of_ble_eq_true rfl) ?_
  have hp : Hp ⟨w0, I0, []⟩ I0 [] w0 := Hp.start hI
  apply go
  apply go
  apply go
  apply go
  refine ⟨by decide, ?_⟩
  refine ev0 (rn_conv rfl rfl U3 Tryd.underlying5) ?_
  refine ev_litN (d := (dI .u8)) (xs := [(IntKind.u8.wrap (IntKind.i64.wrap (48 + (x_0.tmod 10))))]) (cs := [(.int .u8 (IntKind.u8.wrap (IntKind.i64.wrap (48 + (x_0.tmod 10)))))]) hp rfl rfl Tryd.underlying44 T5 (by decide) rfl rfl (Elems.cons (d := (dI .u8)) (xs := _) rfl (Elems.nil _ _ _ _)) ?_
  intro v_1 I_2 w_3 hp hs r_4
  refine ev (rn_bstr rfl rfl Tryd.underlying44 Tryd.underlying5 Tryd.underlying9 r_4) ?_
  apply go
  apply go
  apply go
  apply go
  refine sel_of (fun hc => ?_) (fun hc => ?_)
  ·
    have h := cond_t h hc
    apply go
    apply go
    apply go
    obtain rfl := Option.some.inj h
    exact ⟨rfl, hp.ch⟩
  ·
    have h := cond_f h hc
    apply go
    apply go
    apply go
    refine ⟨by decide, ?_⟩
    obtain ⟨x_5, q_6, h⟩ := bind_some h
    refine ev_call rfl rfl C37 ((ih _ _  (IntKind.i64.wrap (x_0.tdiv 10)) hp.imm _ q_6).mono ?_)
    rintro _ w_7 ⟨rfl, hc⟩
    have hs := hp.stp hc
    replace hp := hp.ext hc
    obtain ⟨q_8, _, h⟩ := need_some h
    refine ⟨q_8, ?_⟩
    apply go
    obtain rfl := Option.some.inj h
    exact ⟨rfl, hp.ch⟩
theorem ref41_Number_ok : ∀ n, ref41_Number_S (ref41_Number n)
  | 0 => by intro w0 I0 x_0 hI r h; cases h
  | n + 1 => ref41_Number_F_ok n _ (ref41_Number_ok n)

end Go.Proofs.YtknnmbcaoekgmaaDoor

namespace Go.Proofs.YtknnmbcaoekgmaaDoor
open Go Go.Proofs.YtknnmbcaoekgmaaDoor.Gw Go.RowKit
set_option linter.unusedVariables false
attribute [local irreducible] Ev EvQ EvS EvH
def ref41_text_S (f : Node → Option ByteArray) : Prop := ∀ (w0 : World) (I0 : Nat → Prop) (x_0 : Node) (v_1 : Value) (r_2 : RepS dNode w0 I0 v_1 x_0.Kids) (hI : ∀ g, I0 g → g < w0.heap.size) (r : ByteArray), f x_0 = some r →
    Ret Tryd.prog 22 #[(.agg #[(.int .i64 x_0.Kind), (.int .i64 x_0.Name), (.int .i64 x_0.Count), v_1])] w0 fun v w1 => v = (.string r) ∧ Ch [] w0 w1
theorem ref41_text_F_ok (n : Nat) (self : Node → Option ByteArray) (ih : ref41_text_S self) : ref41_text_S (ref41_text_F n self) := by
  intro w0 I0 x_0 v_1 r_2 hI r h
  unfold ref41_text_F at h
  refine enter Tryd.func22 rfl (Nat.le_of_ble_eq_true rfl) ?_
  have hp : Hp ⟨w0, I0, []⟩ I0 [] w0 := Hp.start hI
  apply go
  apply go
  refine ev_boxI hp rfl rfl ?_
  intro p_3 I_4 w_5 hp hs a_6
  replace r_2 := r_2.step hs
  apply go
  apply go
  apply go
  refine ev0 (rn_field rfl rfl FO24_0) ?_
  refine ev (rn_load rfl rfl (run_loadVar1 T3 (a_6.2 0 _ rfl))) ?_
  apply go
  refine sel_of (fun hc => ?_) (fun hc => ?_)
  ·
    have h := cond_t h hc
    apply go
    apply go
    refine ev0 (rn_field rfl rfl FO24_1) ?_
    refine ev (rn_load rfl rfl (run_loadVar1 T3 (a_6.2 1 _ rfl))) ?_
    obtain ⟨x_7, q_8, h⟩ := bind_some h
    refine ev_call rfl rfl C37 (((ref41_Number_ok n) _ _  x_0.Name hp.imm _ q_8).mono ?_)
    rintro _ w_9 ⟨rfl, hc⟩
    have hs := hp.stp hc
    replace hp := hp.ext hc
    obtain ⟨q_a, _, h⟩ := need_some h
    refine ⟨q_a, ?_⟩
    apply go
    obtain rfl := Option.some.inj h
    exact ⟨rfl, hp.ch⟩
  ·
    have h := cond_f h hc
    apply go
    apply go
    apply go
    apply go
    refine ev0 (rn_field rfl rfl FO24_0) ?_
    refine ev (rn_load rfl rfl (run_loadVar1 T3 (a_6.2 0 _ rfl))) ?_
    apply go
    refine sel_of (fun hc => ?_) (fun hc => ?_)
    ·
      have h := cond_t h hc
      apply go
      apply go
      refine ev0 (rn_field rfl rfl FO24_1) ?_
      refine ev (rn_load rfl rfl (run_loadVar1 T3 (a_6.2 1 _ rfl))) ?_
      obtain ⟨x_b, q_c, h⟩ := bind_some h
      refine ev_call rfl rfl C37 (((ref41_Number_ok n) _ _  x_0.Name hp.imm _ q_c).mono ?_)
      rintro _ w_d ⟨rfl, hc⟩
      have hs := hp.stp hc
      replace hp := hp.ext hc
      obtain ⟨q_e, _, h⟩ := need_some h
      refine ⟨q_e, ?_⟩
      apply go
      obtain rfl := Option.some.inj h
      exact ⟨rfl, hp.ch⟩
    ·
      have h := cond_f h hc
      apply go
      apply go
      apply go
      refine ev0 (rn_field rfl rfl FO24_0) ?_
      refine ev (rn_load rfl rfl (run_loadVar1 T3 (a_6.2 0 _ rfl))) ?_
      obtain ⟨x_f, q_g, h⟩ := bind_some h
      refine ev0 (rn_indexS rfl rfl rfl Tryd.underlying9 q_g) ?_
      refine ev_litN (d := (dI .u8)) (xs := [x_f]) (cs := [(.int .u8 x_f)]) hp rfl rfl Tryd.underlying44 T5 (by decide) rfl rfl (Elems.cons (d := (dI .u8)) (xs := _) rfl (Elems.nil _ _ _ _)) ?_
      intro v_h I_i w_j hp hs r_k
      replace a_6 := a_6.step hs
      replace r_2 := r_2.step hs
      refine ev (rn_bstr rfl rfl Tryd.underlying44 Tryd.underlying5 Tryd.underlying9 r_k) ?_
      obtain ⟨q_l, _, h⟩ := need_some h
      refine ⟨q_l, ?_⟩
      obtain ⟨y_m, q_n, h⟩ := bind_some h
      refine W.cut (γ := ByteArray) (fun g => [(1, (.pointer (some (p_3)))), (3, (.string (g)))]) (fun g w' => y_m = (g) ∧ Hp ⟨w0, I0, []⟩ I_i [] w' ∧ RepS dNode w' I_i v_1 x_0.Kids ∧ At w' I_i p_3 [(.int .i64 x_0.Kind), (.int .i64 x_0.Name), (.int .i64 x_0.Count), v_1]) ?_ ?_
      ·
        apply go
        apply go
        refine ev0 (rn_field rfl rfl FO24_2) ?_
        refine ev (rn_load rfl rfl (run_loadVar1 T3 (a_6.2 2 _ rfl))) ?_
        apply go
        refine sel_of (fun hc => ?_) (fun hc => ?_)
        ·
          have q_n := cond_t q_n hc
          apply go
          refine ev0 (rn_field rfl rfl FO24_2) ?_
          refine ev (rn_load rfl rfl (run_loadVar1 T3 (a_6.2 2 _ rfl))) ?_
          obtain ⟨x_o, q_p, q_n⟩ := bind_some q_n
          refine ev_call rfl rfl C37 (((ref41_Number_ok n) _ _  x_0.Count hp.imm _ q_p).mono ?_)
          rintro _ w_q ⟨rfl, hc⟩
          have hs := hp.stp hc
          replace hp := hp.ext hc
          replace a_6 := a_6.step hs
          replace r_2 := r_2.step hs
          obtain ⟨q_r, _, q_n⟩ := need_some q_n
          refine ⟨q_r, ?_⟩
          obtain rfl := Option.some.inj q_n
          exact ⟨(((ByteArray.mk #[40]) ++ (strOfNums [x_f])) ++ x_o), (.c rfl (.c rfl .n)), rfl, hp, r_2, a_6⟩
        ·
          have q_n := cond_f q_n hc
          apply go
          obtain rfl := Option.some.inj q_n
          exact ⟨((ByteArray.mk #[40]) ++ (strOfNums [x_f])), (.c rfl (.c rfl .n)), rfl, hp, r_2, a_6⟩
      ·
        rintro x_s w_t ⟨hy, hp, r_2, a_6⟩
        replace hy := hy.symm
        subst hy
        obtain ⟨y_u, q_v, h⟩ := bind_some h
        refine W.cut (γ := ByteArray) (fun g => [(3, (.string (g)))]) (fun g w' => y_u = (g) ∧ Hp ⟨w0, I0, []⟩ I_i [] w') ?_ ?_
        ·
          apply go
          apply go
          apply go
          refine W.loop q_v (γ := Unit) (fun s _ => [(1, (.pointer (some (p_3)))), (3, (.string (s.1))), (4, (.int .i64 (s.2)))]) (fun s _ w' => Hp ⟨w0, I0, []⟩ I_i [] w' ∧ RepS dNode w' I_i v_1 x_0.Kids ∧ At w' I_i p_3 [(.int .i64 x_0.Kind), (.int .i64 x_0.Name), (.int .i64 x_0.Count), v_1]) () (.c rfl (.c rfl (.c rfl .n))) ⟨hp, r_2, a_6⟩ ?_
          rintro ⟨x_w, x_x⟩ ⟨⟩ w_y y_z ⟨hp, r_2, a_6⟩ q_10 q_11
          unfold ref41_text_L1 at q_10
          apply go
          apply go
          apply go
          refine ev0 (rn_field rfl rfl FO24_3) ?_
          refine ev (rn_load rfl rfl (run_loadVar1 T22 (a_6.2 3 _ rfl))) ?_
          refine ev0 (rn_len rfl rfl Tryd.underlying22 r_2) ?_
          apply go
          refine sel_of (fun hc => ?_) (fun hc => ?_)
          ·
            have q_10 := cond_t q_10 hc
            apply go
            apply go
            apply go
            apply go
            refine ev0 (rn_field rfl rfl FO24_3) ?_
            refine ev (rn_load rfl rfl (run_loadVar1 T22 (a_6.2 3 _ rfl))) ?_
            obtain ⟨x_12, q_13, q_10⟩ := bind_some q_10
            refine ev_index rfl rfl rfl Tryd.underlying22 T24 r_2 q_13 ?_
            intro p_14 c_15 d_16 a_17
            obtain ⟨v_18, rfl, r_19⟩ := dNode_o d_16
            refine ev (rn_load rfl rfl (run_loadVarA T24 rfl a_17)) ?_
            obtain ⟨x_1a, q_1b, q_10⟩ := bind_some q_10
            refine ev_call rfl rfl C22 ((ih _ _  (Node.mk x_12.Kind x_12.Name x_12.Count x_12.Kids) v_18 r_19 hp.imm _ q_1b).mono ?_)
            rintro _ w_1c ⟨rfl, hc⟩
            have hs := hp.stp hc
            replace hp := hp.ext hc
            replace a_6 := a_6.step hs
            replace r_2 := r_2.step hs
            obtain ⟨q_1d, _, q_10⟩ := need_some q_10
            refine ⟨q_1d, ?_⟩
            obtain ⟨q_1e, _, q_10⟩ := need_some q_10
            refine ⟨q_1e, ?_⟩
            apply go
            exact ⟨_, (Option.some.inj q_10).symm, (), (.c rfl (.c rfl (.c rfl .n))), ⟨hp, r_2, a_6⟩⟩
          ·
            have q_10 := cond_f q_10 hc
            apply go
            have q_1f := congrArg some (q_11 _ (Option.some.inj q_10).symm)
            obtain rfl := Option.some.inj q_1f
            exact ⟨x_w, (.c rfl .n), rfl, hp⟩
        ·
          rintro x_1g w_1h ⟨hy, hp⟩
          replace hy := hy.symm
          subst hy
          apply go
          apply go
          obtain ⟨q_1i, _, h⟩ := need_some h
          refine ⟨q_1i, ?_⟩
          apply go
          obtain rfl := Option.some.inj h
          exact ⟨rfl, hp.ch⟩
theorem ref41_text_ok : ∀ n, ref41_text_S (ref41_text n)
  | 0 => by intro w0 I0 x_0 v_1 r_2 hI r h; cases h
  | n + 1 => ref41_text_F_ok n _ (ref41_text_ok n)

end Go.Proofs.YtknnmbcaoekgmaaDoor

namespace Go.Proofs.YtknnmbcaoekgmaaDoor
open Go Go.Proofs.YtknnmbcaoekgmaaDoor.Gw Go.RowKit
set_option linter.unusedVariables false
attribute [local irreducible] Ev EvQ EvS EvH
def ref41_Text_S (f : Node → Option ByteArray) : Prop := ∀ (w0 : World) (I0 : Nat → Prop) (x_0 : Node) (v_1 : Value) (r_2 : RepS dNode w0 I0 v_1 x_0.Kids) (hI : ∀ g, I0 g → g < w0.heap.size) (r : ByteArray), f x_0 = some r →
    Ret Tryd.prog 8 #[(.agg #[(.int .i64 x_0.Kind), (.int .i64 x_0.Name), (.int .i64 x_0.Count), v_1])] w0 fun v w1 => v = (.string r) ∧ Ch [] w0 w1
theorem ref41_Text_ok (n : Nat) : ref41_Text_S (ref41_Text n) := by
  intro w0 I0 x_0 v_1 r_2 hI r h
  unfold ref41_Text at h
  refine enter Tryd.func8 rfl (Nat.le_of_ble_eq_true rfl) ?_
  have hp : Hp ⟨w0, I0, []⟩ I0 [] w0 := Hp.start hI
  apply go
  apply go
  refine ev_boxI hp rfl rfl ?_
  intro p_3 I_4 w_5 hp hs a_6
  replace r_2 := r_2.step hs
  apply go
  apply go
  apply go
  refine ev (rn_load rfl rfl (run_loadVarA T24 rfl a_6)) ?_
  obtain ⟨x_7, q_8, h⟩ := bind_some h
  refine ev_call rfl rfl C10 (((ref41_Valid_ok n) _ _  (Node.mk x_0.Kind x_0.Name x_0.Count x_0.Kids) v_1 r_2 hp.imm _ q_8).mono ?_)
  rintro _ w_9 ⟨rfl, hc⟩
  have hs := hp.stp hc
  replace hp := hp.ext hc
  replace a_6 := a_6.step hs
  replace r_2 := r_2.step hs
  apply go
  refine sel_of (fun hc => ?_) (fun hc => ?_)
  ·
    have h := cond_t h hc
    apply go
    apply go
    apply go
    obtain rfl := Option.some.inj h
    exact ⟨rfl, hp.ch⟩
  ·
    have h := cond_f h hc
    apply go
    apply go
    apply go
    refine ev (rn_load rfl rfl (run_loadVarA T24 rfl a_6)) ?_
    obtain ⟨x_a, q_b, h⟩ := bind_some h
    refine ev_call rfl rfl C22 (((ref41_text_ok n) _ _  (Node.mk x_0.Kind x_0.Name x_0.Count x_0.Kids) v_1 r_2 hp.imm _ q_b).mono ?_)
    rintro _ w_c ⟨rfl, hc⟩
    have hs := hp.stp hc
    replace hp := hp.ext hc
    apply go
    obtain rfl := Option.some.inj h
    exact ⟨rfl, hp.ch⟩

end Go.Proofs.YtknnmbcaoekgmaaDoor

namespace Go.Proofs.YtknnmbcaoekgmaaDoor
open Go Go.Proofs.YtknnmbcaoekgmaaDoor.Gw Go.RowKit
set_option linter.unusedVariables false
attribute [local irreducible] Ev EvQ EvS EvH
def ref41_number_S (f : ByteArray → Int → Option (Int × Int)) : Prop := ∀ (w0 : World) (I0 : Nat → Prop) (x_0 : ByteArray) (x_1 : Int) (hI : ∀ g, I0 g → g < w0.heap.size) (r : (Int × Int)), f x_0 x_1 = some r →
    Ret Tryd.prog 42 #[(.string x_0), (.int .i64 x_1)] w0 fun v w1 => v = (.tuple #[(.int .i64 r.1), (.int .i64 r.2)]) ∧ Ch [] w0 w1
theorem ref41_number_ok (n : Nat) : ref41_number_S (ref41_number n) := by
  intro w0 I0 x_0 x_1 hI r h
  unfold ref41_number at h
  refine enter Tryd.func42 rfl (Nat.le_of_ble_eq_true rfl) ?_
  have hp : Hp ⟨w0, I0, []⟩ I0 [] w0 := Hp.start hI
  apply go
  apply go
  apply go
  apply go
  obtain ⟨y_2, q_3, h⟩ := bind_some h
  refine W.cut (γ := (Int × Int)) (fun g => [(1, (.int .i64 (g.1))), (6, (.int .i64 (g.2)))]) (fun g w' => y_2 = ((g.1), (g.2)) ∧ w0 = w') ?_ ?_
  ·
    apply go
    refine W.loop q_3 (γ := Unit) (fun s _ => [(0, (.string x_0)), (1, (.int .i64 (s.1))), (6, (.int .i64 (s.2)))]) (fun s _ w' => w0 = w') () (.c rfl (.c rfl (.c rfl .n))) rfl ?_
    rintro ⟨x_4, x_5⟩ ⟨⟩ _ y_6 rfl q_7 q_8
    unfold ref41_number_L1 at q_7
    apply go
    obtain ⟨y_9, q_a, q_7⟩ := bind_some q_7
    refine W.cut (γ := Bool) (fun g => [(0, (.string x_0)), (1, (.int .i64 x_4)), (6, (.int .i64 x_5)), (22, (.bool (g)))]) (fun g w' => y_9 = (g) ∧ w0 = w') ?_ ?_
    ·
      apply go
      refine ev0 (rn_lenS rfl rfl Tryd.underlying9) ?_
      refine sel_of (fun hc => ?_) (fun hc => ?_)
      ·
        have q_a := cond_t q_a hc
        obtain ⟨x_b, q_c, q_a⟩ := bind_some q_a
        refine ev0 (rn_indexS rfl rfl rfl Tryd.underlying9 q_c) ?_
        refine sel_of (fun hc => ?_) (fun hc => ?_)
        ·
          have q_a := cond_t q_a hc
          obtain ⟨x_d, q_e, q_a⟩ := bind_some q_a
          refine ev0 (rn_indexS rfl rfl rfl Tryd.underlying9 q_e) ?_
          obtain rfl := Option.some.inj q_a
          exact ⟨(decide (x_d ≤ 57)), (.c rfl (.c rfl (.c rfl (.c rfl .n)))), rfl, rfl⟩
        ·
          have q_a := cond_f q_a hc
          obtain rfl := Option.some.inj q_a
          exact ⟨false, (.c rfl (.c rfl (.c rfl (.c rfl .n)))), rfl, rfl⟩
      ·
        have q_a := cond_f q_a hc
        obtain rfl := Option.some.inj q_a
        exact ⟨false, (.c rfl (.c rfl (.c rfl (.c rfl .n)))), rfl, rfl⟩
    ·
      rintro x_f _ ⟨hy, rfl⟩
      replace hy := hy.symm
      subst hy
      apply go
      refine sel_of (fun hc => ?_) (fun hc => ?_)
      ·
        have q_7 := cond_t q_7 hc
        apply go
        apply go
        apply go
        apply go
        obtain ⟨x_g, q_h, q_7⟩ := bind_some q_7
        refine ev0 (rn_indexS rfl rfl rfl Tryd.underlying9 q_h) ?_
        refine ev0 (rn_conv rfl rfl U5 Tryd.underlying3) ?_
        refine ev0 (rn_min rfl rfl rfl) ?_
        apply go
        exact ⟨_, (Option.some.inj q_7).symm, (), (.c rfl (.c rfl (.c rfl .n))), rfl⟩
      ·
        have q_7 := cond_f q_7 hc
        apply go
        have q_i := congrArg some (q_8 _ (Option.some.inj q_7).symm)
        obtain rfl := Option.some.inj q_i
        exact ⟨(x_4, x_5), (.c rfl (.c rfl .n)), rfl, rfl⟩
  ·
    rintro ⟨x_j, x_k⟩ _ ⟨hy, rfl⟩
    replace hy := hy.symm
    subst hy
    apply go
    apply go
    apply go
    obtain rfl := Option.some.inj h
    exact ⟨rfl, hp.ch⟩

end Go.Proofs.YtknnmbcaoekgmaaDoor

namespace Go.Proofs.YtknnmbcaoekgmaaDoor
open Go Go.Proofs.YtknnmbcaoekgmaaDoor.Gw Go.RowKit
set_option linter.unusedVariables false
attribute [local irreducible] Ev EvQ EvS EvH
def ref41_kind_S (f : Int → Option Int) : Prop := ∀ (w0 : World) (I0 : Nat → Prop) (x_0 : Int) (hI : ∀ g, I0 g → g < w0.heap.size) (r : Int), f x_0 = some r →
    Ret Tryd.prog 43 #[(.int .u8 x_0)] w0 fun v w1 => v = (.int .i64 r) ∧ Ch [] w0 w1
theorem ref41_kind_ok (n : Nat) : ref41_kind_S (ref41_kind n) := by
  intro w0 I0 x_0 hI r h
  unfold ref41_kind at h
  refine enter Tryd.func43 rfl (Nat.le_of_ble_eq_true rfl) ?_
  have hp : Hp ⟨w0, I0, []⟩ I0 [] w0 := Hp.start hI
  apply go
  apply go
  apply go
  apply go
  obtain ⟨y_1, q_2, h⟩ := bind_some h
  refine W.cut (γ := Unit) (fun _ => []) (fun _ w' => y_1 = .go () ∧ w0 = w') ?_ ?_
  ·
    apply go
    apply go
    apply go
    refine W.loop q_2 (γ := Unit) (fun s _ => [(0, (.int .u8 x_0)), (3, (.string (ByteArray.mk #[32, 32, 32, 115, 102, 112, 105, 114, 111]))), (4, (.int .i64 (s)))]) (fun s _ w' => w0 = w') () (.c rfl (.c rfl (.c rfl .n))) rfl ?_
    rintro x_3 ⟨⟩ _ y_4 rfl q_5 q_6
    unfold ref41_kind_L1 at q_5
    apply go
    apply go
    apply go
    apply go
    refine sel_of (fun hc => ?_) (fun hc => ?_)
    ·
      have q_5 := cond_t q_5 hc
      apply go
      apply go
      apply go
      apply go
      apply go
      obtain ⟨x_7, q_8, q_5⟩ := bind_some q_5
      refine ev0 (rn_indexS rfl rfl rfl Tryd.underlying9 q_8) ?_
      apply go
      refine sel_of (fun hc => ?_) (fun hc => ?_)
      ·
        have q_5 := cond_t q_5 hc
        apply go
        apply go
        apply go
        have q_9 := congrArg some (q_6 _ (Option.some.inj q_5).symm)
        obtain rfl := Option.some.inj q_9
        obtain rfl := Option.some.inj h
        exact ⟨rfl, hp.ch⟩
      ·
        have q_5 := cond_f q_5 hc
        apply go
        apply go
        exact ⟨_, (Option.some.inj q_5).symm, (), (.c rfl (.c rfl (.c rfl .n))), rfl⟩
    ·
      have q_5 := cond_f q_5 hc
      apply go
      have q_a := congrArg some (q_6 _ (Option.some.inj q_5).symm)
      obtain rfl := Option.some.inj q_a
      exact ⟨(), .n, rfl, rfl⟩
  ·
    rintro ⟨⟩ _ ⟨hy, rfl⟩
    replace hy := hy.symm
    subst hy
    apply go
    apply go
    apply go
    obtain rfl := Option.some.inj h
    exact ⟨rfl, hp.ch⟩

end Go.Proofs.YtknnmbcaoekgmaaDoor

namespace Go.Proofs.YtknnmbcaoekgmaaDoor
open Go Go.Proofs.YtknnmbcaoekgmaaDoor.Gw Go.RowKit
set_option linter.unusedVariables false
attribute [local irreducible] Ev EvQ EvS EvH vch
def ref41_read_S (f : ByteArray → Int → Option (Node × Int × Bool)) : Prop := ∀ (w0 : World) (I0 : Nat → Prop) (x_0 : ByteArray) (x_1 : Int) (hI : ∀ g, I0 g → g < w0.heap.size) (r : (Node × Int × Bool)), f x_0 x_1 = some r →
    Ret Tryd.prog 25 #[(.string x_0), (.int .i64 x_1)] w0 fun v w1 => ∃ (I1 : Nat → Prop) (u_2 : Value), v = (.tuple #[(.agg #[(.int .i64 r.1.Kind), (.int .i64 r.1.Name), (.int .i64 r.1.Count), u_2]), (.int .i64 r.2.1), (.bool r.2.2)]) ∧ Hp ⟨w0, I0, []⟩ I1 [] w1 ∧ RepS dNode w1 I1 u_2 r.1.Kids
theorem ref41_read_F_ok (n : Nat) (self : ByteArray → Int → Option (Node × Int × Bool)) (ih : ref41_read_S self) : ref41_read_S (ref41_read_F n self) := by
  intro w0 I0 x_0 x_1 hI r h
  unfold ref41_read_F at h
  refine enter Tryd.func25 rfl (Nat.le_of_ble_eq_true rfl) ?_
  have hp : Hp ⟨w0, I0, []⟩ I0 [] w0 := Hp.start hI
  apply go
  apply go
  refine ev_alloc hp rfl T24 ?_
  intro g_2 w_3 hp hs
  apply go
  apply go
  apply go
  refine ev0 (rn_lenS rfl rfl Tryd.underlying9) ?_
  apply go
  refine sel_of (fun hc => ?_) (fun hc => ?_)
  ·
    have h := cond_t h hc
    apply go
    apply go
    refine ev0 (fun w => rn_build (cs := [(.int .i64 0), (.int .i64 0), (.int .i64 0), (.slice none 0 0)]) rfl rfl T24 PL24 rfl) ?_
    refine ev_storeA hp (i := 0) (off := 0) (vs := [(.int .i64 0), (.int .i64 0), (.int .i64 0), (.slice none 0 0)]) rfl rfl rfl rfl T24 rfl (Nat.le_of_ble_eq_true rfl) (ones_of rfl) ?_
    intro w_4 hp hs
    apply go
    obtain rfl := Option.some.inj h
    refine ⟨_, run_loadVarA T24 rfl (hp.at_ (i := 0) rfl), ?_⟩
    have hp := hp.sel [] (by decide)
    exact ⟨I0, .slice none 0 0, rfl, hp, RepS.nil _ _ _⟩
  ·
    have h := cond_f h hc
    apply go
    apply go
    obtain ⟨y_5, q_6, h⟩ := bind_some h
    refine W.cut (γ := Bool) (fun g => [(0, (.string x_0)), (1, (.int .i64 x_1)), (4, (.pointer (some ⟨g_2, 0, none⟩))), (29, (.bool (g)))]) (fun g w' => y_5 = (g) ∧ w_3 = w') ?_ ?_
    ·
      apply go
      obtain ⟨x_7, q_8, q_6⟩ := bind_some q_6
      refine ev0 (rn_indexS rfl rfl rfl Tryd.underlying9 q_8) ?_
      refine sel_of (fun hc => ?_) (fun hc => ?_)
      ·
        have q_6 := cond_t q_6 hc
        obtain rfl := Option.some.inj q_6
        exact ⟨true, (.c rfl (.c rfl (.c rfl (.c rfl .n)))), rfl, rfl⟩
      ·
        have q_6 := cond_f q_6 hc
        obtain ⟨x_9, q_a, q_6⟩ := bind_some q_6
        refine ev0 (rn_indexS rfl rfl rfl Tryd.underlying9 q_a) ?_
        obtain rfl := Option.some.inj q_6
        exact ⟨(x_9 == 116), (.c rfl (.c rfl (.c rfl (.c rfl .n)))), rfl, rfl⟩
    ·
      rintro x_b _ ⟨hy, rfl⟩
      replace hy := hy.symm
      subst hy
      apply go
      refine sel_of (fun hc => ?_) (fun hc => ?_)
      ·
        have h := cond_t h hc
        apply go
        apply go
        obtain ⟨⟨x_c, x_d⟩, q_e, h⟩ := bind_some h
        refine ev_call rfl rfl C42 (((ref41_number_ok n) _ _  x_0 (IntKind.i64.wrap (x_1 + 1)) hp.imm _ q_e).mono ?_)
        rintro _ w_f ⟨rfl, hc⟩
        have hs := hp.stp hc
        replace hp := hp.ext hc
        apply go
        apply go
        refine ev0 (fun w => rn_build (cs := [(.int .i64 1), (.int .i64 x_c), (.int .i64 0), (.slice none 0 0)]) rfl rfl T24 PL24 rfl) ?_
        refine ev_alloc hp rfl T24 ?_
        intro g_g w_h hp hs
        refine ev_storeA hp (i := 0) (off := 0) (vs := [(.int .i64 1), (.int .i64 x_c), (.int .i64 0), (.slice none 0 0)]) rfl rfl rfl rfl T24 rfl (Nat.le_of_ble_eq_true rfl) (ones_of rfl) ?_
        intro w_i hp hs
        obtain ⟨y_j, q_k, h⟩ := bind_some h
        refine W.cut (γ := Int) (fun g => [(4, (.pointer (some ⟨g_2, 0, none⟩))), (8, (.int .i64 x_d)), (9, (.pointer (some ⟨g_g, 0, none⟩)))]) (fun g w' => y_j = (g) ∧ Hp ⟨w0, I0, []⟩ I0 [some (g_2, [(.int .i64 0), (.int .i64 0), (.int .i64 0), (.slice none 0 0)], 24), some (g_g, [(.int .i64 (g)), (.int .i64 x_c), (.int .i64 0), (.slice none 0 0)], 24)] w') ?_ ?_
        ·
          apply go
          apply go
          obtain ⟨x_l, q_m, q_k⟩ := bind_some q_k
          refine ev0 (rn_indexS rfl rfl rfl Tryd.underlying9 q_m) ?_
          apply go
          refine sel_of (fun hc => ?_) (fun hc => ?_)
          ·
            have q_k := cond_t q_k hc
            apply go
            refine ev0 (rn_field rfl rfl FO24_0) ?_
            refine ev_store1 hp (i := 0) (off := 0) rfl rfl rfl rfl T3 rfl (Nat.le_of_ble_eq_true rfl) ?_
            intro w_n hp hs
            obtain rfl := Option.some.inj q_k
            have hp := hp.perm [1, 0] (by decide)
            exact ⟨2, (.c rfl (.c rfl (.c rfl .n))), rfl, hp⟩
          ·
            have q_k := cond_f q_k hc
            apply go
            obtain rfl := Option.some.inj q_k
            have hp := hp.perm [1, 0] (by decide)
            exact ⟨1, (.c rfl (.c rfl (.c rfl .n))), rfl, hp⟩
        ·
          rintro x_o w_p ⟨hy, hp⟩
          replace hy := hy.symm
          subst hy
          apply go
          apply go
          refine ev (rn_load rfl rfl (run_loadVarA T24 rfl (hp.at_ (i := 1) rfl))) ?_
          refine ev_storeA hp (i := 0) (off := 0) (vs := [(.int .i64 x_o), (.int .i64 x_c), (.int .i64 0), (.slice none 0 0)]) rfl rfl rfl rfl T24 rfl (Nat.le_of_ble_eq_true rfl) (ones_of rfl) ?_
          intro w_q hp hs
          apply go
          obtain rfl := Option.some.inj h
          refine ⟨_, run_loadVarA T24 rfl (hp.at_ (i := 0) rfl), ?_⟩
          have hp := hp.sel [] (by decide)
          exact ⟨I0, .slice none 0 0, rfl, hp, RepS.nil _ _ _⟩
      ·
        have h := cond_f h hc
        apply go
        apply go
        obtain ⟨y_r, q_s, h⟩ := bind_some h
        refine W.cut (γ := Bool) (fun g => [(0, (.string x_0)), (1, (.int .i64 x_1)), (4, (.pointer (some ⟨g_2, 0, none⟩))), (64, (.bool (g)))]) (fun g w' => y_r = (g) ∧ Hp ⟨w0, I0, []⟩ I0 [some (g_2, [(.int .i64 0), (.int .i64 0), (.int .i64 0), (.slice none 0 0)], 24)] w') ?_ ?_
        ·
          apply go
          obtain ⟨x_t, q_u, q_s⟩ := bind_some q_s
          refine ev0 (rn_indexS rfl rfl rfl Tryd.underlying9 q_u) ?_
          refine sel_of (fun hc => ?_) (fun hc => ?_)
          ·
            have q_s := cond_t q_s hc
            obtain rfl := Option.some.inj q_s
            exact ⟨true, (.c rfl (.c rfl (.c rfl (.c rfl .n)))), rfl, hp⟩
          ·
            have q_s := cond_f q_s hc
            refine ev0 (rn_lenS rfl rfl Tryd.underlying9) ?_
            refine sel_of (fun hc => ?_) (fun hc => ?_)
            ·
              have q_s := cond_t q_s hc
              obtain rfl := Option.some.inj q_s
              exact ⟨true, (.c rfl (.c rfl (.c rfl (.c rfl .n)))), rfl, hp⟩
            ·
              have q_s := cond_f q_s hc
              obtain ⟨x_v, q_w, q_s⟩ := bind_some q_s
              refine ev0 (rn_indexS rfl rfl rfl Tryd.underlying9 q_w) ?_
              obtain ⟨x_x, q_y, q_s⟩ := bind_some q_s
              refine ev_call rfl rfl C43 (((ref41_kind_ok n) _ _  x_v hp.imm _ q_y).mono ?_)
              rintro _ w_z ⟨rfl, hc⟩
              have hs := hp.stp hc
              replace hp := hp.ext hc
              obtain rfl := Option.some.inj q_s
              exact ⟨(x_x == 0), (.c rfl (.c rfl (.c rfl (.c rfl .n)))), rfl, hp⟩
        ·
          rintro x_10 w_11 ⟨hy, hp⟩
          replace hy := hy.symm
          subst hy
          apply go
          refine sel_of (fun hc => ?_) (fun hc => ?_)
          ·
            have h := cond_t h hc
            apply go
            apply go
            refine ev0 (fun w => rn_build (cs := [(.int .i64 0), (.int .i64 0), (.int .i64 0), (.slice none 0 0)]) rfl rfl T24 PL24 rfl) ?_
            refine ev_storeA hp (i := 0) (off := 0) (vs := [(.int .i64 0), (.int .i64 0), (.int .i64 0), (.slice none 0 0)]) rfl rfl rfl rfl T24 rfl (Nat.le_of_ble_eq_true rfl) (ones_of rfl) ?_
            intro w_12 hp hs
            apply go
            obtain rfl := Option.some.inj h
            refine ⟨_, run_loadVarA T24 rfl (hp.at_ (i := 0) rfl), ?_⟩
            have hp := hp.sel [] (by decide)
            exact ⟨I0, .slice none 0 0, rfl, hp, RepS.nil _ _ _⟩
          ·
            have h := cond_f h hc
            apply go
            apply go
            apply go
            obtain ⟨x_13, q_14, h⟩ := bind_some h
            refine ev0 (rn_indexS rfl rfl rfl Tryd.underlying9 q_14) ?_
            obtain ⟨x_15, q_16, h⟩ := bind_some h
            refine ev_call rfl rfl C43 (((ref41_kind_ok n) _ _  x_13 hp.imm _ q_16).mono ?_)
            rintro _ w_17 ⟨rfl, hc⟩
            have hs := hp.stp hc
            replace hp := hp.ext hc
            refine ev0 (fun w => rn_build (cs := [(.int .i64 x_15), (.int .i64 0), (.int .i64 0), (.slice none 0 0)]) rfl rfl T24 PL24 rfl) ?_
            refine ev_alloc hp rfl T24 ?_
            intro g_18 w_19 hp hs
            refine ev_storeA hp (i := 0) (off := 0) (vs := [(.int .i64 x_15), (.int .i64 0), (.int .i64 0), (.slice none 0 0)]) rfl rfl rfl rfl T24 rfl (Nat.le_of_ble_eq_true rfl) (ones_of rfl) ?_
            intro w_1a hp hs
            apply go
            apply go
            obtain ⟨⟨x_1b, x_1c⟩, q_1d, h⟩ := bind_some h
            refine ev_call rfl rfl C42 (((ref41_number_ok n) _ _  x_0 (IntKind.i64.wrap (x_1 + 2)) hp.imm _ q_1d).mono ?_)
            rintro _ w_1e ⟨rfl, hc⟩
            have hs := hp.stp hc
            replace hp := hp.ext hc
            refine ev0 (rn_field rfl rfl FO24_2) ?_
            refine ev_store1 hp (i := 0) (off := 2) rfl rfl rfl rfl T3 rfl (Nat.le_of_ble_eq_true rfl) ?_
            intro w_1f hp hs
            obtain ⟨y_1g, q_1h, h⟩ := bind_some h
            refine W.cut (γ := (Int × (List Node) × Value × Ent × (Nat → Prop))) (fun g => [(0, (.string x_0)), (1, (.int .i64 (g.1))), (4, (.pointer (some ⟨g_2, 0, none⟩))), (10, (.pointer (some ⟨g_18, 0, none⟩)))]) (fun g w' => y_1g = .go ((g.1), (g.2.1)) ∧ Hp ⟨w0, I0, []⟩ (g.2.2.2.2) [some (g_2, [(.int .i64 0), (.int .i64 0), (.int .i64 0), (.slice none 0 0)], 24), (g.2.2.2.1), some (g_18, [(.int .i64 x_15), (.int .i64 0), (.int .i64 x_1b), (g.2.2.1)], 24)] w' ∧ OwnS dNode 24 w' (g.2.2.2.2) (g.2.2.1) (g.2.2.2.1) (g.2.1)) ?_ ?_
            ·
              apply go
              have hp := hp.none_
              have o_1i := OwnS.nil dNode 24 w_1f I0
              have hp := hp.perm [2, 0, 1] (by decide)
              refine W.loop q_1h (γ := (Value × Ent × (Nat → Prop))) (fun s g => [(0, (.string x_0)), (1, (.int .i64 (s.1))), (4, (.pointer (some ⟨g_2, 0, none⟩))), (10, (.pointer (some ⟨g_18, 0, none⟩)))]) (fun s g w' => Hp ⟨w0, I0, []⟩ (g.2.2) [some (g_2, [(.int .i64 0), (.int .i64 0), (.int .i64 0), (.slice none 0 0)], 24), (g.2.1), some (g_18, [(.int .i64 x_15), (.int .i64 0), (.int .i64 x_1b), (g.1)], 24)] w' ∧ OwnS dNode 24 w' (g.2.2) (g.1) (g.2.1) (s.2)) ((.slice none 0 0), none, I0) (.c rfl (.c rfl (.c rfl (.c rfl .n)))) ⟨hp, o_1i⟩ ?_
              rintro ⟨x_1j, x_1k⟩ ⟨v_1l, e_1m, I_1n⟩ w_1o y_1p ⟨hp, o_1q⟩ q_1r q_1s
              unfold ref41_read_L1 at q_1r
              apply go
              obtain ⟨y_1t, q_1u, q_1r⟩ := bind_some q_1r
              refine W.cut (γ := Bool) (fun g => [(0, (.string x_0)), (1, (.int .i64 x_1j)), (4, (.pointer (some ⟨g_2, 0, none⟩))), (10, (.pointer (some ⟨g_18, 0, none⟩))), (90, (.bool (g)))]) (fun g w' => y_1t = (g) ∧ w_1o = w') ?_ ?_
              ·
                apply go
                refine ev0 (rn_lenS rfl rfl Tryd.underlying9) ?_
                refine sel_of (fun hc => ?_) (fun hc => ?_)
                ·
                  have q_1u := cond_t q_1u hc
                  obtain ⟨x_1v, q_1w, q_1u⟩ := bind_some q_1u
                  refine ev0 (rn_indexS rfl rfl rfl Tryd.underlying9 q_1w) ?_
                  obtain rfl := Option.some.inj q_1u
                  exact ⟨(x_1v == 32), (.c rfl (.c rfl (.c rfl (.c rfl (.c rfl .n))))), rfl, rfl⟩
                ·
                  have q_1u := cond_f q_1u hc
                  obtain rfl := Option.some.inj q_1u
                  exact ⟨false, (.c rfl (.c rfl (.c rfl (.c rfl (.c rfl .n))))), rfl, rfl⟩
              ·
                rintro x_1x _ ⟨hy, rfl⟩
                replace hy := hy.symm
                subst hy
                apply go
                refine sel_of (fun hc => ?_) (fun hc => ?_)
                ·
                  have q_1r := cond_t q_1r hc
                  apply go
                  apply go
                  apply go
                  apply go
                  obtain ⟨⟨x_1y, x_1z, x_20⟩, q_21, q_1r⟩ := bind_some q_1r
                  refine ev_call rfl rfl C25 ((ih _ _  x_0 (IntKind.i64.wrap (x_1j + 1)) hp.imm _ q_21).mono ?_)
                  rintro _ w_22 ⟨I_23, v_24, hv, hq, r_25⟩
                  replace hv := hv.symm
                  subst hv
                  have hs := hq.st
                  have hp := hp.join0 hq
                  replace o_1q := o_1q.step hs
                  refine ev_alloc hp rfl T24 ?_
                  intro g_26 w_27 hp hs
                  replace r_25 := r_25.step hs
                  replace o_1q := o_1q.step hs
                  refine ev_storeA hp (i := 0) (off := 0) (vs := [(.int .i64 x_1y.Kind), (.int .i64 x_1y.Name), (.int .i64 x_1y.Count), v_24]) rfl rfl rfl rfl T24 rfl (Nat.le_of_ble_eq_true rfl) (ones_cons rfl (ones_cons rfl (ones_cons rfl (ones_cons r_25.one ones_nil)))) ?_
                  intro w_28 hp hs
                  replace r_25 := r_25.step hs
                  replace o_1q := o_1q.step hs
                  apply go
                  apply go
                  apply go
                  apply go
                  refine sel_of (fun hc => ?_) (fun hc => ?_)
                  ·
                    have q_1r := cond_t q_1r hc
                    apply go
                    apply go
                    refine ev0 (fun w => rn_build (cs := [(.int .i64 0), (.int .i64 0), (.int .i64 0), (.slice none 0 0)]) rfl rfl T24 PL24 rfl) ?_
                    refine ev_storeA hp (i := 1) (off := 0) (vs := [(.int .i64 0), (.int .i64 0), (.int .i64 0), (.slice none 0 0)]) rfl rfl rfl rfl T24 rfl (Nat.le_of_ble_eq_true rfl) (ones_of rfl) ?_
                    intro w_29 hp hs
                    replace r_25 := r_25.step hs
                    replace o_1q := o_1q.step hs
                    apply go
                    have q_2a := congrArg some (q_1s _ (Option.some.inj q_1r).symm)
                    obtain rfl := Option.some.inj q_2a
                    obtain rfl := Option.some.inj h
                    refine ⟨_, run_loadVarA T24 rfl (hp.at_ (i := 1) rfl), ?_⟩
                    have hp := hp.sel [] (by decide)
                    exact ⟨I_23, .slice none 0 0, rfl, hp, RepS.nil _ _ _⟩
                  ·
                    have q_1r := cond_f q_1r hc
                    apply go
                    apply go
                    apply go
                    refine ev0 (rn_field rfl rfl FO24_3) ?_
                    refine ev (rn_load rfl rfl (run_loadVar1 T22 (hp.cell (i := 3) (off := 3) rfl rfl))) ?_
                    refine ev (rn_load rfl rfl (run_loadVarA T24 rfl (hp.at_ (i := 0) rfl))) ?_
                    obtain ⟨A_2b, m_2c, m_2d, rfl⟩ := r_25.isSl
                    refine ev_litN (d := dNode) (xs := [(Node.mk x_1y.Kind x_1y.Name x_1y.Count x_1y.Kids)]) (cs := [(.int .i64 x_1y.Kind), (.int .i64 x_1y.Name), (.int .i64 x_1y.Count), (.slice A_2b m_2c m_2d)]) hp rfl rfl Tryd.underlying22 T24 (by decide) rfl rfl (Elems.cons (d := dNode) (xs := _) (dNode_m (x := (Node.mk x_1y.Kind x_1y.Name x_1y.Count x_1y.Kids)) r_25) (Elems.nil _ _ _ _)) ?_
                    intro v_2e I_2f w_2g hp hs r_2h
                    replace o_1q := o_1q.step hs
                    replace r_25 := r_25.step hs
                    obtain ⟨x_2i, q_2j, q_1r⟩ := bind_some q_1r
                    refine ev_append hp (i := 2) rfl rfl rfl rfl Tryd.underlying22 T24 rfl rfl o_1q r_2h q_2j ?_
                    rintro v_2k e_2l w_2m hp hs o_2n
                    replace r_25 := r_25.step hs
                    replace o_1q := o_1q.step hs
                    refine ev0 (rn_field rfl rfl FO24_3) ?_
                    refine ev_store1 hp (i := 3) (off := 3) rfl rfl rfl rfl T22 o_2n.one (Nat.le_of_ble_eq_true rfl) ?_
                    intro w_2o hp hs
                    replace r_25 := r_25.step hs
                    replace o_2n := o_2n.step hs
                    apply go
                    have hp := hp.sel [1, 2, 3] (by decide)
                    exact ⟨_, (Option.some.inj q_1r).symm, (v_2k, e_2l, I_2f), (.c rfl (.c rfl (.c rfl (.c rfl .n)))), ⟨hp, o_2n⟩⟩
                ·
                  have q_1r := cond_f q_1r hc
                  apply go
                  have q_2p := congrArg some (q_1s _ (Option.some.inj q_1r).symm)
                  obtain rfl := Option.some.inj q_2p
                  exact ⟨(x_1j, x_1k, v_1l, e_1m, I_1n), (.c rfl (.c rfl (.c rfl (.c rfl .n)))), rfl, hp, o_1q⟩
            ·
              rintro ⟨x_2q, x_2r, v_2s, e_2t, I_2u⟩ w_2v ⟨hy, hp, o_2w⟩
              replace hy := hy.symm
              subst hy
              obtain ⟨y_2x, q_2y, h⟩ := bind_some h
              refine W.cut (γ := (Int × Int × (List Node) × Int × Bool × Value × Ent)) (fun g => [(4, (.pointer (some ⟨g_2, 0, none⟩))), (5, (.int .i64 (g.2.2.2.1))), (6, (.bool (g.2.2.2.2.1)))]) (fun g w' => y_2x = ((g.1), (g.2.1), (g.2.2.1), (g.2.2.2.1), (g.2.2.2.2.1)) ∧ Hp ⟨w0, I0, []⟩ I_2u [(g.2.2.2.2.2.2), some (g_2, [(.int .i64 (g.1)), (.int .i64 0), (.int .i64 (g.2.1)), (g.2.2.2.2.2.1)], 24)] w' ∧ OwnS dNode 24 w' I_2u (g.2.2.2.2.2.1) (g.2.2.2.2.2.2) (g.2.2.1)) ?_ ?_
              ·
                have hs := hp.stp (Ch.drew [] w_2v)
                have hp := hp.drew
                replace o_2w := o_2w.step hs
                refine W.heldT [(0, true), (1, true), (2, true), (3, true), (4, true), (5, true), (6, true), (7, true), (8, true), (9, true), (10, true), (11, true), (12, true), (13, false), (14, true), (15, true)] (fun x => Stp I_2u w_2v.drew I_2u x ∧ OwnK [(g_18, [(.int .i64 x_15), (.int .i64 0), (.int .i64 x_1b), v_2s], 24)] x) MX (by kernel_rfl) ⟨Stp.refl _ _, (OwnK.cons (hp.own 2 _ _ _ rfl).1 OwnK.nil)⟩ ?_
                have hz := Stp.refl I_2u w_2v.drew
                intro ops hops
                have e0 : nthO ops 0 = some _ := (hops 0).trans rfl
                have e1 : nthO ops 1 = some _ := (hops 1).trans rfl
                have e2 : nthO ops 2 = some _ := (hops 2).trans rfl
                have e3 : nthO ops 3 = some _ := (hops 3).trans rfl
                have e4 : nthO ops 4 = some _ := (hops 4).trans rfl
                have e5 : nthO ops 5 = some _ := (hops 5).trans rfl
                have e6 : nthO ops 6 = some _ := (hops 6).trans rfl
                have e7 : nthO ops 7 = some _ := (hops 7).trans rfl
                have e8 : nthO ops 8 = some _ := (hops 8).trans rfl
                have e9 : nthO ops 9 = some _ := (hops 9).trans rfl
                have e10 : nthO ops 10 = some _ := (hops 10).trans rfl
                have e11 : nthO ops 11 = some _ := (hops 11).trans rfl
                have e12 : nthO ops 12 = some _ := (hops 12).trans rfl
                have e13 : nthO ops 13 = some _ := (hops 13).trans rfl
                have e14 : nthO ops 14 = some _ := (hops 14).trans rfl
                have e15 : nthO ops 15 = some _ := (hops 15).trans rfl
                clear hops
                refine vch_q e0 rfl ?_
                refine evh (fun w' hw => rn_load rfl rfl (run_loadVarA T24 rfl (hw.2.at_ (i := 0) rfl))) ?_
                refine vch_q e1 rfl ?_
                refine vch_q e2 rfl ?_
                refine vch_q e3 rfl ?_
                refine vch_q e4 rfl ?_
                refine vch_q e5 rfl ?_
                refine evh0 (rn_lenS rfl rfl Tryd.underlying9) ?_
                refine vch_q e6 rfl ?_
                refine vch_q e7 rfl ?_
                rcases Bool.eq_false_or_eq_true (decide (x_2q < (x_0.size : Int))) with hc | hc
                ·
                  have q_2y := cond_t q_2y hc
                  refine vch_qt e8 rfl e7 rfl rfl hc ?_
                  refine vch_qt e9 rfl e7 rfl rfl rfl ?_
                  refine vch_qt e10 rfl e7 rfl rfl rfl ?_
                  obtain ⟨x_2z, q_30, q_2y⟩ := bind_some q_2y
                  refine evh0 (rn_indexS rfl rfl rfl Tryd.underlying9 q_30) ?_
                  refine vch_qt e11 rfl e7 rfl rfl rfl ?_
                  refine vch_q e12 rfl ?_
                  refine vch_l e13 rfl ?_
                  refine ev_storeA hp (i := 0) (off := 0) (vs := [(.int .i64 x_15), (.int .i64 0), (.int .i64 x_1b), v_2s]) rfl rfl rfl rfl T24 rfl (Nat.le_of_ble_eq_true rfl) (ones_cons rfl (ones_cons rfl (ones_cons rfl (ones_cons o_2w.one ones_nil)))) ?_
                  intro w_31 hp hs
                  replace hz := hz.trans hs
                  replace o_2w := o_2w.step hs
                  refine ⟨fun x => Stp I_2u w_31 I_2u x ∧ OwnK [(g_18, [(.int .i64 x_15), (.int .i64 0), (.int .i64 x_1b), v_2s], 24)] x, ⟨Stp.refl _ _, (OwnK.cons (hp.own 2 _ _ _ rfl).1 OwnK.nil)⟩, fun x hx => ⟨hz.held hx.1, hx.2⟩, ?_⟩
                  have hz := Stp.refl I_2u w_31
                  refine vch_q e14 rfl ?_
                  refine vch_q e15 rfl ?_
                  refine vch_end ?_
                  obtain rfl := Option.some.inj q_2y
                  have hp := hp.perm [1, 0] (by decide)
                  exact ⟨(x_15, x_1b, x_2r, (IntKind.i64.wrap (x_2q + 1)), (x_2z == 41), v_2s, e_2t), (.c rfl (.c rfl (.c rfl .n))), rfl, hp, o_2w⟩
                ·
                  have q_2y := cond_f q_2y hc
                  refine vch_qf e8 rfl e7 rfl rfl hc ?_
                  refine vch_qf e9 rfl e7 rfl rfl rfl ?_
                  refine vch_qf e10 rfl e7 rfl rfl rfl ?_
                  refine vch_qf e11 rfl e7 rfl rfl rfl ?_
                  refine vch_q e12 rfl ?_
                  refine vch_l e13 rfl ?_
                  refine ev_storeA hp (i := 0) (off := 0) (vs := [(.int .i64 x_15), (.int .i64 0), (.int .i64 x_1b), v_2s]) rfl rfl rfl rfl T24 rfl (Nat.le_of_ble_eq_true rfl) (ones_cons rfl (ones_cons rfl (ones_cons rfl (ones_cons o_2w.one ones_nil)))) ?_
                  intro w_32 hp hs
                  replace hz := hz.trans hs
                  replace o_2w := o_2w.step hs
                  refine ⟨fun x => Stp I_2u w_32 I_2u x ∧ OwnK [(g_18, [(.int .i64 x_15), (.int .i64 0), (.int .i64 x_1b), v_2s], 24)] x, ⟨Stp.refl _ _, (OwnK.cons (hp.own 2 _ _ _ rfl).1 OwnK.nil)⟩, fun x hx => ⟨hz.held hx.1, hx.2⟩, ?_⟩
                  have hz := Stp.refl I_2u w_32
                  refine vch_q e14 rfl ?_
                  refine vch_q e15 rfl ?_
                  refine vch_end ?_
                  obtain rfl := Option.some.inj q_2y
                  have hp := hp.perm [1, 0] (by decide)
                  exact ⟨(x_15, x_1b, x_2r, (IntKind.i64.wrap (x_2q + 1)), false, v_2s, e_2t), (.c rfl (.c rfl (.c rfl .n))), rfl, hp, o_2w⟩
              ·
                rintro ⟨x_33, x_34, x_35, x_36, x_37, v_38, e_39⟩ w_3a ⟨hy, hp, o_3b⟩
                replace hy := hy.symm
                subst hy
                apply go
                obtain rfl := Option.some.inj h
                have r_3c := o_3b.frz hp (i := 0) rfl
                obtain ⟨hp, hs⟩ := freeze_hp hp (i := 0) rfl
                have hp := hp.sel [1] (by decide)
                refine ⟨_, run_loadVarA T24 rfl (hp.at_ (i := 0) rfl), ?_⟩
                have hp := hp.sel [] (by decide)
                exact ⟨(Ad I_2u e_39), v_38, rfl, hp, r_3c⟩
theorem ref41_read_ok : ∀ n, ref41_read_S (ref41_read n)
  | 0 => by intro w0 I0 x_0 x_1 hI r h; cases h
  | n + 1 => ref41_read_F_ok n _ (ref41_read_ok n)

end Go.Proofs.YtknnmbcaoekgmaaDoor

namespace Go.Proofs.YtknnmbcaoekgmaaDoor
open Go Go.Proofs.YtknnmbcaoekgmaaDoor.Gw Go.RowKit
set_option linter.unusedVariables false
attribute [local irreducible] Ev EvQ EvS EvH
def ref41_Parse_S (f : ByteArray → Option (Node × Int)) : Prop := ∀ (w0 : World) (I0 : Nat → Prop) (x_0 : ByteArray) (hI : ∀ g, I0 g → g < w0.heap.size) (r : (Node × Int)), f x_0 = some r →
    Ret Tryd.prog 12 #[(.string x_0)] w0 fun v w1 => ∃ (I1 : Nat → Prop) (u_1 : Value), v = (.tuple #[(.agg #[(.int .i64 r.1.Kind), (.int .i64 r.1.Name), (.int .i64 r.1.Count), u_1]), (.int .i64 r.2)]) ∧ Hp ⟨w0, I0, []⟩ I1 [] w1 ∧ RepS dNode w1 I1 u_1 r.1.Kids
theorem ref41_Parse_ok (n : Nat) : ref41_Parse_S (ref41_Parse n) := by
  intro w0 I0 x_0 hI r h
  unfold ref41_Parse at h
  refine enter Tryd.func12 rfl (Nat.le_of_ble_eq_true rfl) ?_
  have hp : Hp ⟨w0, I0, []⟩ I0 [] w0 := Hp.start hI
  apply go
  apply go
  refine ev_alloc hp rfl T24 ?_
  intro g_1 w_2 hp hs
  apply go
  apply go
  apply go
  refine ev0 (rn_lenS rfl rfl Tryd.underlying9) ?_
  apply go
  refine sel_of (fun hc => ?_) (fun hc => ?_)
  ·
    have h := cond_t h hc
    apply go
    apply go
    refine ev0 (fun w => rn_build (cs := [(.int .i64 0), (.int .i64 0), (.int .i64 0), (.slice none 0 0)]) rfl rfl T24 PL24 rfl) ?_
    refine ev_storeA hp (i := 0) (off := 0) (vs := [(.int .i64 0), (.int .i64 0), (.int .i64 0), (.slice none 0 0)]) rfl rfl rfl rfl T24 rfl (Nat.le_of_ble_eq_true rfl) (ones_of rfl) ?_
    intro w_3 hp hs
    apply go
    obtain rfl := Option.some.inj h
    refine ⟨_, run_loadVarA T24 rfl (hp.at_ (i := 0) rfl), ?_⟩
    have hp := hp.sel [] (by decide)
    exact ⟨I0, .slice none 0 0, rfl, hp, RepS.nil _ _ _⟩
  ·
    have h := cond_f h hc
    apply go
    apply go
    apply go
    obtain ⟨⟨x_4, x_5, x_6⟩, q_7, h⟩ := bind_some h
    refine ev_call rfl rfl C25 (((ref41_read_ok n) _ _  x_0 0 hp.imm _ q_7).mono ?_)
    rintro _ w_8 ⟨I_9, v_a, hv, hq, r_b⟩
    replace hv := hv.symm
    subst hv
    have hs := hq.st
    have hp := hp.join0 hq
    refine ev_alloc hp rfl T24 ?_
    intro g_c w_d hp hs
    replace r_b := r_b.step hs
    refine ev_storeA hp (i := 0) (off := 0) (vs := [(.int .i64 x_4.Kind), (.int .i64 x_4.Name), (.int .i64 x_4.Count), v_a]) rfl rfl rfl rfl T24 rfl (Nat.le_of_ble_eq_true rfl) (ones_cons rfl (ones_cons rfl (ones_cons rfl (ones_cons r_b.one ones_nil)))) ?_
    intro w_e hp hs
    replace r_b := r_b.step hs
    apply go
    obtain ⟨y_f, q_g, h⟩ := bind_some h
    refine W.cut (γ := Bool) (fun g => [(2, (.pointer (some ⟨g_1, 0, none⟩))), (4, (.pointer (some ⟨g_c, 0, none⟩))), (30, (.bool (g)))]) (fun g w' => y_f = (g) ∧ Hp ⟨w0, I0, []⟩ I_9 [some (g_1, [(.int .i64 0), (.int .i64 0), (.int .i64 0), (.slice none 0 0)], 24), some (g_c, [(.int .i64 x_4.Kind), (.int .i64 x_4.Name), (.int .i64 x_4.Count), v_a], 24)] w' ∧ RepS dNode w' I_9 v_a x_4.Kids) ?_ ?_
    ·
      apply go
      refine sel_of (fun hc => ?_) (fun hc => ?_)
      ·
        have q_g := cond_t q_g hc
        obtain rfl := Option.some.inj q_g
        have hp := hp.perm [1, 0] (by decide)
        exact ⟨true, (.c rfl (.c rfl (.c rfl .n))), rfl, hp, r_b⟩
      ·
        have q_g := cond_f q_g hc
        refine ev0 (rn_lenS rfl rfl Tryd.underlying9) ?_
        refine sel_of (fun hc => ?_) (fun hc => ?_)
        ·
          have q_g := cond_t q_g hc
          obtain rfl := Option.some.inj q_g
          have hp := hp.perm [1, 0] (by decide)
          exact ⟨true, (.c rfl (.c rfl (.c rfl .n))), rfl, hp, r_b⟩
        ·
          have q_g := cond_f q_g hc
          refine ev (rn_load rfl rfl (run_loadVarA T24 rfl (hp.at_ (i := 0) rfl))) ?_
          obtain ⟨x_h, q_i, q_g⟩ := bind_some q_g
          refine ev_call rfl rfl C8 (((ref41_Text_ok n) _ _  (Node.mk x_4.Kind x_4.Name x_4.Count x_4.Kids) v_a r_b hp.imm _ q_i).mono ?_)
          rintro _ w_j ⟨rfl, hc⟩
          have hs := hp.stp hc
          replace hp := hp.ext hc
          replace r_b := r_b.step hs
          obtain rfl := Option.some.inj q_g
          have hp := hp.perm [1, 0] (by decide)
          exact ⟨(!(x_h.toList == x_0.toList)), (.c rfl (.c rfl (.c rfl .n))), rfl, hp, r_b⟩
    ·
      rintro x_k w_l ⟨hy, hp, r_b⟩
      replace hy := hy.symm
      subst hy
      apply go
      refine sel_of (fun hc => ?_) (fun hc => ?_)
      ·
        have h := cond_t h hc
        apply go
        apply go
        refine ev0 (fun w => rn_build (cs := [(.int .i64 0), (.int .i64 0), (.int .i64 0), (.slice none 0 0)]) rfl rfl T24 PL24 rfl) ?_
        refine ev_storeA hp (i := 0) (off := 0) (vs := [(.int .i64 0), (.int .i64 0), (.int .i64 0), (.slice none 0 0)]) rfl rfl rfl rfl T24 rfl (Nat.le_of_ble_eq_true rfl) (ones_of rfl) ?_
        intro w_m hp hs
        replace r_b := r_b.step hs
        apply go
        obtain rfl := Option.some.inj h
        refine ⟨_, run_loadVarA T24 rfl (hp.at_ (i := 0) rfl), ?_⟩
        have hp := hp.sel [] (by decide)
        exact ⟨I_9, .slice none 0 0, rfl, hp, RepS.nil _ _ _⟩
      ·
        have h := cond_f h hc
        apply go
        apply go
        apply go
        refine ev (rn_load rfl rfl (run_loadVarA T24 rfl (hp.at_ (i := 1) rfl))) ?_
        refine ev_storeA hp (i := 0) (off := 0) (vs := [(.int .i64 x_4.Kind), (.int .i64 x_4.Name), (.int .i64 x_4.Count), v_a]) rfl rfl rfl rfl T24 rfl (Nat.le_of_ble_eq_true rfl) (ones_cons rfl (ones_cons rfl (ones_cons rfl (ones_cons r_b.one ones_nil)))) ?_
        intro w_n hp hs
        replace r_b := r_b.step hs
        apply go
        obtain rfl := Option.some.inj h
        refine ⟨_, run_loadVarA T24 rfl (hp.at_ (i := 0) rfl), ?_⟩
        have hp := hp.sel [] (by decide)
        exact ⟨I_9, v_a, rfl, hp, r_b⟩

end Go.Proofs.YtknnmbcaoekgmaaDoor

namespace Go.Proofs.YtknnmbcaoekgmaaDoor
open Go Go.Proofs.YtknnmbcaoekgmaaDoor.Gw Go.RowKit
set_option linter.unusedVariables false
attribute [local irreducible] Ev EvQ EvS EvH
def law41_TreeParses_S (f : ByteArray → Option Bool) : Prop := ∀ (w0 : World) (I0 : Nat → Prop) (tb : Tb w0 I0 1 .u64 pow10) (x_0 : ByteArray) (hI : ∀ g, I0 g → g < w0.heap.size) (r : Bool), f x_0 = some r →
    Ret Tryd.prog 4 #[(.string x_0)] w0 fun v w1 => v = (.bool r) ∧ Ch [] w0 w1
theorem law41_TreeParses_ok (n : Nat) : law41_TreeParses_S (law41_TreeParses n) := by
  intro w0 I0 tb x_0 hI r h
  unfold law41_TreeParses at h
  refine enter Tryd.func4 rfl (Nat.le_of_ble_eq_true rfl) ?_
  have hp : Hp ⟨w0, I0, []⟩ I0 [] w0 := Hp.start hI
  apply go
  apply go
  apply go
  obtain ⟨y_1, q_2, h⟩ := bind_some h
  refine W.cut (γ := Bool) (fun g => [(0, (.string x_0)), (13, (.bool (g)))]) (fun g w' => y_1 = (g) ∧ Hp ⟨w0, I0, []⟩ I0 [] w' ∧ Tb w' I0 1 .u64 pow10) ?_ ?_
  ·
    apply go
    obtain ⟨x_3, q_4, q_2⟩ := bind_some q_2
    refine ev_call rfl rfl C5 (((law41_awake_ok n) _ _   hp.imm _ q_4).mono ?_)
    rintro _ w_5 ⟨rfl, hc⟩
    have hs := hp.stp hc
    replace hp := hp.ext hc
    replace tb := tb.step hs
    refine sel_of (fun hc => ?_) (fun hc => ?_)
    ·
      have q_2 := cond_t q_2 hc
      obtain rfl := Option.some.inj q_2
      exact ⟨true, (.c rfl (.c rfl .n)), rfl, hp, tb⟩
    ·
      have q_2 := cond_f q_2 hc
      refine ev0 (rn_lenS rfl rfl Tryd.underlying9) ?_
      obtain rfl := Option.some.inj q_2
      exact ⟨(decide ((x_0.size : Int) > 5000)), (.c rfl (.c rfl .n)), rfl, hp, tb⟩
  ·
    rintro x_6 w_7 ⟨hy, hp, tb⟩
    replace hy := hy.symm
    subst hy
    apply go
    refine sel_of (fun hc => ?_) (fun hc => ?_)
    ·
      have h := cond_t h hc
      apply go
      apply go
      obtain ⟨x_8, q_9, h⟩ := bind_some h
      refine ev_call rfl rfl C5 (((law41_awake_ok n) _ _   hp.imm _ q_9).mono ?_)
      rintro _ w_a ⟨rfl, hc⟩
      have hs := hp.stp hc
      replace hp := hp.ext hc
      replace tb := tb.step hs
      apply go
      obtain rfl := Option.some.inj h
      exact ⟨rfl, hp.ch⟩
    ·
      have h := cond_f h hc
      apply go
      apply go
      apply go
      obtain ⟨⟨x_b, x_c⟩, q_d, h⟩ := bind_some h
      refine ev_call rfl rfl C9 (((tree_Parse_ok n) _ _ tb x_0 hp.imm _ q_d).mono ?_)
      rintro _ w_e ⟨I_f, v_g, hv, hq, r_h⟩
      replace hv := hv.symm
      subst hv
      have hs := hq.st
      have hp := hp.join0 hq
      replace tb := tb.step hs
      refine ev_alloc hp rfl T24 ?_
      intro g_i w_j hp hs
      replace r_h := r_h.step hs
      replace tb := tb.step hs
      refine ev_storeA hp (i := 0) (off := 0) (vs := [(.int .i64 x_b.Kind), (.int .i64 x_b.Name), (.int .i64 x_b.Count), v_g]) rfl rfl rfl rfl T24 rfl (Nat.le_of_ble_eq_true rfl) (ones_cons rfl (ones_cons rfl (ones_cons rfl (ones_cons r_h.one ones_nil)))) ?_
      intro w_k hp hs
      replace r_h := r_h.step hs
      replace tb := tb.step hs
      apply go
      apply go
      obtain ⟨⟨x_l, x_m⟩, q_n, h⟩ := bind_some h
      refine ev_call rfl rfl C12 (((ref41_Parse_ok n) _ _  x_0 hp.imm _ q_n).mono ?_)
      rintro _ w_o ⟨I_p, v_q, hv, hq, r_r⟩
      replace hv := hv.symm
      subst hv
      have hs := hq.st
      have hp := hp.join0 hq
      replace r_h := r_h.step hs
      replace tb := tb.step hs
      refine ev_alloc hp rfl T24 ?_
      intro g_s w_t hp hs
      replace r_r := r_r.step hs
      replace r_h := r_h.step hs
      replace tb := tb.step hs
      refine ev_storeA hp (i := 0) (off := 0) (vs := [(.int .i64 x_l.Kind), (.int .i64 x_l.Name), (.int .i64 x_l.Count), v_q]) rfl rfl rfl rfl T24 rfl (Nat.le_of_ble_eq_true rfl) (ones_cons rfl (ones_cons rfl (ones_cons rfl (ones_cons r_r.one ones_nil)))) ?_
      intro w_u hp hs
      replace r_r := r_r.step hs
      replace r_h := r_h.step hs
      replace tb := tb.step hs
      obtain ⟨y_v, q_w, h⟩ := bind_some h
      refine W.cut (γ := Bool) (fun g => [(2, (.bool (g)))]) (fun g w' => y_v = (g) ∧ Hp ⟨w0, I0, []⟩ I_p [] w' ∧ Tb w' I_p 1 .u64 pow10) ?_ ?_
      ·
        apply go
        refine sel_of (fun hc => ?_) (fun hc => ?_)
        ·
          have q_w := cond_t q_w hc
          refine ev (rn_load rfl rfl (run_loadVarA T24 rfl (hp.at_ (i := 1) rfl))) ?_
          obtain ⟨x_x, q_y, q_w⟩ := bind_some q_w
          refine ev_call rfl rfl C6 (((law41_few_ok n) _ _  (Node.mk x_b.Kind x_b.Name x_b.Count x_b.Kids) v_g r_h hp.imm _ q_y).mono ?_)
          rintro _ w_z ⟨rfl, hc⟩
          have hs := hp.stp hc
          replace hp := hp.ext hc
          replace r_r := r_r.step hs
          replace r_h := r_h.step hs
          replace tb := tb.step hs
          refine sel_of (fun hc => ?_) (fun hc => ?_)
          ·
            have q_w := cond_t q_w hc
            refine ev (rn_load rfl rfl (run_loadVarA T24 rfl (hp.at_ (i := 1) rfl))) ?_
            refine ev (rn_load rfl rfl (run_loadVarA T24 rfl (hp.at_ (i := 0) rfl))) ?_
            obtain ⟨x_10, q_11, q_w⟩ := bind_some q_w
            refine ev_call rfl rfl C11 (((ref41_Same_ok n) _ _  (Node.mk x_b.Kind x_b.Name x_b.Count x_b.Kids) v_g r_h (Node.mk x_l.Kind x_l.Name x_l.Count x_l.Kids) v_q r_r hp.imm _ q_11).mono ?_)
            rintro _ w_12 ⟨rfl, hc⟩
            have hs := hp.stp hc
            replace hp := hp.ext hc
            replace r_r := r_r.step hs
            replace r_h := r_h.step hs
            replace tb := tb.step hs
            refine sel_of (fun hc => ?_) (fun hc => ?_)
            ·
              have q_w := cond_t q_w hc
              refine sel_of (fun hc => ?_) (fun hc => ?_)
              ·
                have q_w := cond_t q_w hc
                obtain rfl := Option.some.inj q_w
                have hp := hp.sel [] (by decide)
                exact ⟨true, (.c rfl .n), rfl, hp, tb⟩
              ·
                have q_w := cond_f q_w hc
                refine ev (rn_load rfl rfl (run_loadVarA T24 rfl (hp.at_ (i := 1) rfl))) ?_
                obtain ⟨x_13, q_14, q_w⟩ := bind_some q_w
                refine ev_call rfl rfl C7 (((tree_Text_ok n) _ _ tb (Node.mk x_b.Kind x_b.Name x_b.Count x_b.Kids) v_g r_h hp.imm _ q_14).mono ?_)
                rintro _ w_15 ⟨rfl, hc⟩
                have hs := hp.stp hc
                replace hp := hp.ext hc
                replace r_r := r_r.step hs
                replace r_h := r_h.step hs
                replace tb := tb.step hs
                obtain rfl := Option.some.inj q_w
                have hp := hp.sel [] (by decide)
                exact ⟨(x_13.toList == x_0.toList), (.c rfl .n), rfl, hp, tb⟩
            ·
              have q_w := cond_f q_w hc
              obtain rfl := Option.some.inj q_w
              have hp := hp.sel [] (by decide)
              exact ⟨false, (.c rfl .n), rfl, hp, tb⟩
          ·
            have q_w := cond_f q_w hc
            obtain rfl := Option.some.inj q_w
            have hp := hp.sel [] (by decide)
            exact ⟨false, (.c rfl .n), rfl, hp, tb⟩
        ·
          have q_w := cond_f q_w hc
          obtain rfl := Option.some.inj q_w
          have hp := hp.sel [] (by decide)
          exact ⟨false, (.c rfl .n), rfl, hp, tb⟩
      ·
        rintro x_16 w_17 ⟨hy, hp, tb⟩
        replace hy := hy.symm
        subst hy
        apply go
        obtain rfl := Option.some.inj h
        exact ⟨rfl, hp.ch⟩

end Go.Proofs.YtknnmbcaoekgmaaDoor
