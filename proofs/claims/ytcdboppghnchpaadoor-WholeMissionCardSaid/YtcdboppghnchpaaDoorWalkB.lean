/-
  Each function of the program computes the plain function of its name.
-/
import Derived.Test.YtcdboppghnchpaaDoorFactsA
import Derived.Test.YtcdboppghnchpaaDoorWalkA
namespace Go.Proofs.YtcdboppghnchpaaDoor
open Go Go.Proofs.YtcdboppghnchpaaDoor.Gw Go.RowKit
set_option linter.unusedVariables false
attribute [local irreducible] Ev EvQ EvS EvH
def strings_IndexByte_S (f : ByteArray → Int → Option Int) : Prop := ∀ (w0 : World) (I0 : Nat → Prop) (x_0 : ByteArray) (x_1 : Int) (hI : ∀ g, I0 g → g < w0.heap.size) (r : Int), f x_0 x_1 = some r →
    Ret Tryd.prog 75 #[(.string x_0), (.int .u8 x_1)] w0 fun v w1 => v = (.int .i64 r) ∧ Ch [] w0 w1

theorem strings_IndexByte_ok (n : Nat) : strings_IndexByte_S (strings_IndexByte n) := by
  intro w0 I0 s c hI r h
  obtain rfl := Option.some.inj h
  exact ret_same (sh_strings_IndexByte s c w0)

end Go.Proofs.YtcdboppghnchpaaDoor

namespace Go.Proofs.YtcdboppghnchpaaDoor
open Go Go.Proofs.YtcdboppghnchpaaDoor.Gw Go.RowKit
set_option linter.unusedVariables false
attribute [local irreducible] Ev EvQ EvS EvH
def strconv_Atoi_S (f : ByteArray → Option (Int × Unit)) : Prop := ∀ (w0 : World) (I0 : Nat → Prop) (tb : Tb w0 I0 2 .u64 pow10) (x_0 : ByteArray) (hI : ∀ g, I0 g → g < w0.heap.size) (r : (Int × Unit)), f x_0 = some r →
    Ret Tryd.prog 99 #[(.string x_0)] w0 fun v w1 => v = (.tuple #[(.int .i64 r.1), .nilIface]) ∧ Ch [] w0 w1

theorem strconv_Atoi_ok (n : Nat) : strconv_Atoi_S (strconv_Atoi n) := by
  intro w0 I0 tb s hI r h
  unfold strconv_Atoi at h
  split at h
  · rename_i hs
    obtain ⟨z, hz, rfl⟩ := Option.map_eq_some_iff.1 h
    apply ret_below
    refine Calls.mono (sh_strconv_Atoi s z hs hz w0) ?_
    rintro e w1 ⟨rfl, t, rfl⟩
    exact ⟨rfl, below_bytesWorld w0 _ t⟩
  · cases h

end Go.Proofs.YtcdboppghnchpaaDoor

namespace Go.Proofs.YtcdboppghnchpaaDoor
open Go Go.Proofs.YtcdboppghnchpaaDoor.Gw Go.RowKit
set_option linter.unusedVariables false
attribute [local irreducible] Ev EvQ EvS EvH
def tree_parser_number_S (f : Parser → Option (Int × Bool × Parser)) : Prop := ∀ (w0 : World) (I0 : Nat → Prop) (tb : Tb w0 I0 2 .u64 pow10) (x_0 : Parser) (g_1 : Nat) (E_2 : List Ent) (q_3 : qP w0 I0 g_1 E_2 x_0) (hp : Hp ⟨w0, I0, blks E_2⟩ I0 E_2 w0) (r : (Int × Bool × Parser)), f x_0 = some r →
    Ret Tryd.prog 76 #[(.pointer (some ⟨g_1, 0, none⟩))] w0 fun v w1 => ∃ (I1 : Nat → Prop) (u_4 : List Ent), v = (.tuple #[(.int .i64 r.1), (.bool r.2.1)]) ∧ Hp ⟨w0, I0, blks E_2⟩ I1 u_4 w1 ∧ qP w1 I1 g_1 u_4 r.2.2
theorem tree_parser_number_ok (n : Nat) : tree_parser_number_S (tree_parser_number n) := by
  intro w0 I0 tb x_0 g_1 E_2 q_3 hp r h
  unfold tree_parser_number at h
  refine enter Tryd.func76 rfl (Nat.le_of_ble_eq_true rfl) ?_
  generalize blks E_2 = B at hp ⊢
  obtain rfl := q_3
  have hp : Hp ⟨w0, I0, B⟩ I0 [some (g_1, [(.string x_0.s), (.int .i64 x_0.nodes)], 96)] w0 := hp
  apply go
  apply go
  apply go
  apply go
  obtain ⟨y_4, q_5, h⟩ := bind_some h
  refine W.cut (γ := Int) (fun g => [(0, (.pointer (some ⟨g_1, 0, none⟩))), (4, (.int .i64 (g)))]) (fun g w' => y_4 = (g) ∧ w0 = w') ?_ ?_
  ·
    apply go
    refine W.loop q_5 (γ := Unit) (fun s _ => [(0, (.pointer (some ⟨g_1, 0, none⟩))), (4, (.int .i64 (s)))]) (fun s _ w' => w0 = w') () (.c rfl (.c rfl .n)) rfl ?_
    rintro x_6 ⟨⟩ _ y_7 rfl q_8 q_9
    unfold tree_parser_number_L1 at q_8
    apply go
    obtain ⟨y_a, q_b, q_8⟩ := bind_some q_8
    refine W.cut (γ := Bool) (fun g => [(0, (.pointer (some ⟨g_1, 0, none⟩))), (4, (.int .i64 x_6)), (31, (.bool (g)))]) (fun g w' => y_a = (g) ∧ w0 = w') ?_ ?_
    ·
      apply go
      refine ev0 (rn_field rfl rfl FO96_0) ?_
      refine ev (rn_load rfl rfl (run_loadVar1 T9 (hp.cell (i := 0) (off := 0) rfl rfl))) ?_
      refine ev0 (rn_lenS rfl rfl Tryd.underlying9) ?_
      refine sel_of (fun hc => ?_) (fun hc => ?_)
      ·
        have q_b := cond_t q_b hc
        refine ev0 (rn_field rfl rfl FO96_0) ?_
        refine ev (rn_load rfl rfl (run_loadVar1 T9 (hp.cell (i := 0) (off := 0) rfl rfl))) ?_
        obtain ⟨x_c, q_d, q_b⟩ := bind_some q_b
        refine ev0 (rn_indexS rfl rfl rfl Tryd.underlying9 q_d) ?_
        refine sel_of (fun hc => ?_) (fun hc => ?_)
        ·
          have q_b := cond_t q_b hc
          refine ev0 (rn_field rfl rfl FO96_0) ?_
          refine ev (rn_load rfl rfl (run_loadVar1 T9 (hp.cell (i := 0) (off := 0) rfl rfl))) ?_
          obtain ⟨x_e, q_f, q_b⟩ := bind_some q_b
          refine ev0 (rn_indexS rfl rfl rfl Tryd.underlying9 q_f) ?_
          obtain rfl := Option.some.inj q_b
          exact ⟨(decide (x_e ≤ 57)), (.c rfl (.c rfl (.c rfl .n))), rfl, rfl⟩
        ·
          have q_b := cond_f q_b hc
          obtain rfl := Option.some.inj q_b
          exact ⟨false, (.c rfl (.c rfl (.c rfl .n))), rfl, rfl⟩
      ·
        have q_b := cond_f q_b hc
        obtain rfl := Option.some.inj q_b
        exact ⟨false, (.c rfl (.c rfl (.c rfl .n))), rfl, rfl⟩
    ·
      rintro x_g _ ⟨hy, rfl⟩
      replace hy := hy.symm
      subst hy
      apply go
      refine sel_of (fun hc => ?_) (fun hc => ?_)
      ·
        have q_8 := cond_t q_8 hc
        apply go
        apply go
        apply go
        exact ⟨_, (Option.some.inj q_8).symm, (), (.c rfl (.c rfl .n)), rfl⟩
      ·
        have q_8 := cond_f q_8 hc
        apply go
        have q_h := congrArg some (q_9 _ (Option.some.inj q_8).symm)
        obtain rfl := Option.some.inj q_h
        exact ⟨x_6, (.c rfl (.c rfl .n)), rfl, rfl⟩
  ·
    rintro x_i _ ⟨hy, rfl⟩
    replace hy := hy.symm
    subst hy
    apply go
    obtain ⟨y_j, q_k, h⟩ := bind_some h
    refine W.cut (γ := Bool) (fun g => [(0, (.pointer (some ⟨g_1, 0, none⟩))), (4, (.int .i64 x_i)), (51, (.bool (g)))]) (fun g w' => y_j = (g) ∧ w0 = w') ?_ ?_
    ·
      apply go
      refine sel_of (fun hc => ?_) (fun hc => ?_)
      ·
        have q_k := cond_t q_k hc
        obtain rfl := Option.some.inj q_k
        exact ⟨true, (.c rfl (.c rfl (.c rfl .n))), rfl, rfl⟩
      ·
        have q_k := cond_f q_k hc
        refine sel_of (fun hc => ?_) (fun hc => ?_)
        ·
          have q_k := cond_t q_k hc
          obtain rfl := Option.some.inj q_k
          exact ⟨true, (.c rfl (.c rfl (.c rfl .n))), rfl, rfl⟩
        ·
          have q_k := cond_f q_k hc
          refine ev0 (rn_field rfl rfl FO96_0) ?_
          refine ev (rn_load rfl rfl (run_loadVar1 T9 (hp.cell (i := 0) (off := 0) rfl rfl))) ?_
          obtain ⟨x_l, q_m, q_k⟩ := bind_some q_k
          refine ev0 (rn_indexS rfl rfl rfl Tryd.underlying9 q_m) ?_
          refine sel_of (fun hc => ?_) (fun hc => ?_)
          ·
            have q_k := cond_t q_k hc
            obtain rfl := Option.some.inj q_k
            exact ⟨(decide (x_i > 1)), (.c rfl (.c rfl (.c rfl .n))), rfl, rfl⟩
          ·
            have q_k := cond_f q_k hc
            obtain rfl := Option.some.inj q_k
            exact ⟨false, (.c rfl (.c rfl (.c rfl .n))), rfl, rfl⟩
    ·
      rintro x_n _ ⟨hy, rfl⟩
      replace hy := hy.symm
      subst hy
      apply go
      refine sel_of (fun hc => ?_) (fun hc => ?_)
      ·
        have h := cond_t h hc
        apply go
        apply go
        apply go
        obtain rfl := Option.some.inj h
        exact ⟨I0, [some (g_1, [(.string x_0.s), (.int .i64 x_0.nodes)], 96)], rfl, hp, rfl⟩
      ·
        have h := cond_f h hc
        apply go
        apply go
        apply go
        refine ev0 (rn_field rfl rfl FO96_0) ?_
        refine ev (rn_load rfl rfl (run_loadVar1 T9 (hp.cell (i := 0) (off := 0) rfl rfl))) ?_
        obtain ⟨x_o, q_p, h⟩ := bind_some h
        refine ev0 (rn_sliceStr (kl := .i64) (kh := .i64) rfl rfl rfl rfl Tryd.underlying9 q_p) ?_
        obtain ⟨⟨x_q, x_r⟩, q_s, h⟩ := bind_some h
        refine ev_call rfl rfl C99 (((strconv_Atoi_ok n) _ _ tb x_o hp.imm _ q_s).mono ?_)
        rintro _ w_t ⟨rfl, hc⟩
        have hs := hp.stp hc
        replace hp := hp.ext hc
        replace tb := tb.step hs
        apply go
        apply go
        refine ev0 (rn_field rfl rfl FO96_0) ?_
        refine ev (rn_load rfl rfl (run_loadVar1 T9 (hp.cell (i := 0) (off := 0) rfl rfl))) ?_
        obtain ⟨x_u, q_v, h⟩ := bind_some h
        refine ev0 (rn_sliceStr (kl := .i64) (kh := .i64) rfl rfl rfl rfl Tryd.underlying9 q_v) ?_
        refine ev0 (rn_field rfl rfl FO96_0) ?_
        refine ev_store1 hp (i := 0) (off := 0) rfl rfl rfl rfl T9 rfl (Nat.le_of_ble_eq_true rfl) ?_
        intro w_w hp hs
        replace tb := tb.step hs
        apply go
        apply go
        apply go
        obtain rfl := Option.some.inj h
        exact ⟨I0, [some (g_1, [(.string x_u), (.int .i64 x_0.nodes)], 96)], rfl, hp, rfl⟩

end Go.Proofs.YtcdboppghnchpaaDoor

namespace Go.Proofs.YtcdboppghnchpaaDoor
open Go Go.Proofs.YtcdboppghnchpaaDoor.Gw Go.RowKit
set_option linter.unusedVariables false
attribute [local irreducible] Ev EvQ EvS EvH
def tree_parser_node_S (f : Parser → Int → Option (Node × Bool × Parser)) : Prop := ∀ (w0 : World) (I0 : Nat → Prop) (tb : Tb w0 I0 2 .u64 pow10) (x_0 : Parser) (g_1 : Nat) (E_2 : List Ent) (q_3 : qP w0 I0 g_1 E_2 x_0) (x_4 : Int) (hp : Hp ⟨w0, I0, blks E_2⟩ I0 E_2 w0) (r : (Node × Bool × Parser)), f x_0 x_4 = some r →
    Ret Tryd.prog 45 #[(.pointer (some ⟨g_1, 0, none⟩)), (.int .i64 x_4)] w0 fun v w1 => ∃ (I1 : Nat → Prop) (u_5 : Value) (u_6 : List Ent), v = (.tuple #[(.agg #[(.int .i64 r.1.Kind), (.int .i64 r.1.Name), (.int .i64 r.1.Count), u_5]), (.bool r.2.1)]) ∧ Hp ⟨w0, I0, blks E_2⟩ I1 u_6 w1 ∧ RepS dNode w1 I1 u_5 r.1.Kids ∧ qP w1 I1 g_1 u_6 r.2.2
theorem tree_parser_node_F_ok (n : Nat) (self : Parser → Int → Option (Node × Bool × Parser)) (ih : tree_parser_node_S self) : tree_parser_node_S (tree_parser_node_F n self) := by
  intro w0 I0 tb x_0 g_1 E_2 q_3 x_4 hp r h
  unfold tree_parser_node_F at h
  refine enter Tryd.func45 rfl (Nat.le_of_ble_eq_true rfl) ?_
  generalize blks E_2 = B at hp ⊢
  obtain rfl := q_3
  have hp : Hp ⟨w0, I0, B⟩ I0 [some (g_1, [(.string x_0.s), (.int .i64 x_0.nodes)], 96)] w0 := hp
  apply go
  apply go
  refine ev_alloc hp rfl T57 ?_
  intro g_5 w_6 hp hs
  replace tb := tb.step hs
  apply go
  apply go
  refine ev0 (rn_field rfl rfl FO96_1) ?_
  refine ev (rn_load rfl rfl (run_loadVar1 T3 (hp.cell (i := 1) (off := 1) rfl rfl))) ?_
  refine ev0 (rn_field rfl rfl FO96_1) ?_
  refine ev_store1 hp (i := 1) (off := 1) rfl rfl rfl rfl T3 rfl (Nat.le_of_ble_eq_true rfl) ?_
  intro w_7 hp hs
  replace tb := tb.step hs
  apply go
  obtain ⟨y_8, q_9, h⟩ := bind_some h
  refine W.cut (γ := Bool) (fun g => [(0, (.pointer (some ⟨g_1, 0, none⟩))), (1, (.int .i64 x_4)), (4, (.pointer (some ⟨g_5, 0, none⟩))), (32, (.bool (g)))]) (fun g w' => y_8 = (g) ∧ w_7 = w') ?_ ?_
  ·
    apply go
    refine sel_of (fun hc => ?_) (fun hc => ?_)
    ·
      have q_9 := cond_t q_9 hc
      obtain rfl := Option.some.inj q_9
      exact ⟨true, (.c rfl (.c rfl (.c rfl (.c rfl .n)))), rfl, rfl⟩
    ·
      have q_9 := cond_f q_9 hc
      refine ev0 (rn_field rfl rfl FO96_1) ?_
      refine ev (rn_load rfl rfl (run_loadVar1 T3 (hp.cell (i := 1) (off := 1) rfl rfl))) ?_
      refine sel_of (fun hc => ?_) (fun hc => ?_)
      ·
        have q_9 := cond_t q_9 hc
        obtain rfl := Option.some.inj q_9
        exact ⟨true, (.c rfl (.c rfl (.c rfl (.c rfl .n)))), rfl, rfl⟩
      ·
        have q_9 := cond_f q_9 hc
        refine ev0 (rn_field rfl rfl FO96_0) ?_
        refine ev (rn_load rfl rfl (run_loadVar1 T9 (hp.cell (i := 1) (off := 0) rfl rfl))) ?_
        obtain rfl := Option.some.inj q_9
        exact ⟨(x_0.s.toList == (ByteArray.mk #[]).toList), (.c rfl (.c rfl (.c rfl (.c rfl .n)))), rfl, rfl⟩
  ·
    rintro x_a _ ⟨hy, rfl⟩
    replace hy := hy.symm
    subst hy
    apply go
    refine sel_of (fun hc => ?_) (fun hc => ?_)
    ·
      have h := cond_t h hc
      apply go
      apply go
      refine ev0 (fun w => rn_build (cs := [(.int .i64 0), (.int .i64 0), (.int .i64 0), (.slice none 0 0)]) rfl rfl T57 PL57 rfl) ?_
      refine ev_storeA hp (i := 0) (off := 0) (vs := [(.int .i64 0), (.int .i64 0), (.int .i64 0), (.slice none 0 0)]) rfl rfl rfl rfl T57 rfl (Nat.le_of_ble_eq_true rfl) (ones_of rfl) ?_
      intro w_b hp hs
      replace tb := tb.step hs
      apply go
      obtain rfl := Option.some.inj h
      refine ⟨_, run_loadVarA T57 rfl (hp.at_ (i := 0) rfl), ?_⟩
      have hp := hp.sel [1] (by decide)
      exact ⟨I0, (.slice none 0 0), [some (g_1, [(.string x_0.s), (.int .i64 (IntKind.i64.wrap (x_0.nodes + 1)))], 96)], rfl, hp, RepS.nil _ _ _, rfl⟩
    ·
      have h := cond_f h hc
      apply go
      apply go
      apply go
      obtain ⟨⟨x_c, x_d⟩, q_e, h⟩ := bind_some h
      refine ev_call rfl rfl C74 (((tree_parser_take_ok n) _ _  (Parser.mk x_0.s (IntKind.i64.wrap (x_0.nodes + 1))) g_1 [some (g_1, [(.string x_0.s), (.int .i64 (IntKind.i64.wrap (x_0.nodes + 1)))], 96)] rfl 40 (hp.lendL [1] (by decide)) _ q_e).mono ?_)
      rintro _ w_f ⟨I_g, F_h, hv, hq6294, q_i⟩
      replace hv := hv.symm
      subst hv
      obtain rfl := q_i
      have hs := hq6294.st
      have hp := hp.backL [1] [0] (by decide) hq6294
      replace tb := tb.step hs
      apply go
      apply go
      apply go
      refine ev0 (rn_field rfl rfl FO96_0) ?_
      refine ev (rn_load rfl rfl (run_loadVar1 T9 (hp.cell (i := 0) (off := 0) rfl rfl))) ?_
      apply go
      refine sel_of (fun hc => ?_) (fun hc => ?_)
      ·
        have h := cond_t h hc
        apply go
        apply go
        refine ev0 (fun w => rn_build (cs := [(.int .i64 0), (.int .i64 0), (.int .i64 0), (.slice none 0 0)]) rfl rfl T57 PL57 rfl) ?_
        refine ev_storeA hp (i := 1) (off := 0) (vs := [(.int .i64 0), (.int .i64 0), (.int .i64 0), (.slice none 0 0)]) rfl rfl rfl rfl T57 rfl (Nat.le_of_ble_eq_true rfl) (ones_of rfl) ?_
        intro w_j hp hs
        replace tb := tb.step hs
        apply go
        obtain rfl := Option.some.inj h
        refine ⟨_, run_loadVarA T57 rfl (hp.at_ (i := 1) rfl), ?_⟩
        have hp := hp.sel [0] (by decide)
        exact ⟨I_g, (.slice none 0 0), [some (g_1, [(.string x_d.s), (.int .i64 x_d.nodes)], 96)], rfl, hp, RepS.nil _ _ _, rfl⟩
      ·
        have h := cond_f h hc
        apply go
        apply go
        apply go
        refine ev0 (rn_field rfl rfl FO96_0) ?_
        refine ev (rn_load rfl rfl (run_loadVar1 T9 (hp.cell (i := 0) (off := 0) rfl rfl))) ?_
        obtain ⟨x_k, q_l, h⟩ := bind_some h
        refine ev0 (rn_indexS rfl rfl rfl Tryd.underlying9 q_l) ?_
        obtain ⟨x_m, q_n, h⟩ := bind_some h
        refine ev_call rfl rfl C75 (((strings_IndexByte_ok n) _ _  (ByteArray.mk #[32, 97, 116, 115, 102, 112, 105, 114, 111]) x_k hp.imm _ q_n).mono ?_)
        rintro _ w_o ⟨rfl, hc⟩
        have hs := hp.stp hc
        replace hp := hp.ext hc
        replace tb := tb.step hs
        refine ev0 (fun w => rn_build (cs := [(.int .i64 x_m), (.int .i64 0), (.int .i64 0), (.slice none 0 0)]) rfl rfl T57 PL57 rfl) ?_
        refine ev_alloc hp rfl T57 ?_
        intro g_p w_q hp hs
        replace tb := tb.step hs
        refine ev_storeA hp (i := 0) (off := 0) (vs := [(.int .i64 x_m), (.int .i64 0), (.int .i64 0), (.slice none 0 0)]) rfl rfl rfl rfl T57 rfl (Nat.le_of_ble_eq_true rfl) (ones_of rfl) ?_
        intro w_r hp hs
        replace tb := tb.step hs
        apply go
        apply go
        refine ev0 (rn_field rfl rfl FO96_0) ?_
        refine ev (rn_load rfl rfl (run_loadVar1 T9 (hp.cell (i := 1) (off := 0) rfl rfl))) ?_
        obtain ⟨x_s, q_t, h⟩ := bind_some h
        refine ev0 (rn_sliceStr (kl := .i64) (kh := .i64) rfl rfl rfl rfl Tryd.underlying9 q_t) ?_
        refine ev0 (rn_field rfl rfl FO96_0) ?_
        refine ev_store1 hp (i := 1) (off := 0) rfl rfl rfl rfl T9 rfl (Nat.le_of_ble_eq_true rfl) ?_
        intro w_u hp hs
        replace tb := tb.step hs
        apply go
        obtain ⟨y_v, q_w, h⟩ := bind_some h
        refine W.cut (γ := Bool) (fun g => [(0, (.pointer (some ⟨g_1, 0, none⟩))), (1, (.int .i64 x_4)), (4, (.pointer (some ⟨g_5, 0, none⟩))), (6, (.bool x_c)), (7, (.pointer (some ⟨g_p, 0, none⟩))), (66, (.bool (g)))]) (fun g w' => y_v = (g) ∧ w_u = w') ?_ ?_
        ·
          apply go
          refine ev0 (rn_field rfl rfl FO57_0) ?_
          refine ev (rn_load rfl rfl (run_loadVar1 T3 (hp.cell (i := 0) (off := 0) rfl rfl))) ?_
          refine sel_of (fun hc => ?_) (fun hc => ?_)
          ·
            have q_w := cond_t q_w hc
            obtain rfl := Option.some.inj q_w
            exact ⟨true, (.c rfl (.c rfl (.c rfl (.c rfl (.c rfl (.c rfl .n)))))), rfl, rfl⟩
          ·
            have q_w := cond_f q_w hc
            refine ev0 (rn_field rfl rfl FO57_0) ?_
            refine ev (rn_load rfl rfl (run_loadVar1 T3 (hp.cell (i := 0) (off := 0) rfl rfl))) ?_
            refine ev0 (rn_neB rfl rfl rfl Tryd.underlying4) ?_
            obtain rfl := Option.some.inj q_w
            exact ⟨(!(x_c == (decide (x_m ≥ 3)))), (.c rfl (.c rfl (.c rfl (.c rfl (.c rfl (.c rfl .n)))))), rfl, rfl⟩
        ·
          rintro x_x _ ⟨hy, rfl⟩
          replace hy := hy.symm
          subst hy
          apply go
          refine sel_of (fun hc => ?_) (fun hc => ?_)
          ·
            have h := cond_t h hc
            apply go
            apply go
            refine ev0 (fun w => rn_build (cs := [(.int .i64 0), (.int .i64 0), (.int .i64 0), (.slice none 0 0)]) rfl rfl T57 PL57 rfl) ?_
            refine ev_storeA hp (i := 2) (off := 0) (vs := [(.int .i64 0), (.int .i64 0), (.int .i64 0), (.slice none 0 0)]) rfl rfl rfl rfl T57 rfl (Nat.le_of_ble_eq_true rfl) (ones_of rfl) ?_
            intro w_y hp hs
            replace tb := tb.step hs
            apply go
            obtain rfl := Option.some.inj h
            refine ⟨_, run_loadVarA T57 rfl (hp.at_ (i := 2) rfl), ?_⟩
            have hp := hp.sel [1] (by decide)
            exact ⟨I_g, (.slice none 0 0), [some (g_1, [(.string x_s), (.int .i64 x_d.nodes)], 96)], rfl, hp, RepS.nil _ _ _, rfl⟩
          ·
            have h := cond_f h hc
            apply go
            apply go
            apply go
            obtain ⟨y_z, q_10, h⟩ := bind_some h
            refine W.cut (γ := (ByteArray × Int × Int × Int × Bool × (Nat → Prop))) (fun g => [(0, (.pointer (some ⟨g_1, 0, none⟩))), (1, (.int .i64 x_4)), (4, (.pointer (some ⟨g_5, 0, none⟩))), (6, (.bool x_c)), (7, (.pointer (some ⟨g_p, 0, none⟩))), (8, (.bool (g.2.2.2.2.1)))]) (fun g w' => y_z = ((g.1), (g.2.1), (g.2.2.1), (g.2.2.2.1), (g.2.2.2.2.1)) ∧ Hp ⟨w0, I0, B⟩ (g.2.2.2.2.2) [some (g_1, [(.string (g.1)), (.int .i64 (g.2.1))], 96), some (g_5, [(.int .i64 0), (.int .i64 0), (.int .i64 0), (.slice none 0 0)], 57), some (g_p, [(.int .i64 x_m), (.int .i64 (g.2.2.1)), (.int .i64 (g.2.2.2.1)), (.slice none 0 0)], 57)] w' ∧ Tb w' (g.2.2.2.2.2) 2 .u64 pow10) ?_ ?_
            ·
              apply go
              apply go
              refine ev0 (rn_field rfl rfl FO57_0) ?_
              refine ev (rn_load rfl rfl (run_loadVar1 T3 (hp.cell (i := 0) (off := 0) rfl rfl))) ?_
              apply go
              obtain ⟨y_11, q_12, q_10⟩ := bind_some q_10
              refine W.cut (γ := Bool) (fun g => [(0, (.pointer (some ⟨g_1, 0, none⟩))), (1, (.int .i64 x_4)), (4, (.pointer (some ⟨g_5, 0, none⟩))), (6, (.bool x_c)), (7, (.pointer (some ⟨g_p, 0, none⟩))), (8, (.bool true)), (69, (.int .i64 x_m)), (70, (.bool (g)))]) (fun g w' => y_11 = (g) ∧ w_u = w') ?_ ?_
              ·
                apply go
                apply go
                apply go
                refine sel_of (fun hc => ?_) (fun hc => ?_)
                ·
                  have q_12 := cond_t q_12 hc
                  apply go
                  obtain rfl := Option.some.inj q_12
                  exact ⟨(x_m == 1), (.c rfl (.c rfl (.c rfl (.c rfl (.c rfl (.c rfl (.c rfl (.c rfl .n)))))))), rfl, rfl⟩
                ·
                  have q_12 := cond_f q_12 hc
                  apply go
                  obtain rfl := Option.some.inj q_12
                  exact ⟨(x_m == 2), (.c rfl (.c rfl (.c rfl (.c rfl (.c rfl (.c rfl (.c rfl (.c rfl .n)))))))), rfl, rfl⟩
              ·
                rintro x_13 _ ⟨hy, rfl⟩
                replace hy := hy.symm
                subst hy
                apply go
                refine sel_of (fun hc => ?_) (fun hc => ?_)
                ·
                  have q_10 := cond_t q_10 hc
                  apply go
                  obtain ⟨⟨x_14, x_15, x_16⟩, q_17, q_10⟩ := bind_some q_10
                  refine ev_call rfl rfl C76 (((tree_parser_number_ok n) _ _ tb (Parser.mk x_s x_d.nodes) g_1 [some (g_1, [(.string x_s), (.int .i64 x_d.nodes)], 96)] rfl (hp.lendL [1] (by decide)) _ q_17).mono ?_)
                  rintro _ w_18 ⟨I_19, F_1a, hv, hq6357, q_1b⟩
                  replace hv := hv.symm
                  subst hv
                  obtain rfl := q_1b
                  have hs := hq6357.st
                  have hp := hp.backL [1] [0, 2] (by decide) hq6357
                  replace tb := tb.step hs
                  refine ev0 (rn_field rfl rfl FO57_1) ?_
                  refine ev_store1 hp (i := 1) (off := 1) rfl rfl rfl rfl T3 rfl (Nat.le_of_ble_eq_true rfl) ?_
                  intro w_1c hp hs
                  replace tb := tb.step hs
                  obtain rfl := Option.some.inj q_10
                  have hp := hp.perm [0, 2, 1] (by decide)
                  exact ⟨(x_16.s, x_16.nodes, x_14, 0, x_15, I_19), (.c rfl (.c rfl (.c rfl (.c rfl (.c rfl (.c rfl .n)))))), rfl, hp, tb⟩
                ·
                  have q_10 := cond_f q_10 hc
                  obtain ⟨y_1d, q_1e, q_10⟩ := bind_some q_10
                  refine W.cut (γ := Bool) (fun g => [(0, (.pointer (some ⟨g_1, 0, none⟩))), (1, (.int .i64 x_4)), (4, (.pointer (some ⟨g_5, 0, none⟩))), (6, (.bool x_c)), (7, (.pointer (some ⟨g_p, 0, none⟩))), (8, (.bool true)), (79, (.bool (g)))]) (fun g w' => y_1d = (g) ∧ w_u = w') ?_ ?_
                  ·
                    apply go
                    apply go
                    apply go
                    refine sel_of (fun hc => ?_) (fun hc => ?_)
                    ·
                      have q_1e := cond_t q_1e hc
                      apply go
                      obtain rfl := Option.some.inj q_1e
                      exact ⟨(x_m == 5), (.c rfl (.c rfl (.c rfl (.c rfl (.c rfl (.c rfl (.c rfl .n))))))), rfl, rfl⟩
                    ·
                      have q_1e := cond_f q_1e hc
                      apply go
                      apply go
                      apply go
                      refine sel_of (fun hc => ?_) (fun hc => ?_)
                      ·
                        have q_1e := cond_t q_1e hc
                        apply go
                        obtain rfl := Option.some.inj q_1e
                        exact ⟨(x_m == 7), (.c rfl (.c rfl (.c rfl (.c rfl (.c rfl (.c rfl (.c rfl .n))))))), rfl, rfl⟩
                      ·
                        have q_1e := cond_f q_1e hc
                        apply go
                        obtain rfl := Option.some.inj q_1e
                        exact ⟨(x_m == 8), (.c rfl (.c rfl (.c rfl (.c rfl (.c rfl (.c rfl (.c rfl .n))))))), rfl, rfl⟩
                  ·
                    rintro x_1f _ ⟨hy, rfl⟩
                    replace hy := hy.symm
                    subst hy
                    apply go
                    refine sel_of (fun hc => ?_) (fun hc => ?_)
                    ·
                      have q_10 := cond_t q_10 hc
                      apply go
                      obtain ⟨⟨x_1g, x_1h, x_1i⟩, q_1j, q_10⟩ := bind_some q_10
                      refine ev_call rfl rfl C76 (((tree_parser_number_ok n) _ _ tb (Parser.mk x_s x_d.nodes) g_1 [some (g_1, [(.string x_s), (.int .i64 x_d.nodes)], 96)] rfl (hp.lendL [1] (by decide)) _ q_1j).mono ?_)
                      rintro _ w_1k ⟨I_1l, F_1m, hv, hq6370, q_1n⟩
                      replace hv := hv.symm
                      subst hv
                      obtain rfl := q_1n
                      have hs := hq6370.st
                      have hp := hp.backL [1] [0, 2] (by decide) hq6370
                      replace tb := tb.step hs
                      refine ev0 (rn_field rfl rfl FO57_2) ?_
                      refine ev_store1 hp (i := 1) (off := 2) rfl rfl rfl rfl T3 rfl (Nat.le_of_ble_eq_true rfl) ?_
                      intro w_1o hp hs
                      replace tb := tb.step hs
                      obtain rfl := Option.some.inj q_10
                      have hp := hp.perm [0, 2, 1] (by decide)
                      exact ⟨(x_1i.s, x_1i.nodes, 0, x_1g, x_1h, I_1l), (.c rfl (.c rfl (.c rfl (.c rfl (.c rfl (.c rfl .n)))))), rfl, hp, tb⟩
                    ·
                      have q_10 := cond_f q_10 hc
                      apply go
                      obtain rfl := Option.some.inj q_10
                      have hp := hp.perm [1, 2, 0] (by decide)
                      exact ⟨(x_s, x_d.nodes, 0, 0, true, I_g), (.c rfl (.c rfl (.c rfl (.c rfl (.c rfl (.c rfl .n)))))), rfl, hp, tb⟩
            ·
              rintro ⟨x_1p, x_1q, x_1r, x_1s, x_1t, I_1u⟩ w_1v ⟨hy, hp, tb⟩
              replace hy := hy.symm
              subst hy
              obtain ⟨y_1w, q_1x, h⟩ := bind_some h
              refine W.cut (γ := (ByteArray × Int × (List Node) × Bool × Value × Ent × (Nat → Prop))) (fun g => [(0, (.pointer (some ⟨g_1, 0, none⟩))), (4, (.pointer (some ⟨g_5, 0, none⟩))), (6, (.bool x_c)), (7, (.pointer (some ⟨g_p, 0, none⟩))), (8, (.bool (g.2.2.2.1)))]) (fun g w' => y_1w = ((g.1), (g.2.1), (g.2.2.1), (g.2.2.2.1)) ∧ Hp ⟨w0, I0, B⟩ (g.2.2.2.2.2.2) [some (g_1, [(.string (g.1)), (.int .i64 (g.2.1))], 96), some (g_5, [(.int .i64 0), (.int .i64 0), (.int .i64 0), (.slice none 0 0)], 57), (g.2.2.2.2.2.1), some (g_p, [(.int .i64 x_m), (.int .i64 x_1r), (.int .i64 x_1s), (g.2.2.2.2.1)], 57)] w' ∧ OwnS dNode 57 w' (g.2.2.2.2.2.2) (g.2.2.2.2.1) (g.2.2.2.2.2.1) (g.2.2.1) ∧ Tb w' (g.2.2.2.2.2.2) 2 .u64 pow10) ?_ ?_
              ·
                apply go
                have hp := hp.none_
                have o_1y := OwnS.nil dNode 57 w_1v I_1u
                have hp := hp.perm [1, 2, 0, 3] (by decide)
                refine W.loop q_1x (γ := (Value × Ent × (Nat → Prop))) (fun s g => [(0, (.pointer (some ⟨g_1, 0, none⟩))), (1, (.int .i64 x_4)), (4, (.pointer (some ⟨g_5, 0, none⟩))), (6, (.bool x_c)), (7, (.pointer (some ⟨g_p, 0, none⟩))), (8, (.bool (s.2.2.2)))]) (fun s g w' => Hp ⟨w0, I0, B⟩ (g.2.2) [some (g_1, [(.string (s.1)), (.int .i64 (s.2.1))], 96), some (g_5, [(.int .i64 0), (.int .i64 0), (.int .i64 0), (.slice none 0 0)], 57), (g.2.1), some (g_p, [(.int .i64 x_m), (.int .i64 x_1r), (.int .i64 x_1s), (g.1)], 57)] w' ∧ OwnS dNode 57 w' (g.2.2) (g.1) (g.2.1) (s.2.2.1) ∧ Tb w' (g.2.2) 2 .u64 pow10) ((.slice none 0 0), none, I_1u) (.c rfl (.c rfl (.c rfl (.c rfl (.c rfl (.c rfl .n)))))) ⟨hp, o_1y, tb⟩ ?_
                rintro ⟨x_1z, x_20, x_21, x_22⟩ ⟨v_23, e_24, I_25⟩ w_26 y_27 ⟨hp, o_28, tb⟩ q_29 q_2a
                unfold tree_parser_node_L1 at q_29
                apply go
                obtain ⟨y_2b, q_2c, q_29⟩ := bind_some q_29
                refine W.cut (γ := (ByteArray × Int × Bool × (Nat → Prop))) (fun g => [(0, (.pointer (some ⟨g_1, 0, none⟩))), (1, (.int .i64 x_4)), (4, (.pointer (some ⟨g_5, 0, none⟩))), (6, (.bool x_c)), (7, (.pointer (some ⟨g_p, 0, none⟩))), (8, (.bool x_22)), (96, (.bool (g.2.2.1)))]) (fun g w' => y_2b = ((g.1), (g.2.1), (g.2.2.1)) ∧ Hp ⟨w0, I0, B⟩ (g.2.2.2) [some (g_1, [(.string (g.1)), (.int .i64 (g.2.1))], 96), some (g_5, [(.int .i64 0), (.int .i64 0), (.int .i64 0), (.slice none 0 0)], 57), e_24, some (g_p, [(.int .i64 x_m), (.int .i64 x_1r), (.int .i64 x_1s), v_23], 57)] w' ∧ OwnS dNode 57 w' (g.2.2.2) v_23 e_24 x_21 ∧ Tb w' (g.2.2.2) 2 .u64 pow10) ?_ ?_
                ·
                  apply go
                  refine sel_of (fun hc => ?_) (fun hc => ?_)
                  ·
                    have q_2c := cond_t q_2c hc
                    refine sel_of (fun hc => ?_) (fun hc => ?_)
                    ·
                      have q_2c := cond_t q_2c hc
                      obtain ⟨⟨x_2d, x_2e⟩, q_2f, q_2c⟩ := bind_some q_2c
                      refine ev_call rfl rfl C74 (((tree_parser_take_ok n) _ _  (Parser.mk x_1z x_20) g_1 [some (g_1, [(.string x_1z), (.int .i64 x_20)], 96)] rfl 32 (hp.lendL [0] (by decide)) _ q_2f).mono ?_)
                      rintro _ w_2g ⟨I_2h, F_2i, hv, hq6710, q_2j⟩
                      replace hv := hv.symm
                      subst hv
                      obtain rfl := q_2j
                      have hs := hq6710.st
                      have hp := hp.backL [0] [1, 2, 3] (by decide) hq6710
                      replace o_28 := o_28.step hs
                      replace tb := tb.step hs
                      obtain rfl := Option.some.inj q_2c
                      exact ⟨(x_2e.s, x_2e.nodes, x_2d, I_2h), (.c rfl (.c rfl (.c rfl (.c rfl (.c rfl (.c rfl (.c rfl .n))))))), rfl, hp, o_28, tb⟩
                    ·
                      have q_2c := cond_f q_2c hc
                      obtain rfl := Option.some.inj q_2c
                      exact ⟨(x_1z, x_20, false, I_25), (.c rfl (.c rfl (.c rfl (.c rfl (.c rfl (.c rfl (.c rfl .n))))))), rfl, hp, o_28, tb⟩
                  ·
                    have q_2c := cond_f q_2c hc
                    obtain rfl := Option.some.inj q_2c
                    exact ⟨(x_1z, x_20, false, I_25), (.c rfl (.c rfl (.c rfl (.c rfl (.c rfl (.c rfl (.c rfl .n))))))), rfl, hp, o_28, tb⟩
                ·
                  rintro ⟨x_2k, x_2l, x_2m, I_2n⟩ w_2o ⟨hy, hp, o_28, tb⟩
                  replace hy := hy.symm
                  subst hy
                  apply go
                  refine sel_of (fun hc => ?_) (fun hc => ?_)
                  ·
                    have q_29 := cond_t q_29 hc
                    apply go
                    apply go
                    apply go
                    apply go
                    refine ev_alloc hp rfl T57 ?_
                    intro g_2p w_2q hp hs
                    replace o_28 := o_28.step hs
                    replace tb := tb.step hs
                    apply go
                    apply go
                    obtain ⟨⟨x_2r, x_2s, x_2t⟩, q_2u, q_29⟩ := bind_some q_29
                    refine ev_call rfl rfl C45 ((ih _ _ tb (Parser.mk x_2k x_2l) g_1 [some (g_1, [(.string x_2k), (.int .i64 x_2l)], 96)] rfl (IntKind.i64.wrap (x_4 - 1)) (hp.lendL [1] (by decide)) _ q_2u).mono ?_)
                    rintro _ w_2v ⟨I_2w, v_2x, F_2y, hv, hq6723, r_2z, q_30⟩
                    replace hv := hv.symm
                    subst hv
                    obtain rfl := q_30
                    have hs := hq6723.st
                    have hp := hp.backL [1] [0, 2, 3, 4] (by decide) hq6723
                    replace o_28 := o_28.step hs
                    replace tb := tb.step hs
                    refine ev_storeA hp (i := 1) (off := 0) (vs := [(.int .i64 x_2r.Kind), (.int .i64 x_2r.Name), (.int .i64 x_2r.Count), v_2x]) rfl rfl rfl rfl T57 rfl (Nat.le_of_ble_eq_true rfl) (ones_cons rfl (ones_cons rfl (ones_cons rfl (ones_cons r_2z.one ones_nil)))) ?_
                    intro w_31 hp hs
                    replace r_2z := r_2z.step hs
                    replace o_28 := o_28.step hs
                    replace tb := tb.step hs
                    apply go
                    apply go
                    apply go
                    refine sel_of (fun hc => ?_) (fun hc => ?_)
                    ·
                      have q_29 := cond_t q_29 hc
                      apply go
                      refine ev0 (rn_field rfl rfl FO57_3) ?_
                      refine ev (rn_load rfl rfl (run_loadVar1 T55 (hp.cell (i := 4) (off := 3) rfl rfl))) ?_
                      refine ev (rn_load rfl rfl (run_loadVarA T57 rfl (hp.at_ (i := 1) rfl))) ?_
                      obtain ⟨A_32, m_33, m_34, rfl⟩ := r_2z.isSl
                      refine ev_litN (d := dNode) (xs := [(Node.mk x_2r.Kind x_2r.Name x_2r.Count x_2r.Kids)]) (cs := [(.int .i64 x_2r.Kind), (.int .i64 x_2r.Name), (.int .i64 x_2r.Count), (.slice A_32 m_33 m_34)]) hp rfl rfl Tryd.underlying55 T57 (by decide) rfl rfl (Elems.cons (d := dNode) (xs := _) (dNode_m (x := (Node.mk x_2r.Kind x_2r.Name x_2r.Count x_2r.Kids)) r_2z) (Elems.nil _ _ _ _)) ?_
                      intro v_35 I_36 w_37 hp hs r_38
                      replace o_28 := o_28.step hs
                      replace r_2z := r_2z.step hs
                      replace tb := tb.step hs
                      obtain ⟨x_39, q_3a, q_29⟩ := bind_some q_29
                      refine ev_append hp (i := 3) rfl rfl rfl rfl Tryd.underlying55 T57 rfl rfl o_28 r_38 q_3a ?_
                      rintro v_3b e_3c w_3d hp hs o_3e
                      replace r_2z := r_2z.step hs
                      replace o_28 := o_28.step hs
                      replace tb := tb.step hs
                      refine ev0 (rn_field rfl rfl FO57_3) ?_
                      refine ev_store1 hp (i := 4) (off := 3) rfl rfl rfl rfl T55 o_3e.one (Nat.le_of_ble_eq_true rfl) ?_
                      intro w_3f hp hs
                      replace r_2z := r_2z.step hs
                      replace o_3e := o_3e.step hs
                      replace tb := tb.step hs
                      have hp := hp.sel [0, 2, 3, 4] (by decide)
                      exact ⟨_, (Option.some.inj q_29).symm, (v_3b, e_3c, I_36), (.c rfl (.c rfl (.c rfl (.c rfl (.c rfl (.c rfl .n)))))), ⟨hp, o_3e, tb⟩⟩
                    ·
                      have q_29 := cond_f q_29 hc
                      apply go
                      have hp := hp.sel [0, 2, 3, 4] (by decide)
                      exact ⟨_, (Option.some.inj q_29).symm, (v_23, e_24, I_2w), (.c rfl (.c rfl (.c rfl (.c rfl (.c rfl (.c rfl .n)))))), ⟨hp, o_28, tb⟩⟩
                  ·
                    have q_29 := cond_f q_29 hc
                    apply go
                    have q_3g := congrArg some (q_2a _ (Option.some.inj q_29).symm)
                    obtain rfl := Option.some.inj q_3g
                    exact ⟨(x_2k, x_2l, x_21, x_22, v_23, e_24, I_2n), (.c rfl (.c rfl (.c rfl (.c rfl (.c rfl .n))))), rfl, hp, o_28, tb⟩
              ·
                rintro ⟨x_3h, x_3i, x_3j, x_3k, v_3l, e_3m, I_3n⟩ w_3o ⟨hy, hp, o_3p, tb⟩
                replace hy := hy.symm
                subst hy
                obtain ⟨y_3q, q_3r, h⟩ := bind_some h
                refine W.cut (γ := (Int × Int × Int × (List Node) × Bool × ByteArray × Int × Value × Ent × (Nat → Prop))) (fun g => [(4, (.pointer (some ⟨g_5, 0, none⟩))), (5, (.bool (g.2.2.2.2.1)))]) (fun g w' => y_3q = ((g.1), (g.2.1), (g.2.2.1), (g.2.2.2.1), (g.2.2.2.2.1), (g.2.2.2.2.2.1), (g.2.2.2.2.2.2.1)) ∧ Hp ⟨w0, I0, B⟩ (g.2.2.2.2.2.2.2.2.2) [(g.2.2.2.2.2.2.2.2.1), some (g_5, [(.int .i64 (g.1)), (.int .i64 (g.2.1)), (.int .i64 (g.2.2.1)), (g.2.2.2.2.2.2.2.1)], 57), some (g_1, [(.string (g.2.2.2.2.2.1)), (.int .i64 (g.2.2.2.2.2.2.1))], 96)] w' ∧ OwnS dNode 57 w' (g.2.2.2.2.2.2.2.2.2) (g.2.2.2.2.2.2.2.1) (g.2.2.2.2.2.2.2.2.1) (g.2.2.2.1) ∧ Tb w' (g.2.2.2.2.2.2.2.2.2) 2 .u64 pow10) ?_ ?_
                ·
                  have hs := hp.stp (Ch.drew [] w_3o)
                  have hp := hp.drew
                  replace o_3p := o_3p.step hs
                  replace tb := tb.step hs
                  refine W.held [(0, true), (1, true), (2, true), (3, true), (4, true), (5, true), (6, true), (7, false), (8, true), (9, true), (10, false), (11, true)] (fun x => Stp I_3n w_3o.drew I_3n x ∧ OwnK [(g_p, [(.int .i64 x_m), (.int .i64 x_1r), (.int .i64 x_1s), v_3l], 57)] x) MX (by kernel_rfl) ⟨Stp.refl _ _, (OwnK.cons (hp.own 3 _ _ _ rfl).1 OwnK.nil)⟩ ?_
                  have hz := Stp.refl I_3n w_3o.drew
                  refine evh (fun w' hw => rn_load rfl rfl (run_loadVarA T57 rfl (hw.2.at_ (i := 0) rfl))) ?_
                  refine sel_of (fun hc => ?_) (fun hc => ?_)
                  ·
                    have q_3r := cond_t q_3r hc
                    refine sel_of (fun hc => ?_) (fun hc => ?_)
                    ·
                      have q_3r := cond_t q_3r hc
                      refine ⟨fun x => Stp I_3n w_3o.drew I_3n x ∧ OwnK [(g_p, [(.int .i64 x_m), (.int .i64 x_1r), (.int .i64 x_1s), v_3l], 57)] x, ⟨Stp.refl _ _, (OwnK.cons (hp.own 3 _ _ _ rfl).1 OwnK.nil)⟩, fun x hx => ⟨hz.held hx.1, hx.2⟩, ?_⟩
                      have hz := Stp.refl I_3n w_3o.drew
                      refine ev_storeA hp (i := 1) (off := 0) (vs := [(.int .i64 x_m), (.int .i64 x_1r), (.int .i64 x_1s), v_3l]) rfl rfl rfl rfl T57 rfl (Nat.le_of_ble_eq_true rfl) (ones_cons rfl (ones_cons rfl (ones_cons rfl (ones_cons o_3p.one ones_nil)))) ?_
                      intro w_3s hp hs
                      replace hz := hz.trans hs
                      replace o_3p := o_3p.step hs
                      replace tb := tb.step hs
                      refine ⟨fun x => Stp I_3n w_3s I_3n x ∧ OwnK [(g_p, [(.int .i64 x_m), (.int .i64 x_1r), (.int .i64 x_1s), v_3l], 57)] x, ⟨Stp.refl _ _, (OwnK.cons (hp.own 3 _ _ _ rfl).1 OwnK.nil)⟩, fun x hx => ⟨hz.held hx.1, hx.2⟩, ?_⟩
                      have hz := Stp.refl I_3n w_3s
                      obtain rfl := Option.some.inj q_3r
                      have hp := hp.perm [2, 1, 0] (by decide)
                      exact ⟨(x_m, x_1r, x_1s, x_3j, true, x_3h, x_3i, v_3l, e_3m, I_3n), (.c rfl (.c rfl .n)), rfl, hp, o_3p, tb⟩
                    ·
                      have q_3r := cond_f q_3r hc
                      obtain ⟨⟨x_3t, x_3u⟩, q_3v, q_3r⟩ := bind_some q_3r
                      refine ev_call rfl rfl C74 (((tree_parser_take_ok n) _ _  (Parser.mk x_3h x_3i) g_1 [some (g_1, [(.string x_3h), (.int .i64 x_3i)], 96)] rfl 41 (hp.lendL [0] (by decide)) _ q_3v).mono ?_)
                      rintro _ w_3w ⟨I_3x, F_3y, hv, hq6796, q_3z⟩
                      replace hv := hv.symm
                      subst hv
                      obtain rfl := q_3z
                      have hs := hq6796.st
                      have hp := hp.backL [0] [1, 2, 3] (by decide) hq6796
                      replace hz := hz.trans hs
                      replace o_3p := o_3p.step hs
                      replace tb := tb.step hs
                      refine ⟨fun x => Stp I_3x w_3w I_3x x ∧ OwnK [(g_p, [(.int .i64 x_m), (.int .i64 x_1r), (.int .i64 x_1s), v_3l], 57)] x, ⟨Stp.refl _ _, (OwnK.cons (hp.own 3 _ _ _ rfl).1 OwnK.nil)⟩, fun x hx => ⟨hz.held hx.1, hx.2⟩, ?_⟩
                      have hz := Stp.refl I_3x w_3w
                      refine ev_storeA hp (i := 1) (off := 0) (vs := [(.int .i64 x_m), (.int .i64 x_1r), (.int .i64 x_1s), v_3l]) rfl rfl rfl rfl T57 rfl (Nat.le_of_ble_eq_true rfl) (ones_cons rfl (ones_cons rfl (ones_cons rfl (ones_cons o_3p.one ones_nil)))) ?_
                      intro w_40 hp hs
                      replace hz := hz.trans hs
                      replace o_3p := o_3p.step hs
                      replace tb := tb.step hs
                      refine ⟨fun x => Stp I_3x w_40 I_3x x ∧ OwnK [(g_p, [(.int .i64 x_m), (.int .i64 x_1r), (.int .i64 x_1s), v_3l], 57)] x, ⟨Stp.refl _ _, (OwnK.cons (hp.own 3 _ _ _ rfl).1 OwnK.nil)⟩, fun x hx => ⟨hz.held hx.1, hx.2⟩, ?_⟩
                      have hz := Stp.refl I_3x w_40
                      obtain rfl := Option.some.inj q_3r
                      have hp := hp.perm [2, 1, 0] (by decide)
                      exact ⟨(x_m, x_1r, x_1s, x_3j, x_3t, x_3u.s, x_3u.nodes, v_3l, e_3m, I_3x), (.c rfl (.c rfl .n)), rfl, hp, o_3p, tb⟩
                  ·
                    have q_3r := cond_f q_3r hc
                    refine ⟨fun x => Stp I_3n w_3o.drew I_3n x ∧ OwnK [(g_p, [(.int .i64 x_m), (.int .i64 x_1r), (.int .i64 x_1s), v_3l], 57)] x, ⟨Stp.refl _ _, (OwnK.cons (hp.own 3 _ _ _ rfl).1 OwnK.nil)⟩, fun x hx => ⟨hz.held hx.1, hx.2⟩, ?_⟩
                    have hz := Stp.refl I_3n w_3o.drew
                    refine ev_storeA hp (i := 1) (off := 0) (vs := [(.int .i64 x_m), (.int .i64 x_1r), (.int .i64 x_1s), v_3l]) rfl rfl rfl rfl T57 rfl (Nat.le_of_ble_eq_true rfl) (ones_cons rfl (ones_cons rfl (ones_cons rfl (ones_cons o_3p.one ones_nil)))) ?_
                    intro w_41 hp hs
                    replace hz := hz.trans hs
                    replace o_3p := o_3p.step hs
                    replace tb := tb.step hs
                    refine ⟨fun x => Stp I_3n w_41 I_3n x ∧ OwnK [(g_p, [(.int .i64 x_m), (.int .i64 x_1r), (.int .i64 x_1s), v_3l], 57)] x, ⟨Stp.refl _ _, (OwnK.cons (hp.own 3 _ _ _ rfl).1 OwnK.nil)⟩, fun x hx => ⟨hz.held hx.1, hx.2⟩, ?_⟩
                    have hz := Stp.refl I_3n w_41
                    obtain rfl := Option.some.inj q_3r
                    have hp := hp.perm [2, 1, 0] (by decide)
                    exact ⟨(x_m, x_1r, x_1s, x_3j, false, x_3h, x_3i, v_3l, e_3m, I_3n), (.c rfl (.c rfl .n)), rfl, hp, o_3p, tb⟩
                ·
                  rintro ⟨x_42, x_43, x_44, x_45, x_46, x_47, x_48, v_49, e_4a, I_4b⟩ w_4c ⟨hy, hp, o_4d, tb⟩
                  replace hy := hy.symm
                  subst hy
                  apply go
                  obtain rfl := Option.some.inj h
                  have r_4e := o_4d.frz hp (i := 0) rfl
                  obtain ⟨hp, hs⟩ := freeze_hp hp (i := 0) rfl
                  replace tb := tb.step hs
                  have hp := hp.sel [1, 2] (by decide)
                  refine ⟨_, run_loadVarA T57 rfl (hp.at_ (i := 0) rfl), ?_⟩
                  have hp := hp.sel [1] (by decide)
                  exact ⟨(Ad I_4b e_4a), v_49, [some (g_1, [(.string x_47), (.int .i64 x_48)], 96)], rfl, hp, r_4e, rfl⟩
theorem tree_parser_node_ok : ∀ n, tree_parser_node_S (tree_parser_node n)
  | 0 => by intro w0 I0 tb x_0 g_1 E_2 q_3 x_4 hp r h; cases h
  | n + 1 => tree_parser_node_F_ok n _ (tree_parser_node_ok n)

end Go.Proofs.YtcdboppghnchpaaDoor

namespace Go.Proofs.YtcdboppghnchpaaDoor
open Go Go.Proofs.YtcdboppghnchpaaDoor.Gw Go.RowKit
set_option linter.unusedVariables false
attribute [local irreducible] Ev EvQ EvS EvH
def tree_Parse_S (f : ByteArray → Option (Node × Int)) : Prop := ∀ (w0 : World) (I0 : Nat → Prop) (tb : Tb w0 I0 2 .u64 pow10) (x_0 : ByteArray) (hI : ∀ g, I0 g → g < w0.heap.size) (r : (Node × Int)), f x_0 = some r →
    Ret Tryd.prog 20 #[(.string x_0)] w0 fun v w1 => ∃ (I1 : Nat → Prop) (u_1 : Value), v = (.tuple #[(.agg #[(.int .i64 r.1.Kind), (.int .i64 r.1.Name), (.int .i64 r.1.Count), u_1]), (.int .i64 r.2)]) ∧ Hp ⟨w0, I0, []⟩ I1 [] w1 ∧ RepS dNode w1 I1 u_1 r.1.Kids
theorem tree_Parse_ok (n : Nat) : tree_Parse_S (tree_Parse n) := by
  intro w0 I0 tb x_0 hI r h
  unfold tree_Parse at h
  refine enter Tryd.func20 rfl (Nat.le_of_ble_eq_true rfl) ?_
  have hp : Hp ⟨w0, I0, []⟩ I0 [] w0 := Hp.start hI
  apply go
  apply go
  refine ev_alloc hp rfl T57 ?_
  intro g_1 w_2 hp hs
  replace tb := tb.step hs
  apply go
  apply go
  apply go
  refine ev0 (rn_lenS rfl rfl Tryd.underlying9) ?_
  apply go
  refine sel_of (fun hc => ?_) (fun hc => ?_)
  ·
    have h := cond_t h hc
    apply go
    apply go
    refine ev0 (fun w => rn_build (cs := [(.int .i64 0), (.int .i64 0), (.int .i64 0), (.slice none 0 0)]) rfl rfl T57 PL57 rfl) ?_
    refine ev_storeA hp (i := 0) (off := 0) (vs := [(.int .i64 0), (.int .i64 0), (.int .i64 0), (.slice none 0 0)]) rfl rfl rfl rfl T57 rfl (Nat.le_of_ble_eq_true rfl) (ones_of rfl) ?_
    intro w_3 hp hs
    replace tb := tb.step hs
    apply go
    obtain rfl := Option.some.inj h
    refine ⟨_, run_loadVarA T57 rfl (hp.at_ (i := 0) rfl), ?_⟩
    have hp := hp.sel [] (by decide)
    exact ⟨I0, .slice none 0 0, rfl, hp, RepS.nil _ _ _⟩
  ·
    have h := cond_f h hc
    apply go
    apply go
    apply go
    refine ev0 (fun w => rn_build (cs := [(.string x_0), (.int .i64 0)]) rfl rfl T96 PL96 rfl) ?_
    refine ev_box hp rfl rfl ?_
    intro g_4 w_5 hp hs
    replace tb := tb.step hs
    apply go
    apply go
    obtain ⟨⟨x_6, x_7, x_8⟩, q_9, h⟩ := bind_some h
    refine ev_call rfl rfl C45 (((tree_parser_node_ok n) _ _ tb (Parser.mk x_0 0) g_4 [some (g_4, [(.string x_0), (.int .i64 0)], 96)] rfl 16 (hp.lendL [0] (by decide)) _ q_9).mono ?_)
    rintro _ w_a ⟨I_b, v_c, F_d, hv, hq6817, r_e, q_f⟩
    replace hv := hv.symm
    subst hv
    obtain rfl := q_f
    have hs := hq6817.st
    have hp := hp.backL [0] [1] (by decide) hq6817
    replace tb := tb.step hs
    refine ev_alloc hp rfl T57 ?_
    intro g_g w_h hp hs
    replace r_e := r_e.step hs
    replace tb := tb.step hs
    refine ev_storeA hp (i := 0) (off := 0) (vs := [(.int .i64 x_6.Kind), (.int .i64 x_6.Name), (.int .i64 x_6.Count), v_c]) rfl rfl rfl rfl T57 rfl (Nat.le_of_ble_eq_true rfl) (ones_cons rfl (ones_cons rfl (ones_cons rfl (ones_cons r_e.one ones_nil)))) ?_
    intro w_i hp hs
    replace r_e := r_e.step hs
    replace tb := tb.step hs
    apply go
    obtain ⟨y_j, q_k, h⟩ := bind_some h
    refine W.cut (γ := Bool) (fun g => [(2, (.pointer (some ⟨g_1, 0, none⟩))), (5, (.pointer (some ⟨g_g, 0, none⟩))), (32, (.bool (g)))]) (fun g w' => y_j = (g) ∧ Hp ⟨w0, I0, []⟩ I_b [some (g_1, [(.int .i64 0), (.int .i64 0), (.int .i64 0), (.slice none 0 0)], 57), some (g_g, [(.int .i64 x_6.Kind), (.int .i64 x_6.Name), (.int .i64 x_6.Count), v_c], 57)] w' ∧ RepS dNode w' I_b v_c x_6.Kids ∧ Tb w' I_b 2 .u64 pow10) ?_ ?_
    ·
      apply go
      refine sel_of (fun hc => ?_) (fun hc => ?_)
      ·
        have q_k := cond_t q_k hc
        obtain rfl := Option.some.inj q_k
        have hp := hp.perm [2, 0] (by decide)
        exact ⟨true, (.c rfl (.c rfl (.c rfl .n))), rfl, hp, r_e, tb⟩
      ·
        have q_k := cond_f q_k hc
        refine ev0 (rn_field rfl rfl FO96_0) ?_
        refine ev (rn_load rfl rfl (run_loadVar1 T9 (hp.cell (i := 1) (off := 0) rfl rfl))) ?_
        refine sel_of (fun hc => ?_) (fun hc => ?_)
        ·
          have q_k := cond_t q_k hc
          obtain rfl := Option.some.inj q_k
          have hp := hp.perm [2, 0] (by decide)
          exact ⟨true, (.c rfl (.c rfl (.c rfl .n))), rfl, hp, r_e, tb⟩
        ·
          have q_k := cond_f q_k hc
          refine ev (rn_load rfl rfl (run_loadVarA T57 rfl (hp.at_ (i := 0) rfl))) ?_
          obtain ⟨x_l, q_m, q_k⟩ := bind_some q_k
          refine ev_call rfl rfl C46 (((tree_Valid_ok n) _ _  (Node.mk x_6.Kind x_6.Name x_6.Count x_6.Kids) v_c r_e hp.imm _ q_m).mono ?_)
          rintro _ w_n ⟨rfl, hc⟩
          have hs := hp.stp hc
          replace hp := hp.ext hc
          replace r_e := r_e.step hs
          replace tb := tb.step hs
          obtain rfl := Option.some.inj q_k
          have hp := hp.perm [2, 0] (by decide)
          exact ⟨(!x_l), (.c rfl (.c rfl (.c rfl .n))), rfl, hp, r_e, tb⟩
    ·
      rintro x_o w_p ⟨hy, hp, r_e, tb⟩
      replace hy := hy.symm
      subst hy
      apply go
      refine sel_of (fun hc => ?_) (fun hc => ?_)
      ·
        have h := cond_t h hc
        apply go
        apply go
        refine ev0 (fun w => rn_build (cs := [(.int .i64 0), (.int .i64 0), (.int .i64 0), (.slice none 0 0)]) rfl rfl T57 PL57 rfl) ?_
        refine ev_storeA hp (i := 0) (off := 0) (vs := [(.int .i64 0), (.int .i64 0), (.int .i64 0), (.slice none 0 0)]) rfl rfl rfl rfl T57 rfl (Nat.le_of_ble_eq_true rfl) (ones_of rfl) ?_
        intro w_q hp hs
        replace r_e := r_e.step hs
        replace tb := tb.step hs
        apply go
        obtain rfl := Option.some.inj h
        refine ⟨_, run_loadVarA T57 rfl (hp.at_ (i := 0) rfl), ?_⟩
        have hp := hp.sel [] (by decide)
        exact ⟨I_b, .slice none 0 0, rfl, hp, RepS.nil _ _ _⟩
      ·
        have h := cond_f h hc
        apply go
        apply go
        apply go
        refine ev (rn_load rfl rfl (run_loadVarA T57 rfl (hp.at_ (i := 1) rfl))) ?_
        refine ev_storeA hp (i := 0) (off := 0) (vs := [(.int .i64 x_6.Kind), (.int .i64 x_6.Name), (.int .i64 x_6.Count), v_c]) rfl rfl rfl rfl T57 rfl (Nat.le_of_ble_eq_true rfl) (ones_cons rfl (ones_cons rfl (ones_cons rfl (ones_cons r_e.one ones_nil)))) ?_
        intro w_r hp hs
        replace r_e := r_e.step hs
        replace tb := tb.step hs
        apply go
        obtain rfl := Option.some.inj h
        refine ⟨_, run_loadVarA T57 rfl (hp.at_ (i := 0) rfl), ?_⟩
        have hp := hp.sel [] (by decide)
        exact ⟨I_b, v_c, rfl, hp, r_e⟩

end Go.Proofs.YtcdboppghnchpaaDoor

namespace Go.Proofs.YtcdboppghnchpaaDoor
open Go Go.Proofs.YtcdboppghnchpaaDoor.Gw Go.RowKit
set_option linter.unusedVariables false
attribute [local irreducible] Ev EvQ EvS EvH
def mission_Mission_Done_S (f : Mission → Option ((List Bool) × Mission)) : Prop := ∀ (w0 : World) (I0 : Nat → Prop) (x_0 : Mission) (g_1 : Nat) (E_2 : List Ent) (q_3 : qM w0 I0 g_1 E_2 x_0) (hp : Hp ⟨w0, I0, blks E_2⟩ I0 E_2 w0) (r : ((List Bool) × Mission)), f x_0 = some r →
    Ret Tryd.prog 25 #[(.pointer (some ⟨g_1, 0, none⟩))] w0 fun v w1 => ∃ (I1 : Nat → Prop) (u_4 : Value) (u_5 : List Ent), v = u_4 ∧ Hp ⟨w0, I0, blks E_2⟩ I1 u_5 w1 ∧ RepS dB w1 I1 u_4 r.1 ∧ qM w1 I1 g_1 u_5 r.2
theorem mission_Mission_Done_ok (n : Nat) : mission_Mission_Done_S (mission_Mission_Done n) := by
  intro w0 I0 x_0 g_1 E_2 q_3 hp r h
  unfold mission_Mission_Done at h
  refine enter Tryd.func25 rfl (Nat.le_of_ble_eq_true rfl) ?_
  generalize blks E_2 = B at hp ⊢
  obtain ⟨g_4, E_5, v_6, e_7, rfl, q_8, o_9⟩ := q_3
  obtain ⟨v_a, v_b, e_c, v_d, e_e, rfl, r_f, o_g, o_h⟩ := q_8
  have hp : Hp ⟨w0, I0, B⟩ I0 [some (g_1, [(.pointer (some ⟨g_4, 0, none⟩)), v_6, (.int .i64 x_0.status), (.int .i64 x_0.ticks)], 91), some (g_4, [v_a, v_b, v_d], 108), e_c, e_e, e_7] w0 := hp
  apply go
  apply go
  apply go
  apply go
  apply go
  refine ev0 (rn_eqNilP rfl rfl rfl Tryd.underlying51 (b := false) rfl) ?_
  apply go
  apply go
  apply go
  apply go
  refine ev0 (rn_field rfl rfl FO91_1) ?_
  refine ev (rn_load rfl rfl (run_loadVar1 T65 (hp.cell (i := 0) (off := 1) rfl rfl))) ?_
  obtain ⟨⟨x_i, x_j⟩, q_k, h⟩ := bind_some h
  refine ev_call rfl rfl C50 (((slices_Clonebool_bool__ok n) _ _  x_0.done v_6 e_7 o_9 (hp.lendL [4] (by decide)) _ q_k).mono ?_)
  rintro _ w_l ⟨I_m, v_n, e_o, e_p, hv, hq6863, o_q, o_r⟩
  replace hv := hv.symm
  subst hv
  have hs := hq6863.st
  have hp := hp.backL [4] [0, 1, 2, 3] (by decide) hq6863
  replace r_f := r_f.step hs
  replace o_g := o_g.step hs
  replace o_h := o_h.step hs
  apply go
  obtain rfl := Option.some.inj h
  have r_s := o_q.frz hp (i := 0) rfl
  obtain ⟨hp, hs⟩ := freeze_hp hp (i := 0) rfl
  replace o_r := o_r.step hs
  replace r_f := r_f.step hs
  replace o_g := o_g.step hs
  replace o_h := o_h.step hs
  have hp := hp.sel [1, 2, 3, 4, 5] (by decide)
  have hp := hp.perm [1, 2, 3, 4, 0] (by decide)
  exact ⟨(Ad I_m e_o), v_n, [some (g_1, [(.pointer (some ⟨g_4, 0, none⟩)), v_6, (.int .i64 x_0.status), (.int .i64 x_0.ticks)], 91), some (g_4, [v_a, v_b, v_d], 108), e_c, e_e, e_p], rfl, hp, r_s, ⟨g_4, [some (g_4, [v_a, v_b, v_d], 108), e_c, e_e], v_6, e_p, rfl, ⟨v_a, v_b, e_c, v_d, e_e, rfl, r_f, o_g, o_h⟩, o_r⟩⟩

end Go.Proofs.YtcdboppghnchpaaDoor

namespace Go.Proofs.YtcdboppghnchpaaDoor
open Go Go.Proofs.YtcdboppghnchpaaDoor.Gw Go.RowKit
set_option linter.unusedVariables false
attribute [local irreducible] Ev EvQ EvS EvH
def top_WholeMission_S (f : (List Task) → (List (List Int)) → Option Bool) : Prop := ∀ (w0 : World) (I0 : Nat → Prop) (tb : Tb w0 I0 2 .u64 pow10) (x_0 : (List Task)) (v_1 : Value) (r_2 : RepS dTask w0 I0 v_1 x_0) (x_3 : (List (List Int))) (v_4 : Value) (r_5 : RepS (dSl (dI .i64)) w0 I0 v_4 x_3) (hI : ∀ g, I0 g → g < w0.heap.size) (r : Bool), f x_0 x_3 = some r →
    Ret Tryd.prog 4 #[v_1, v_4] w0 fun v w1 => v = (.bool r) ∧ Ch [] w0 w1
set_option maxHeartbeats 6400000 in
theorem top_WholeMission_ok (n : Nat) : top_WholeMission_S (top_WholeMission n) := by
  intro w0 I0 tb x_0 v_1 r_2 x_3 v_4 r_5 hI r h
  unfold top_WholeMission at h
  refine enter Tryd.func4 rfl (Nat.le_of_ble_eq_true rfl) ?_
  have hp : Hp ⟨w0, I0, []⟩ I0 [] w0 := Hp.start hI
  apply go
  apply go
  apply go
  obtain ⟨y_6, q_7, h⟩ := bind_some h
  refine W.cut (γ := Bool) (fun g => [(0, v_1), (1, v_4), (44, (.bool (g)))]) (fun g w' => y_6 = (g) ∧ Hp ⟨w0, I0, []⟩ I0 [] w' ∧ RepS dTask w' I0 v_1 x_0 ∧ RepS (dSl (dI .i64)) w' I0 v_4 x_3 ∧ Tb w' I0 2 .u64 pow10) ?_ ?_
  ·
    apply go
    obtain ⟨x_8, q_9, q_7⟩ := bind_some q_7
    refine ev_call rfl rfl C17 (((top_missionAwake_ok n) _ _ tb  hp.imm _ q_9).mono ?_)
    rintro _ w_a ⟨rfl, hc⟩
    have hs := hp.stp hc
    replace hp := hp.ext hc
    replace r_2 := r_2.step hs
    replace r_5 := r_5.step hs
    replace tb := tb.step hs
    refine sel_of (fun hc => ?_) (fun hc => ?_)
    ·
      have q_7 := cond_t q_7 hc
      obtain rfl := Option.some.inj q_7
      exact ⟨true, (.c rfl (.c rfl (.c rfl .n))), rfl, hp, r_2, r_5, tb⟩
    ·
      have q_7 := cond_f q_7 hc
      refine ev0 (rn_len rfl rfl Tryd.underlying49 r_2) ?_
      refine sel_of (fun hc => ?_) (fun hc => ?_)
      ·
        have q_7 := cond_t q_7 hc
        obtain rfl := Option.some.inj q_7
        exact ⟨true, (.c rfl (.c rfl (.c rfl .n))), rfl, hp, r_2, r_5, tb⟩
      ·
        have q_7 := cond_f q_7 hc
        refine ev0 (rn_len rfl rfl Tryd.underlying50 r_5) ?_
        obtain rfl := Option.some.inj q_7
        exact ⟨(decide ((x_3.length : Int) > 30)), (.c rfl (.c rfl (.c rfl .n))), rfl, hp, r_2, r_5, tb⟩
  ·
    rintro x_b w_c ⟨hy, hp, r_2, r_5, tb⟩
    replace hy := hy.symm
    subst hy
    apply go
    refine sel_of (fun hc => ?_) (fun hc => ?_)
    ·
      have h := cond_t h hc
      apply go
      apply go
      obtain ⟨x_d, q_e, h⟩ := bind_some h
      refine ev_call rfl rfl C17 (((top_missionAwake_ok n) _ _ tb  hp.imm _ q_e).mono ?_)
      rintro _ w_f ⟨rfl, hc⟩
      have hs := hp.stp hc
      replace hp := hp.ext hc
      replace tb := tb.step hs
      apply go
      obtain rfl := Option.some.inj h
      exact ⟨rfl, hp.ch⟩
    ·
      have h := cond_f h hc
      apply go
      apply go
      apply go
      obtain ⟨⟨x_g, x_h⟩, q_i, h⟩ := bind_some h
      refine ev_call rfl rfl C18 (((mission_New_ok n) _ _  x_0 v_1 r_2 hp.imm _ q_i).mono ?_)
      rintro _ w_j ⟨I_k, v_l, F_m, hv, hq6892, q_n⟩
      replace hv := hv.symm
      subst hv
      rcases x_g with _ | x_o
      ·
        obtain ⟨rfl, rfl⟩ := q_n
        have hs := hq6892.st
        have hp := hp.join0 hq6892
        replace r_2 := r_2.step hs
        replace r_5 := r_5.step hs
        replace tb := tb.step hs
        apply go
        apply go
        obtain ⟨⟨x_p, x_q⟩, q_r, h⟩ := bind_some h
        refine ev_call rfl rfl C19 (((mission_Build_ok n) _ _  x_0 v_1 r_2 hp.imm _ q_r).mono ?_)
        rintro _ w_s ⟨I_t, v_u, hv, hq, r_v⟩
        replace hv := hv.symm
        subst hv
        have hs := hq.st
        have hp := hp.join0 hq
        replace r_2 := r_2.step hs
        replace r_5 := r_5.step hs
        replace tb := tb.step hs
        refine ev_alloc hp rfl T57 ?_
        intro g_w w_x hp hs
        replace r_2 := r_2.step hs
        replace r_5 := r_5.step hs
        replace r_v := r_v.step hs
        replace tb := tb.step hs
        refine ev_storeA hp (i := 0) (off := 0) (vs := [(.int .i64 x_p.Kind), (.int .i64 x_p.Name), (.int .i64 x_p.Count), v_u]) rfl rfl rfl rfl T57 rfl (Nat.le_of_ble_eq_true rfl) (ones_cons rfl (ones_cons rfl (ones_cons rfl (ones_cons r_v.one ones_nil)))) ?_
        intro w_y hp hs
        replace r_2 := r_2.step hs
        replace r_5 := r_5.step hs
        replace r_v := r_v.step hs
        replace tb := tb.step hs
        apply go
        apply go
        apply go
        apply go
        refine sel_of (fun hc => ?_) (fun hc => ?_)
        ·
          have h := cond_t h hc
          apply go
          apply go
          apply go
          obtain rfl := Option.some.inj h
          exact ⟨rfl, hp.ch⟩
        ·
          have h := cond_f h hc
          apply go
          apply go
          apply go
          apply go
          apply go
          refine sel_of (fun hc => ?_) (fun hc => ?_)
          ·
            have h := cond_t h hc
            apply go
            apply go
            refine ev0 (rn_eqNilP rfl rfl rfl Tryd.underlying51 (b := true) rfl) ?_
            apply go
            obtain rfl := Option.some.inj h
            exact ⟨rfl, hp.ch⟩
          ·
            have h := cond_f h hc
            apply go
            apply go
            apply go
            cases h
      ·
        obtain ⟨g_z, rfl, g_10, E_11, v_12, e_13, rfl, q_14, o_15⟩ := q_n
        obtain ⟨v_16, v_17, e_18, v_19, e_1a, rfl, r_1b, o_1c, o_1d⟩ := q_14
        have hs := hq6892.st
        have hp := hp.join0 hq6892
        replace r_2 := r_2.step hs
        replace r_5 := r_5.step hs
        replace tb := tb.step hs
        apply go
        apply go
        obtain ⟨⟨x_1e, x_1f⟩, q_1g, h⟩ := bind_some h
        refine ev_call rfl rfl C19 (((mission_Build_ok n) _ _  x_0 v_1 r_2 hp.imm _ q_1g).mono ?_)
        rintro _ w_1h ⟨I_1i, v_1j, hv, hq, r_1k⟩
        replace hv := hv.symm
        subst hv
        have hs := hq.st
        have hp := hp.join0 hq
        replace r_2 := r_2.step hs
        replace r_5 := r_5.step hs
        replace o_15 := o_15.step hs
        replace r_1b := r_1b.step hs
        replace o_1c := o_1c.step hs
        replace o_1d := o_1d.step hs
        replace tb := tb.step hs
        refine ev_alloc hp rfl T57 ?_
        intro g_1l w_1m hp hs
        replace r_2 := r_2.step hs
        replace r_5 := r_5.step hs
        replace r_1k := r_1k.step hs
        replace o_15 := o_15.step hs
        replace r_1b := r_1b.step hs
        replace o_1c := o_1c.step hs
        replace o_1d := o_1d.step hs
        replace tb := tb.step hs
        refine ev_storeA hp (i := 0) (off := 0) (vs := [(.int .i64 x_1e.Kind), (.int .i64 x_1e.Name), (.int .i64 x_1e.Count), v_1j]) rfl rfl rfl rfl T57 rfl (Nat.le_of_ble_eq_true rfl) (ones_cons rfl (ones_cons rfl (ones_cons rfl (ones_cons r_1k.one ones_nil)))) ?_
        intro w_1n hp hs
        replace r_2 := r_2.step hs
        replace r_5 := r_5.step hs
        replace r_1k := r_1k.step hs
        replace o_15 := o_15.step hs
        replace r_1b := r_1b.step hs
        replace o_1c := o_1c.step hs
        replace o_1d := o_1d.step hs
        replace tb := tb.step hs
        apply go
        apply go
        apply go
        apply go
        refine sel_of (fun hc => ?_) (fun hc => ?_)
        ·
          have h := cond_t h hc
          apply go
          apply go
          apply go
          obtain rfl := Option.some.inj h
          exact ⟨rfl, hp.ch⟩
        ·
          have h := cond_f h hc
          apply go
          apply go
          apply go
          apply go
          apply go
          refine sel_of (fun hc => ?_) (fun hc => ?_)
          ·
            have h := cond_t h hc
            apply go
            apply go
            refine ev0 (rn_eqNilP rfl rfl rfl Tryd.underlying51 (b := false) rfl) ?_
            apply go
            obtain rfl := Option.some.inj h
            exact ⟨rfl, hp.ch⟩
          ·
            have h := cond_f h hc
            apply go
            apply go
            apply go
            refine ev (rn_load rfl rfl (run_loadVarA T57 rfl (hp.at_ (i := 0) rfl))) ?_
            obtain ⟨x_1o, q_1p, h⟩ := bind_some h
            refine ev_call rfl rfl C21 (((tree_Text_ok n) _ _ tb (Node.mk x_1e.Kind x_1e.Name x_1e.Count x_1e.Kids) v_1j r_1k hp.imm _ q_1p).mono ?_)
            rintro _ w_1q ⟨rfl, hc⟩
            have hs := hp.stp hc
            replace hp := hp.ext hc
            replace r_2 := r_2.step hs
            replace r_5 := r_5.step hs
            replace r_1k := r_1k.step hs
            replace o_15 := o_15.step hs
            replace r_1b := r_1b.step hs
            replace o_1c := o_1c.step hs
            replace o_1d := o_1d.step hs
            replace tb := tb.step hs
            obtain ⟨⟨x_1r, x_1s⟩, q_1t, h⟩ := bind_some h
            refine ev_call rfl rfl C20 (((tree_Parse_ok n) _ _ tb x_1o hp.imm _ q_1t).mono ?_)
            rintro _ w_1u ⟨I_1v, v_1w, hv, hq, r_1x⟩
            replace hv := hv.symm
            subst hv
            have hs := hq.st
            have hp := hp.join0 hq
            replace r_2 := r_2.step hs
            replace r_5 := r_5.step hs
            replace r_1k := r_1k.step hs
            replace o_15 := o_15.step hs
            replace r_1b := r_1b.step hs
            replace o_1c := o_1c.step hs
            replace o_1d := o_1d.step hs
            replace tb := tb.step hs
            refine ev_alloc hp rfl T57 ?_
            intro g_1y w_1z hp hs
            replace r_2 := r_2.step hs
            replace r_5 := r_5.step hs
            replace r_1x := r_1x.step hs
            replace r_1k := r_1k.step hs
            replace o_15 := o_15.step hs
            replace r_1b := r_1b.step hs
            replace o_1c := o_1c.step hs
            replace o_1d := o_1d.step hs
            replace tb := tb.step hs
            refine ev_storeA hp (i := 0) (off := 0) (vs := [(.int .i64 x_1r.Kind), (.int .i64 x_1r.Name), (.int .i64 x_1r.Count), v_1w]) rfl rfl rfl rfl T57 rfl (Nat.le_of_ble_eq_true rfl) (ones_cons rfl (ones_cons rfl (ones_cons rfl (ones_cons r_1x.one ones_nil)))) ?_
            intro w_20 hp hs
            replace r_2 := r_2.step hs
            replace r_5 := r_5.step hs
            replace r_1x := r_1x.step hs
            replace r_1k := r_1k.step hs
            replace o_15 := o_15.step hs
            replace r_1b := r_1b.step hs
            replace o_1c := o_1c.step hs
            replace o_1d := o_1d.step hs
            replace tb := tb.step hs
            apply go
            apply go
            refine ev (rn_load rfl rfl (run_loadVarA T57 rfl (hp.at_ (i := 1) rfl))) ?_
            obtain ⟨⟨x_21, x_22⟩, q_23, h⟩ := bind_some h
            refine ev_call rfl rfl C22 (((tree_New_ok n) _ _  (Node.mk x_1e.Kind x_1e.Name x_1e.Count x_1e.Kids) v_1j r_1k hp.imm _ q_23).mono ?_)
            rintro _ w_24 ⟨I_25, v_26, F_27, hv, hq6950, q_28⟩
            replace hv := hv.symm
            subst hv
            rcases x_21 with _ | x_29
            ·
              cases h
            ·
              obtain ⟨g_2a, rfl, v_2b, v_2c, e_2d, v_2e, e_2f, rfl, f_2g, o_2h, o_2i⟩ := q_28
              have r_2j := f_2g.imm
              have hs := hq6950.st
              have hp := hp.join0 hq6950
              replace r_2 := r_2.step hs
              replace r_5 := r_5.step hs
              replace r_1x := r_1x.step hs
              replace r_1k := r_1k.step hs
              replace o_15 := o_15.step hs
              replace r_1b := r_1b.step hs
              replace o_1c := o_1c.step hs
              replace o_1d := o_1d.step hs
              replace tb := tb.step hs
              apply go
              apply go
              refine ev (rn_load rfl rfl (run_loadVarA T57 rfl (hp.at_ (i := 3) rfl))) ?_
              obtain ⟨⟨x_2k, x_2l⟩, q_2m, h⟩ := bind_some h
              refine ev_call rfl rfl C22 (((tree_New_ok n) _ _  (Node.mk x_1r.Kind x_1r.Name x_1r.Count x_1r.Kids) v_1w r_1x hp.imm _ q_2m).mono ?_)
              rintro _ w_2n ⟨I_2o, v_2p, F_2q, hv, hq6970, q_2r⟩
              replace hv := hv.symm
              subst hv
              rcases x_2k with _ | x_2s
              ·
                cases h
              ·
                obtain ⟨g_2t, rfl, v_2u, v_2v, e_2w, v_2x, e_2y, rfl, f_2z, o_30, o_31⟩ := q_2r
                have r_32 := f_2z.imm
                have hs := hq6970.st
                have hp := hp.join0 hq6970
                replace r_2 := r_2.step hs
                replace r_5 := r_5.step hs
                replace r_2j := r_2j.step hs
                replace o_2h := o_2h.step hs
                replace o_2i := o_2i.step hs
                replace r_1x := r_1x.step hs
                replace r_1k := r_1k.step hs
                replace o_15 := o_15.step hs
                replace r_1b := r_1b.step hs
                replace o_1c := o_1c.step hs
                replace o_1d := o_1d.step hs
                replace tb := tb.step hs
                apply go
                obtain ⟨y_33, q_34, h⟩ := bind_some h
                refine W.cut (γ := Bool) (fun g => [(0, v_1), (1, v_4), (5, (.pointer (some ⟨g_z, 0, none⟩))), (11, (.pointer (some ⟨g_2a, 0, none⟩))), (13, (.pointer (some ⟨g_2t, 0, none⟩))), (88, (.bool (g)))]) (fun g w' => y_33 = (g) ∧ w_2n = w') ?_ ?_
                ·
                  apply go
                  refine sel_of (fun hc => ?_) (fun hc => ?_)
                  ·
                    have q_34 := cond_t q_34 hc
                    obtain rfl := Option.some.inj q_34
                    exact ⟨true, (.c rfl (.c rfl (.c rfl (.c rfl (.c rfl (.c rfl .n)))))), rfl, rfl⟩
                  ·
                    have q_34 := cond_f q_34 hc
                    refine sel_of (fun hc => ?_) (fun hc => ?_)
                    ·
                      have q_34 := cond_t q_34 hc
                      obtain rfl := Option.some.inj q_34
                      exact ⟨true, (.c rfl (.c rfl (.c rfl (.c rfl (.c rfl (.c rfl .n)))))), rfl, rfl⟩
                    ·
                      have q_34 := cond_f q_34 hc
                      obtain rfl := Option.some.inj q_34
                      exact ⟨(x_2l != 0), (.c rfl (.c rfl (.c rfl (.c rfl (.c rfl (.c rfl .n)))))), rfl, rfl⟩
                ·
                  rintro x_35 _ ⟨hy, rfl⟩
                  replace hy := hy.symm
                  subst hy
                  apply go
                  refine sel_of (fun hc => ?_) (fun hc => ?_)
                  ·
                    have h := cond_t h hc
                    apply go
                    apply go
                    apply go
                    obtain rfl := Option.some.inj h
                    exact ⟨rfl, hp.ch⟩
                  ·
                    have h := cond_f h hc
                    apply go
                    apply go
                    apply go
                    obtain ⟨x_36, q_37, h⟩ := bind_some h
                    refine ev_make (d := dB) (x0 := false) hp rfl rfl rfl Tryd.underlying65 T4 (fun _ _ => rfl) (Nat.le_of_ble_eq_true rfl) q_37 ?_
                    intro v_38 e_39 w_3a hp hs o_3b
                    replace r_2 := r_2.step hs
                    replace r_5 := r_5.step hs
                    replace r_32 := r_32.step hs
                    replace o_30 := o_30.step hs
                    replace o_31 := o_31.step hs
                    replace r_2j := r_2j.step hs
                    replace o_2h := o_2h.step hs
                    replace o_2i := o_2i.step hs
                    replace r_1x := r_1x.step hs
                    replace r_1k := r_1k.step hs
                    replace o_15 := o_15.step hs
                    replace r_1b := r_1b.step hs
                    replace o_1c := o_1c.step hs
                    replace o_1d := o_1d.step hs
                    replace tb := tb.step hs
                    apply go
                    apply go
                    obtain ⟨y_3c, q_3d, h⟩ := bind_some h
                    refine W.cut (γ := ((List Node_2) × (List Int) × (List Bool) × (List Bool) × Int × Int × (List Bool) × Nat × Value × Value × Ent × Value × Ent × Value × Ent × Ent × (Nat → Prop))) (fun g => [(0, v_1), (5, (.pointer (some ⟨g_z, 0, none⟩))), (15, v_38)]) (fun g w' => y_3c = .go ((g.1), (g.2.1), (g.2.2.1), (g.2.2.2.1), (g.2.2.2.2.1), (g.2.2.2.2.2.1), (g.2.2.2.2.2.2.1)) ∧ Hp ⟨w0, I0, []⟩ (g.2.2.2.2.2.2.2.2.2.2.2.2.2.2.2.2) [(g.2.2.2.2.2.2.2.2.2.2.1), (g.2.2.2.2.2.2.2.2.2.2.2.2.1), some ((g.2.2.2.2.2.2.2.1), [(g.2.2.2.2.2.2.2.2.1), (g.2.2.2.2.2.2.2.2.2.1), (g.2.2.2.2.2.2.2.2.2.2.2.1)], 108), (g.2.2.2.2.2.2.2.2.2.2.2.2.2.2.1), some (g_z, [(.pointer (some ⟨(g.2.2.2.2.2.2.2.1), 0, none⟩)), (g.2.2.2.2.2.2.2.2.2.2.2.2.2.1), (.int .i64 (g.2.2.2.2.1)), (.int .i64 (g.2.2.2.2.2.1))], 91), (g.2.2.2.2.2.2.2.2.2.2.2.2.2.2.2.1)] w' ∧ RepS dTask w' (g.2.2.2.2.2.2.2.2.2.2.2.2.2.2.2.2) v_1 x_0 ∧ RepS dNode_2 w' (g.2.2.2.2.2.2.2.2.2.2.2.2.2.2.2.2) (g.2.2.2.2.2.2.2.2.1) (g.1) ∧ OwnS (dI .i64) 3 w' (g.2.2.2.2.2.2.2.2.2.2.2.2.2.2.2.2) (g.2.2.2.2.2.2.2.2.2.1) (g.2.2.2.2.2.2.2.2.2.2.1) (g.2.1) ∧ OwnS dB 4 w' (g.2.2.2.2.2.2.2.2.2.2.2.2.2.2.2.2) (g.2.2.2.2.2.2.2.2.2.2.2.1) (g.2.2.2.2.2.2.2.2.2.2.2.2.1) (g.2.2.1) ∧ OwnS dB 4 w' (g.2.2.2.2.2.2.2.2.2.2.2.2.2.2.2.2) (g.2.2.2.2.2.2.2.2.2.2.2.2.2.1) (g.2.2.2.2.2.2.2.2.2.2.2.2.2.2.1) (g.2.2.2.1) ∧ OwnS dB 4 w' (g.2.2.2.2.2.2.2.2.2.2.2.2.2.2.2.2) v_38 (g.2.2.2.2.2.2.2.2.2.2.2.2.2.2.2.1) (g.2.2.2.2.2.2.1) ∧ Tb w' (g.2.2.2.2.2.2.2.2.2.2.2.2.2.2.2.2) 2 .u64 pow10) ?_ ?_
                    ·
                      apply go
                      apply go
                      apply go
                      have hp := hp.perm [11, 12, 10, 13, 9, 5, 6, 4, 2, 3, 1, 0] (by decide)
                      refine W.loop q_3d (γ := (Nat × Value × Value × Ent × Value × Ent × Value × Ent × Value × Ent × Value × Ent × Value × Ent × Value × Ent × Ent × (Nat → Prop))) (fun s g => [(0, v_1), (1, v_4), (5, (.pointer (some ⟨g_z, 0, none⟩))), (11, (.pointer (some ⟨g_2a, 0, none⟩))), (13, (.pointer (some ⟨g_2t, 0, none⟩))), (15, v_38), (16, (.bool (s.2.2.2.2.2.2.2.2.2.2.2.1))), (17, (.int .i64 (s.2.2.2.2.2.2.2.2.2.2.2.2)))]) (fun s g w' => Hp ⟨w0, I0, []⟩ (g.2.2.2.2.2.2.2.2.2.2.2.2.2.2.2.2.2) [(g.2.2.2.1), (g.2.2.2.2.2.1), some ((g.1), [(g.2.1), (g.2.2.1), (g.2.2.2.2.1)], 108), (g.2.2.2.2.2.2.2.1), some (g_z, [(.pointer (some ⟨(g.1), 0, none⟩)), (g.2.2.2.2.2.2.1), (.int .i64 (s.2.2.2.2.1)), (.int .i64 (s.2.2.2.2.2.1))], 91), (g.2.2.2.2.2.2.2.2.2.1), (g.2.2.2.2.2.2.2.2.2.2.2.1), some (g_2a, [v_2b, (g.2.2.2.2.2.2.2.2.1), (g.2.2.2.2.2.2.2.2.2.2.1)], 108), (g.2.2.2.2.2.2.2.2.2.2.2.2.2.1), (g.2.2.2.2.2.2.2.2.2.2.2.2.2.2.2.1), some (g_2t, [v_2u, (g.2.2.2.2.2.2.2.2.2.2.2.2.1), (g.2.2.2.2.2.2.2.2.2.2.2.2.2.2.1)], 108), (g.2.2.2.2.2.2.2.2.2.2.2.2.2.2.2.2.1)] w' ∧ RepS dTask w' (g.2.2.2.2.2.2.2.2.2.2.2.2.2.2.2.2.2) v_1 x_0 ∧ RepS (dSl (dI .i64)) w' (g.2.2.2.2.2.2.2.2.2.2.2.2.2.2.2.2.2) v_4 x_3 ∧ RepS dNode_2 w' (g.2.2.2.2.2.2.2.2.2.2.2.2.2.2.2.2.2) (g.2.1) (s.1) ∧ OwnS (dI .i64) 3 w' (g.2.2.2.2.2.2.2.2.2.2.2.2.2.2.2.2.2) (g.2.2.1) (g.2.2.2.1) (s.2.1) ∧ OwnS dB 4 w' (g.2.2.2.2.2.2.2.2.2.2.2.2.2.2.2.2.2) (g.2.2.2.2.1) (g.2.2.2.2.2.1) (s.2.2.1) ∧ OwnS dB 4 w' (g.2.2.2.2.2.2.2.2.2.2.2.2.2.2.2.2.2) (g.2.2.2.2.2.2.1) (g.2.2.2.2.2.2.2.1) (s.2.2.2.1) ∧ RepS dNode_2 w' (g.2.2.2.2.2.2.2.2.2.2.2.2.2.2.2.2.2) v_2b x_29.nodes ∧ OwnS (dI .i64) 3 w' (g.2.2.2.2.2.2.2.2.2.2.2.2.2.2.2.2.2) (g.2.2.2.2.2.2.2.2.1) (g.2.2.2.2.2.2.2.2.2.1) (s.2.2.2.2.2.2.1) ∧ OwnS dB 4 w' (g.2.2.2.2.2.2.2.2.2.2.2.2.2.2.2.2.2) (g.2.2.2.2.2.2.2.2.2.2.1) (g.2.2.2.2.2.2.2.2.2.2.2.1) (s.2.2.2.2.2.2.2.1) ∧ RepS dNode_2 w' (g.2.2.2.2.2.2.2.2.2.2.2.2.2.2.2.2.2) v_2u x_2s.nodes ∧ OwnS (dI .i64) 3 w' (g.2.2.2.2.2.2.2.2.2.2.2.2.2.2.2.2.2) (g.2.2.2.2.2.2.2.2.2.2.2.2.1) (g.2.2.2.2.2.2.2.2.2.2.2.2.2.1) (s.2.2.2.2.2.2.2.2.1) ∧ OwnS dB 4 w' (g.2.2.2.2.2.2.2.2.2.2.2.2.2.2.2.2.2) (g.2.2.2.2.2.2.2.2.2.2.2.2.2.2.1) (g.2.2.2.2.2.2.2.2.2.2.2.2.2.2.2.1) (s.2.2.2.2.2.2.2.2.2.1) ∧ OwnS dB 4 w' (g.2.2.2.2.2.2.2.2.2.2.2.2.2.2.2.2.2) v_38 (g.2.2.2.2.2.2.2.2.2.2.2.2.2.2.2.2.1) (s.2.2.2.2.2.2.2.2.2.2.1) ∧ Tb w' (g.2.2.2.2.2.2.2.2.2.2.2.2.2.2.2.2.2) 2 .u64 pow10) (g_10, v_16, v_17, e_18, v_19, e_1a, v_12, e_13, v_2c, e_2d, v_2e, e_2f, v_2v, e_2w, v_2x, e_2y, e_39, I_2o) (.c rfl (.c rfl (.c rfl (.c rfl (.c rfl (.c rfl (.c rfl (.c rfl .n)))))))) ⟨hp, r_2, r_5, r_1b, o_1c, o_1d, o_15, r_2j, o_2h, o_2i, r_32, o_30, o_31, o_3b, tb⟩ ?_
                      rintro ⟨x_3e, x_3f, x_3g, x_3h, x_3i, x_3j, x_3k, x_3l, x_3m, x_3n, x_3o, x_3p, x_3q⟩ ⟨g_3r, v_3s, v_3t, e_3u, v_3v, e_3w, v_3x, e_3y, v_3z, e_40, v_41, e_42, v_43, e_44, v_45, e_46, e_47, I_48⟩ w_49 y_4a ⟨hp, r_2, r_5, r_4b, o_4c, o_4d, o_4e, r_2j, o_4f, o_4g, r_32, o_4h, o_4i, o_4j, tb⟩ q_4k q_4l
                      unfold top_WholeMission_L21 at q_4k
                      apply go
                      apply go
                      apply go
                      refine ev0 (rn_len rfl rfl Tryd.underlying50 r_5) ?_
                      apply go
                      refine sel_of (fun hc => ?_) (fun hc => ?_)
                      ·
                        have q_4k := cond_t q_4k hc
                        apply go
                        obtain ⟨y_4m, q_4n, q_4k⟩ := bind_some q_4k
                        refine W.cut (γ := ((List Node_2) × (List Int) × (List Bool) × (List Bool) × Int × Int × (List Int) × (List Bool) × (List Int) × (List Bool) × (List Bool) × Bool × Nat × Value × Value × Ent × Value × Ent × Value × Ent × Value × Ent × Value × Ent × Value × Ent × Value × Ent × Ent × (Nat → Prop))) (fun g => [(0, v_1), (1, v_4), (5, (.pointer (some ⟨g_z, 0, none⟩))), (11, (.pointer (some ⟨g_2a, 0, none⟩))), (13, (.pointer (some ⟨g_2t, 0, none⟩))), (15, v_38), (16, (.bool (g.2.2.2.2.2.2.2.2.2.2.2.1))), (17, (.int .i64 x_3q))]) (fun g w' => y_4m = .go ((g.1), (g.2.1), (g.2.2.1), (g.2.2.2.1), (g.2.2.2.2.1), (g.2.2.2.2.2.1), (g.2.2.2.2.2.2.1), (g.2.2.2.2.2.2.2.1), (g.2.2.2.2.2.2.2.2.1), (g.2.2.2.2.2.2.2.2.2.1), (g.2.2.2.2.2.2.2.2.2.2.1), (g.2.2.2.2.2.2.2.2.2.2.2.1)) ∧ Hp ⟨w0, I0, []⟩ (g.2.2.2.2.2.2.2.2.2.2.2.2.2.2.2.2.2.2.2.2.2.2.2.2.2.2.2.2.2) [(g.2.2.2.2.2.2.2.2.2.2.2.2.2.2.2.1), (g.2.2.2.2.2.2.2.2.2.2.2.2.2.2.2.2.2.1), some ((g.2.2.2.2.2.2.2.2.2.2.2.2.1), [(g.2.2.2.2.2.2.2.2.2.2.2.2.2.1), (g.2.2.2.2.2.2.2.2.2.2.2.2.2.2.1), (g.2.2.2.2.2.2.2.2.2.2.2.2.2.2.2.2.1)], 108), (g.2.2.2.2.2.2.2.2.2.2.2.2.2.2.2.2.2.2.2.1), some (g_z, [(.pointer (some ⟨(g.2.2.2.2.2.2.2.2.2.2.2.2.1), 0, none⟩)), (g.2.2.2.2.2.2.2.2.2.2.2.2.2.2.2.2.2.2.1), (.int .i64 (g.2.2.2.2.1)), (.int .i64 (g.2.2.2.2.2.1))], 91), (g.2.2.2.2.2.2.2.2.2.2.2.2.2.2.2.2.2.2.2.2.2.1), (g.2.2.2.2.2.2.2.2.2.2.2.2.2.2.2.2.2.2.2.2.2.2.2.1), some (g_2a, [v_2b, (g.2.2.2.2.2.2.2.2.2.2.2.2.2.2.2.2.2.2.2.2.1), (g.2.2.2.2.2.2.2.2.2.2.2.2.2.2.2.2.2.2.2.2.2.2.1)], 108), (g.2.2.2.2.2.2.2.2.2.2.2.2.2.2.2.2.2.2.2.2.2.2.2.2.2.1), (g.2.2.2.2.2.2.2.2.2.2.2.2.2.2.2.2.2.2.2.2.2.2.2.2.2.2.2.1), some (g_2t, [v_2u, (g.2.2.2.2.2.2.2.2.2.2.2.2.2.2.2.2.2.2.2.2.2.2.2.2.1), (g.2.2.2.2.2.2.2.2.2.2.2.2.2.2.2.2.2.2.2.2.2.2.2.2.2.2.1)], 108), (g.2.2.2.2.2.2.2.2.2.2.2.2.2.2.2.2.2.2.2.2.2.2.2.2.2.2.2.2.1)] w' ∧ RepS dTask w' (g.2.2.2.2.2.2.2.2.2.2.2.2.2.2.2.2.2.2.2.2.2.2.2.2.2.2.2.2.2) v_1 x_0 ∧ RepS (dSl (dI .i64)) w' (g.2.2.2.2.2.2.2.2.2.2.2.2.2.2.2.2.2.2.2.2.2.2.2.2.2.2.2.2.2) v_4 x_3 ∧ RepS dNode_2 w' (g.2.2.2.2.2.2.2.2.2.2.2.2.2.2.2.2.2.2.2.2.2.2.2.2.2.2.2.2.2) (g.2.2.2.2.2.2.2.2.2.2.2.2.2.1) (g.1) ∧ OwnS (dI .i64) 3 w' (g.2.2.2.2.2.2.2.2.2.2.2.2.2.2.2.2.2.2.2.2.2.2.2.2.2.2.2.2.2) (g.2.2.2.2.2.2.2.2.2.2.2.2.2.2.1) (g.2.2.2.2.2.2.2.2.2.2.2.2.2.2.2.1) (g.2.1) ∧ OwnS dB 4 w' (g.2.2.2.2.2.2.2.2.2.2.2.2.2.2.2.2.2.2.2.2.2.2.2.2.2.2.2.2.2) (g.2.2.2.2.2.2.2.2.2.2.2.2.2.2.2.2.1) (g.2.2.2.2.2.2.2.2.2.2.2.2.2.2.2.2.2.1) (g.2.2.1) ∧ OwnS dB 4 w' (g.2.2.2.2.2.2.2.2.2.2.2.2.2.2.2.2.2.2.2.2.2.2.2.2.2.2.2.2.2) (g.2.2.2.2.2.2.2.2.2.2.2.2.2.2.2.2.2.2.1) (g.2.2.2.2.2.2.2.2.2.2.2.2.2.2.2.2.2.2.2.1) (g.2.2.2.1) ∧ RepS dNode_2 w' (g.2.2.2.2.2.2.2.2.2.2.2.2.2.2.2.2.2.2.2.2.2.2.2.2.2.2.2.2.2) v_2b x_29.nodes ∧ OwnS (dI .i64) 3 w' (g.2.2.2.2.2.2.2.2.2.2.2.2.2.2.2.2.2.2.2.2.2.2.2.2.2.2.2.2.2) (g.2.2.2.2.2.2.2.2.2.2.2.2.2.2.2.2.2.2.2.2.1) (g.2.2.2.2.2.2.2.2.2.2.2.2.2.2.2.2.2.2.2.2.2.1) (g.2.2.2.2.2.2.1) ∧ OwnS dB 4 w' (g.2.2.2.2.2.2.2.2.2.2.2.2.2.2.2.2.2.2.2.2.2.2.2.2.2.2.2.2.2) (g.2.2.2.2.2.2.2.2.2.2.2.2.2.2.2.2.2.2.2.2.2.2.1) (g.2.2.2.2.2.2.2.2.2.2.2.2.2.2.2.2.2.2.2.2.2.2.2.1) (g.2.2.2.2.2.2.2.1) ∧ RepS dNode_2 w' (g.2.2.2.2.2.2.2.2.2.2.2.2.2.2.2.2.2.2.2.2.2.2.2.2.2.2.2.2.2) v_2u x_2s.nodes ∧ OwnS (dI .i64) 3 w' (g.2.2.2.2.2.2.2.2.2.2.2.2.2.2.2.2.2.2.2.2.2.2.2.2.2.2.2.2.2) (g.2.2.2.2.2.2.2.2.2.2.2.2.2.2.2.2.2.2.2.2.2.2.2.2.1) (g.2.2.2.2.2.2.2.2.2.2.2.2.2.2.2.2.2.2.2.2.2.2.2.2.2.1) (g.2.2.2.2.2.2.2.2.1) ∧ OwnS dB 4 w' (g.2.2.2.2.2.2.2.2.2.2.2.2.2.2.2.2.2.2.2.2.2.2.2.2.2.2.2.2.2) (g.2.2.2.2.2.2.2.2.2.2.2.2.2.2.2.2.2.2.2.2.2.2.2.2.2.2.1) (g.2.2.2.2.2.2.2.2.2.2.2.2.2.2.2.2.2.2.2.2.2.2.2.2.2.2.2.1) (g.2.2.2.2.2.2.2.2.2.1) ∧ OwnS dB 4 w' (g.2.2.2.2.2.2.2.2.2.2.2.2.2.2.2.2.2.2.2.2.2.2.2.2.2.2.2.2.2) v_38 (g.2.2.2.2.2.2.2.2.2.2.2.2.2.2.2.2.2.2.2.2.2.2.2.2.2.2.2.2.1) (g.2.2.2.2.2.2.2.2.2.2.1) ∧ Tb w' (g.2.2.2.2.2.2.2.2.2.2.2.2.2.2.2.2.2.2.2.2.2.2.2.2.2.2.2.2.2) 2 .u64 pow10) ?_ ?_
                        ·
                          apply go
                          apply go
                          apply go
                          apply go
                          obtain ⟨x_4o, q_4p, q_4n⟩ := bind_some q_4n
                          refine ev_index rfl rfl rfl Tryd.underlying50 T66 r_5 q_4p ?_
                          intro p_4q c_4r d_4s a_4t
                          obtain ⟨v_4u, rfl, r_4v⟩ := d_4s
                          refine ev (rn_load rfl rfl (run_loadVar1 T66 (a_4t.2 0 _ rfl))) ?_
                          refine ev0 (rn_len rfl rfl Tryd.underlying66 r_4v) ?_
                          apply go
                          refine sel_of (fun hc => ?_) (fun hc => ?_)
                          ·
                            have q_4n := cond_t q_4n hc
                            apply go
                            apply go
                            apply go
                            obtain rfl := Option.some.inj q_4n
                            have q_4w := congrArg some (q_4l _ (Option.some.inj q_4k).symm)
                            obtain rfl := Option.some.inj q_4w
                            obtain rfl := Option.some.inj h
                            exact ⟨rfl, hp.ch⟩
                          ·
                            have q_4n := cond_f q_4n hc
                            apply go
                            apply go
                            apply go
                            obtain ⟨x_4x, q_4y, q_4n⟩ := bind_some q_4n
                            refine ev_index rfl rfl rfl Tryd.underlying50 T66 r_5 q_4y ?_
                            intro p_4z c_50 d_51 a_52
                            obtain ⟨v_53, rfl, r_54⟩ := d_51
                            refine ev (rn_load rfl rfl (run_loadVar1 T66 (a_52.2 0 _ rfl))) ?_
                            obtain ⟨⟨x_55, x_56, x_57, x_58⟩, q_59, q_4n⟩ := bind_some q_4n
                            refine ev_call rfl rfl C23 (((mission_Mission_Tick_ok n) _ _  (Mission.mk (Runner.mk x_3e x_3f x_3g) x_3h x_3i x_3j) g_z [some (g_z, [(.pointer (some ⟨g_3r, 0, none⟩)), v_3x, (.int .i64 x_3i), (.int .i64 x_3j)], 91), some (g_3r, [v_3s, v_3t, v_3v], 108), e_3u, e_3w, e_3y] ⟨g_3r, [some (g_3r, [v_3s, v_3t, v_3v], 108), e_3u, e_3w], v_3x, e_3y, rfl, ⟨v_3s, v_3t, e_3u, v_3v, e_3w, rfl, r_4b, o_4c, o_4d⟩, o_4e⟩ x_4x v_53 r_54 (hp.lendL [4, 2, 0, 1, 3] (by decide)) _ q_59).mono ?_)
                            rintro _ w_5a ⟨I_5b, F_5c, hv, hq29512, q_5d⟩
                            replace hv := hv.symm
                            subst hv
                            obtain ⟨g_5e, E_5f, v_5g, e_5h, rfl, q_5i, o_5j⟩ := q_5d
                            obtain ⟨v_5k, v_5l, e_5m, v_5n, e_5o, rfl, r_5p, o_5q, o_5r⟩ := q_5i
                            have hs := hq29512.st
                            have hp := hp.backL [4, 2, 0, 1, 3] [5, 6, 7, 8, 9, 10, 11] (by decide) hq29512
                            replace r_2 := r_2.step hs
                            replace r_5 := r_5.step hs
                            replace o_4j := o_4j.step hs
                            replace r_2j := r_2j.step hs
                            replace o_4f := o_4f.step hs
                            replace o_4g := o_4g.step hs
                            replace r_32 := r_32.step hs
                            replace o_4h := o_4h.step hs
                            replace o_4i := o_4i.step hs
                            replace tb := tb.step hs
                            apply go
                            apply go
                            apply go
                            apply go
                            refine sel_of (fun hc => ?_) (fun hc => ?_)
                            ·
                              have q_4n := cond_t q_4n hc
                              apply go
                              apply go
                              apply go
                              apply go
                              refine sel_of (fun hc => ?_) (fun hc => ?_)
                              ·
                                have q_4n := cond_t q_4n hc
                                apply go
                                apply go
                                apply go
                                obtain rfl := Option.some.inj q_4n
                                have q_5s := congrArg some (q_4l _ (Option.some.inj q_4k).symm)
                                obtain rfl := Option.some.inj q_5s
                                obtain rfl := Option.some.inj h
                                exact ⟨rfl, hp.ch⟩
                              ·
                                have q_4n := cond_f q_4n hc
                                apply go
                                apply go
                                obtain rfl := Option.some.inj q_4n
                                have hp := hp.perm [2, 3, 1, 4, 0, 5, 6, 7, 8, 9, 10, 11] (by decide)
                                exact ⟨(x_58.run.nodes, x_58.run.counters, x_58.run.active, x_58.done, x_58.status, x_58.ticks, x_3k, x_3l, x_3m, x_3n, x_3o, x_3p, g_5e, v_5k, v_5l, e_5m, v_5n, e_5o, v_5g, e_5h, v_3z, e_40, v_41, e_42, v_43, e_44, v_45, e_46, e_47, I_5b), (.c rfl (.c rfl (.c rfl (.c rfl (.c rfl (.c rfl (.c rfl (.c rfl .n)))))))), rfl, hp, r_2, r_5, r_5p, o_5q, o_5r, o_5j, r_2j, o_4f, o_4g, r_32, o_4h, o_4i, o_4j, tb⟩
                            ·
                              have q_4n := cond_f q_4n hc
                              apply go
                              apply go
                              apply go
                              obtain ⟨x_5t, q_5u, q_4n⟩ := bind_some q_4n
                              refine ev_index rfl rfl rfl Tryd.underlying50 T66 r_5 q_5u ?_
                              intro p_5v c_5w d_5x a_5y
                              obtain ⟨v_5z, rfl, r_60⟩ := d_5x
                              refine ev (rn_load rfl rfl (run_loadVar1 T66 (a_5y.2 0 _ rfl))) ?_
                              have r_61 := o_4j.frz hp (i := 11) rfl
                              obtain ⟨hpL, hsL⟩ := freeze_hp hp (i := 11) rfl
                              obtain ⟨⟨x_62, x_63, x_64, x_65⟩, q_66, q_4n⟩ := bind_some q_4n
                              refine ev_call rfl rfl C24 (((tree_Runner_Tick_ok n) _ _  (Runner.mk x_29.nodes x_3k x_3l) g_2a [some (g_2a, [v_2b, v_3z, v_41], 108), e_40, e_42] v_2b ⟨v_3z, e_40, v_41, e_42, rfl, (o_4f.step hsL), (o_4g.step hsL), (r_2j.step hsL)⟩ x_5t v_5z (r_60.step hsL) x_3o v_38 r_61 (hpL.lendL [7, 5, 6] (by decide)) _ q_66).mono ?_)
                              rintro _ w_67 ⟨I_68, v_69, v_6a, F_6b, e_6c, e_6d, hv, hq29552, o_6e, o_6f, q_6g⟩
                              replace hv := hv.symm
                              subst hv
                              obtain ⟨v_6h, e_6i, v_6j, e_6k, rfl, o_6l, o_6m⟩ := q_6g
                              have hql := hq29552.loose (I := I_5b) (fun _ h => (hsL _ h).1) hp.imm
                              have hs := hql.st
                              replace o_6l := o_6l.flatAt (dI_flat _) (w' := w_67) (I' := I_5b)
                              replace o_6m := o_6m.flatAt dB_flat (w' := w_67) (I' := I_5b)
                              replace o_6e := o_6e.flatAt (dI_flat _) (w' := w_67) (I' := I_5b)
                              replace o_6f := o_6f.flatAt (dI_flat _) (w' := w_67) (I' := I_5b)
                              have hp := hp.backL [7, 5, 6] [0, 1, 2, 3, 4, 8, 9, 10, 11] (by decide) hql
                              replace r_2 := r_2.step hs
                              replace r_5 := r_5.step hs
                              replace o_4j := o_4j.step hs
                              replace r_2j := r_2j.step hs
                              replace o_5j := o_5j.step hs
                              replace r_5p := r_5p.step hs
                              replace o_5q := o_5q.step hs
                              replace o_5r := o_5r.step hs
                              replace r_32 := r_32.step hs
                              replace o_4h := o_4h.step hs
                              replace o_4i := o_4i.step hs
                              replace tb := tb.step hs
                              have r_6n := o_6e.frz hp (i := 0) rfl
                              obtain ⟨hp, hs⟩ := freeze_hp hp (i := 0) rfl
                              replace r_2 := r_2.step hs
                              replace r_5 := r_5.step hs
                              replace o_4j := o_4j.step hs
                              replace o_6f := o_6f.step hs
                              replace r_2j := r_2j.step hs
                              replace o_6l := o_6l.step hs
                              replace o_6m := o_6m.step hs
                              replace o_5j := o_5j.step hs
                              replace r_5p := r_5p.step hs
                              replace o_5q := o_5q.step hs
                              replace o_5r := o_5r.step hs
                              replace r_32 := r_32.step hs
                              replace o_4h := o_4h.step hs
                              replace o_4i := o_4i.step hs
                              replace tb := tb.step hs
                              have hp := hp.sel [1, 2, 3, 4, 5, 6, 7, 8, 9, 10, 11, 12, 13] (by decide)
                              have r_6o := o_6f.frz hp (i := 0) rfl
                              obtain ⟨hp, hs⟩ := freeze_hp hp (i := 0) rfl
                              replace r_2 := r_2.step hs
                              replace r_5 := r_5.step hs
                              replace o_4j := o_4j.step hs
                              replace r_6n := r_6n.step hs
                              replace r_2j := r_2j.step hs
                              replace o_6l := o_6l.step hs
                              replace o_6m := o_6m.step hs
                              replace o_5j := o_5j.step hs
                              replace r_5p := r_5p.step hs
                              replace o_5q := o_5q.step hs
                              replace o_5r := o_5r.step hs
                              replace r_32 := r_32.step hs
                              replace o_4h := o_4h.step hs
                              replace o_4i := o_4i.step hs
                              replace tb := tb.step hs
                              have hp := hp.sel [1, 2, 3, 4, 5, 6, 7, 8, 9, 10, 11, 12] (by decide)
                              apply go
                              apply go
                              obtain ⟨x_6p, q_6q, q_4n⟩ := bind_some q_4n
                              refine ev_index rfl rfl rfl Tryd.underlying50 T66 r_5 q_6q ?_
                              intro p_6r c_6s d_6t a_6u
                              obtain ⟨v_6v, rfl, r_6w⟩ := d_6t
                              refine ev (rn_load rfl rfl (run_loadVar1 T66 (a_6u.2 0 _ rfl))) ?_
                              have r_6x := o_4j.frz hp (i := 11) rfl
                              obtain ⟨hpL, hsL⟩ := freeze_hp hp (i := 11) rfl
                              obtain ⟨⟨x_6y, x_6z, x_70, x_71⟩, q_72, q_4n⟩ := bind_some q_4n
                              refine ev_call rfl rfl C24 (((tree_Runner_Tick_ok n) _ _  (Runner.mk x_2s.nodes x_3m x_3n) g_2t [some (g_2t, [v_2u, v_43, v_45], 108), e_44, e_46] v_2u ⟨v_43, e_44, v_45, e_46, rfl, (o_4h.step hsL), (o_4i.step hsL), (r_32.step hsL)⟩ x_6p v_6v (r_6w.step hsL) x_3o v_38 r_6x (hpL.lendL [10, 8, 9] (by decide)) _ q_72).mono ?_)
                              rintro _ w_73 ⟨I_74, v_75, v_76, F_77, e_78, e_79, hv, hq29586, o_7a, o_7b, q_7c⟩
                              replace hv := hv.symm
                              subst hv
                              obtain ⟨v_7d, e_7e, v_7f, e_7g, rfl, o_7h, o_7i⟩ := q_7c
                              have hql := hq29586.loose (I := (Ad (Ad I_5b e_6c) e_6d)) (fun _ h => (hsL _ h).1) hp.imm
                              have hs := hql.st
                              replace o_7h := o_7h.flatAt (dI_flat _) (w' := w_73) (I' := (Ad (Ad I_5b e_6c) e_6d))
                              replace o_7i := o_7i.flatAt dB_flat (w' := w_73) (I' := (Ad (Ad I_5b e_6c) e_6d))
                              replace o_7a := o_7a.flatAt (dI_flat _) (w' := w_73) (I' := (Ad (Ad I_5b e_6c) e_6d))
                              replace o_7b := o_7b.flatAt (dI_flat _) (w' := w_73) (I' := (Ad (Ad I_5b e_6c) e_6d))
                              have hp := hp.backL [10, 8, 9] [0, 1, 2, 3, 4, 5, 6, 7, 11] (by decide) hql
                              replace r_2 := r_2.step hs
                              replace r_5 := r_5.step hs
                              replace o_4j := o_4j.step hs
                              replace r_6n := r_6n.step hs
                              replace r_32 := r_32.step hs
                              replace r_2j := r_2j.step hs
                              replace o_6l := o_6l.step hs
                              replace o_6m := o_6m.step hs
                              replace o_5j := o_5j.step hs
                              replace r_5p := r_5p.step hs
                              replace o_5q := o_5q.step hs
                              replace o_5r := o_5r.step hs
                              replace tb := tb.step hs
                              have r_7j := o_7a.frz hp (i := 0) rfl
                              obtain ⟨hp, hs⟩ := freeze_hp hp (i := 0) rfl
                              replace r_2 := r_2.step hs
                              replace r_5 := r_5.step hs
                              replace o_4j := o_4j.step hs
                              replace r_6n := r_6n.step hs
                              replace o_7b := o_7b.step hs
                              replace r_32 := r_32.step hs
                              replace o_7h := o_7h.step hs
                              replace o_7i := o_7i.step hs
                              replace r_2j := r_2j.step hs
                              replace o_6l := o_6l.step hs
                              replace o_6m := o_6m.step hs
                              replace o_5j := o_5j.step hs
                              replace r_5p := r_5p.step hs
                              replace o_5q := o_5q.step hs
                              replace o_5r := o_5r.step hs
                              replace tb := tb.step hs
                              have hp := hp.sel [1, 2, 3, 4, 5, 6, 7, 8, 9, 10, 11, 12, 13] (by decide)
                              have r_7k := o_7b.frz hp (i := 0) rfl
                              obtain ⟨hp, hs⟩ := freeze_hp hp (i := 0) rfl
                              replace r_2 := r_2.step hs
                              replace r_5 := r_5.step hs
                              replace o_4j := o_4j.step hs
                              replace r_6n := r_6n.step hs
                              replace r_7j := r_7j.step hs
                              replace r_32 := r_32.step hs
                              replace o_7h := o_7h.step hs
                              replace o_7i := o_7i.step hs
                              replace r_2j := r_2j.step hs
                              replace o_6l := o_6l.step hs
                              replace o_6m := o_6m.step hs
                              replace o_5j := o_5j.step hs
                              replace r_5p := r_5p.step hs
                              replace o_5q := o_5q.step hs
                              replace o_5r := o_5r.step hs
                              replace tb := tb.step hs
                              have hp := hp.sel [1, 2, 3, 4, 5, 6, 7, 8, 9, 10, 11, 12] (by decide)
                              apply go
                              obtain ⟨y_7l, q_7m, q_4n⟩ := bind_some q_4n
                              refine W.cut (γ := Bool) (fun g => [(0, v_1), (1, v_4), (5, (.pointer (some ⟨g_z, 0, none⟩))), (11, (.pointer (some ⟨g_2a, 0, none⟩))), (13, (.pointer (some ⟨g_2t, 0, none⟩))), (15, v_38), (17, (.int .i64 x_3q)), (18, (.int .i64 x_55)), (19, (.int .i64 x_56)), (22, v_69), (25, v_75), (155, (.bool (g)))]) (fun g w' => y_7l = (g) ∧ w_73 = w') ?_ ?_
                              ·
                                apply go
                                refine sel_of (fun hc => ?_) (fun hc => ?_)
                                ·
                                  have q_7m := cond_t q_7m hc
                                  obtain rfl := Option.some.inj q_7m
                                  exact ⟨true, (.c rfl (.c rfl (.c rfl (.c rfl (.c rfl (.c rfl (.c rfl (.c rfl (.c rfl (.c rfl (.c rfl (.c rfl .n)))))))))))), rfl, rfl⟩
                                ·
                                  have q_7m := cond_f q_7m hc
                                  refine sel_of (fun hc => ?_) (fun hc => ?_)
                                  ·
                                    have q_7m := cond_t q_7m hc
                                    obtain rfl := Option.some.inj q_7m
                                    exact ⟨true, (.c rfl (.c rfl (.c rfl (.c rfl (.c rfl (.c rfl (.c rfl (.c rfl (.c rfl (.c rfl (.c rfl (.c rfl .n)))))))))))), rfl, rfl⟩
                                  ·
                                    have q_7m := cond_f q_7m hc
                                    refine sel_of (fun hc => ?_) (fun hc => ?_)
                                    ·
                                      have q_7m := cond_t q_7m hc
                                      obtain rfl := Option.some.inj q_7m
                                      exact ⟨true, (.c rfl (.c rfl (.c rfl (.c rfl (.c rfl (.c rfl (.c rfl (.c rfl (.c rfl (.c rfl (.c rfl (.c rfl .n)))))))))))), rfl, rfl⟩
                                    ·
                                      have q_7m := cond_f q_7m hc
                                      refine ev0 (rn_len rfl rfl Tryd.underlying66 r_6n) ?_
                                      refine ev0 (rn_len rfl rfl Tryd.underlying66 r_7j) ?_
                                      obtain rfl := Option.some.inj q_7m
                                      exact ⟨((x_63.length : Int) != (x_6z.length : Int)), (.c rfl (.c rfl (.c rfl (.c rfl (.c rfl (.c rfl (.c rfl (.c rfl (.c rfl (.c rfl (.c rfl (.c rfl .n)))))))))))), rfl, rfl⟩
                              ·
                                rintro x_7n _ ⟨hy, rfl⟩
                                replace hy := hy.symm
                                subst hy
                                apply go
                                refine sel_of (fun hc => ?_) (fun hc => ?_)
                                ·
                                  have q_4n := cond_t q_4n hc
                                  apply go
                                  apply go
                                  apply go
                                  obtain rfl := Option.some.inj q_4n
                                  have q_7o := congrArg some (q_4l _ (Option.some.inj q_4k).symm)
                                  obtain rfl := Option.some.inj q_7o
                                  obtain rfl := Option.some.inj h
                                  exact ⟨rfl, hp.ch⟩
                                ·
                                  have q_4n := cond_f q_4n hc
                                  apply go
                                  apply go
                                  apply go
                                  obtain ⟨y_7p, q_7q, q_4n⟩ := bind_some q_4n
                                  refine W.cut (γ := ((List Bool) × Int × Ent)) (fun g => [(0, v_1), (1, v_4), (5, (.pointer (some ⟨g_z, 0, none⟩))), (11, (.pointer (some ⟨g_2a, 0, none⟩))), (13, (.pointer (some ⟨g_2t, 0, none⟩))), (15, v_38), (17, (.int .i64 x_3q)), (18, (.int .i64 x_55)), (19, (.int .i64 x_56)), (27, (.int .i64 (g.2.1)))]) (fun g w' => y_7p = .go ((g.1), (g.2.1)) ∧ Hp ⟨w0, I0, []⟩ (Ad (Ad (Ad (Ad I_5b e_6c) e_6d) e_78) e_79) [e_5m, e_5o, some (g_5e, [v_5k, v_5l, v_5n], 108), e_5h, some (g_z, [(.pointer (some ⟨g_5e, 0, none⟩)), v_5g, (.int .i64 x_58.status), (.int .i64 x_58.ticks)], 91), e_6i, e_6k, some (g_2a, [v_2b, v_6h, v_6j], 108), e_7e, e_7g, some (g_2t, [v_2u, v_7d, v_7f], 108), (g.2.2)] w' ∧ RepS dTask w' (Ad (Ad (Ad (Ad I_5b e_6c) e_6d) e_78) e_79) v_1 x_0 ∧ RepS (dSl (dI .i64)) w' (Ad (Ad (Ad (Ad I_5b e_6c) e_6d) e_78) e_79) v_4 x_3 ∧ RepS dNode_2 w' (Ad (Ad (Ad (Ad I_5b e_6c) e_6d) e_78) e_79) v_5k x_58.run.nodes ∧ OwnS (dI .i64) 3 w' (Ad (Ad (Ad (Ad I_5b e_6c) e_6d) e_78) e_79) v_5l e_5m x_58.run.counters ∧ OwnS dB 4 w' (Ad (Ad (Ad (Ad I_5b e_6c) e_6d) e_78) e_79) v_5n e_5o x_58.run.active ∧ OwnS dB 4 w' (Ad (Ad (Ad (Ad I_5b e_6c) e_6d) e_78) e_79) v_5g e_5h x_58.done ∧ RepS dNode_2 w' (Ad (Ad (Ad (Ad I_5b e_6c) e_6d) e_78) e_79) v_2b x_29.nodes ∧ OwnS (dI .i64) 3 w' (Ad (Ad (Ad (Ad I_5b e_6c) e_6d) e_78) e_79) v_6h e_6i x_65.counters ∧ OwnS dB 4 w' (Ad (Ad (Ad (Ad I_5b e_6c) e_6d) e_78) e_79) v_6j e_6k x_65.active ∧ RepS dNode_2 w' (Ad (Ad (Ad (Ad I_5b e_6c) e_6d) e_78) e_79) v_2u x_2s.nodes ∧ OwnS (dI .i64) 3 w' (Ad (Ad (Ad (Ad I_5b e_6c) e_6d) e_78) e_79) v_7d e_7e x_71.counters ∧ OwnS dB 4 w' (Ad (Ad (Ad (Ad I_5b e_6c) e_6d) e_78) e_79) v_7f e_7g x_71.active ∧ OwnS dB 4 w' (Ad (Ad (Ad (Ad I_5b e_6c) e_6d) e_78) e_79) v_38 (g.2.2) (g.1) ∧ Tb w' (Ad (Ad (Ad (Ad I_5b e_6c) e_6d) e_78) e_79) 2 .u64 pow10) ?_ ?_
                                  ·
                                    apply go
                                    apply go
                                    apply go
                                    have hp := hp.perm [8, 9, 7, 10, 6, 4, 5, 3, 1, 2, 0, 11] (by decide)
                                    refine W.loop q_7q (γ := Ent) (fun s g => [(0, v_1), (1, v_4), (5, (.pointer (some ⟨g_z, 0, none⟩))), (11, (.pointer (some ⟨g_2a, 0, none⟩))), (13, (.pointer (some ⟨g_2t, 0, none⟩))), (15, v_38), (17, (.int .i64 x_3q)), (18, (.int .i64 x_55)), (19, (.int .i64 x_56)), (22, v_69), (25, v_75), (27, (.int .i64 (s.2.1))), (28, (.int .i64 (s.2.2)))]) (fun s g w' => Hp ⟨w0, I0, []⟩ (Ad (Ad (Ad (Ad I_5b e_6c) e_6d) e_78) e_79) [e_5m, e_5o, some (g_5e, [v_5k, v_5l, v_5n], 108), e_5h, some (g_z, [(.pointer (some ⟨g_5e, 0, none⟩)), v_5g, (.int .i64 x_58.status), (.int .i64 x_58.ticks)], 91), e_6i, e_6k, some (g_2a, [v_2b, v_6h, v_6j], 108), e_7e, e_7g, some (g_2t, [v_2u, v_7d, v_7f], 108), (g)] w' ∧ RepS dTask w' (Ad (Ad (Ad (Ad I_5b e_6c) e_6d) e_78) e_79) v_1 x_0 ∧ RepS (dSl (dI .i64)) w' (Ad (Ad (Ad (Ad I_5b e_6c) e_6d) e_78) e_79) v_4 x_3 ∧ RepS dNode_2 w' (Ad (Ad (Ad (Ad I_5b e_6c) e_6d) e_78) e_79) v_5k x_58.run.nodes ∧ OwnS (dI .i64) 3 w' (Ad (Ad (Ad (Ad I_5b e_6c) e_6d) e_78) e_79) v_5l e_5m x_58.run.counters ∧ OwnS dB 4 w' (Ad (Ad (Ad (Ad I_5b e_6c) e_6d) e_78) e_79) v_5n e_5o x_58.run.active ∧ OwnS dB 4 w' (Ad (Ad (Ad (Ad I_5b e_6c) e_6d) e_78) e_79) v_5g e_5h x_58.done ∧ RepS dNode_2 w' (Ad (Ad (Ad (Ad I_5b e_6c) e_6d) e_78) e_79) v_2b x_29.nodes ∧ OwnS (dI .i64) 3 w' (Ad (Ad (Ad (Ad I_5b e_6c) e_6d) e_78) e_79) v_6h e_6i x_65.counters ∧ OwnS dB 4 w' (Ad (Ad (Ad (Ad I_5b e_6c) e_6d) e_78) e_79) v_6j e_6k x_65.active ∧ RepS dNode_2 w' (Ad (Ad (Ad (Ad I_5b e_6c) e_6d) e_78) e_79) v_2u x_2s.nodes ∧ OwnS (dI .i64) 3 w' (Ad (Ad (Ad (Ad I_5b e_6c) e_6d) e_78) e_79) v_7d e_7e x_71.counters ∧ OwnS dB 4 w' (Ad (Ad (Ad (Ad I_5b e_6c) e_6d) e_78) e_79) v_7f e_7g x_71.active ∧ OwnS dB 4 w' (Ad (Ad (Ad (Ad I_5b e_6c) e_6d) e_78) e_79) v_38 (g) (s.1) ∧ RepS (dI .i64) w' (Ad (Ad (Ad (Ad I_5b e_6c) e_6d) e_78) e_79) v_69 x_63 ∧ RepS (dI .i64) w' (Ad (Ad (Ad (Ad I_5b e_6c) e_6d) e_78) e_79) v_75 x_6z ∧ Tb w' (Ad (Ad (Ad (Ad I_5b e_6c) e_6d) e_78) e_79) 2 .u64 pow10) e_47 (.c rfl (.c rfl (.c rfl (.c rfl (.c rfl (.c rfl (.c rfl (.c rfl (.c rfl (.c rfl (.c rfl (.c rfl (.c rfl .n))))))))))))) ⟨hp, r_2, r_5, r_5p, o_5q, o_5r, o_5j, r_2j, o_6l, o_6m, r_32, o_7h, o_7i, o_4j, r_6n, r_7j, tb⟩ ?_
                                    rintro ⟨x_7r, x_7s, x_7t⟩ e_7u w_7v y_7w ⟨hp, r_2, r_5, r_5p, o_5q, o_5r, o_5j, r_2j, o_6l, o_6m, r_32, o_7h, o_7i, o_7x, r_6n, r_7j, tb⟩ q_7y q_7z
                                    unfold top_WholeMission_L25 at q_7y
                                    apply go
                                    apply go
                                    apply go
                                    refine ev0 (rn_len rfl rfl Tryd.underlying66 r_6n) ?_
                                    apply go
                                    refine sel_of (fun hc => ?_) (fun hc => ?_)
                                    ·
                                      have q_7y := cond_t q_7y hc
                                      apply go
                                      obtain ⟨y_80, q_81, q_7y⟩ := bind_some q_7y
                                      refine W.cut (γ := ((List Bool) × Int × Ent)) (fun g => [(0, v_1), (1, v_4), (5, (.pointer (some ⟨g_z, 0, none⟩))), (11, (.pointer (some ⟨g_2a, 0, none⟩))), (13, (.pointer (some ⟨g_2t, 0, none⟩))), (15, v_38), (17, (.int .i64 x_3q)), (18, (.int .i64 x_55)), (19, (.int .i64 x_56)), (22, v_69), (25, v_75), (27, (.int .i64 (g.2.1))), (28, (.int .i64 x_7t))]) (fun g w' => y_80 = .go ((g.1), (g.2.1)) ∧ Hp ⟨w0, I0, []⟩ (Ad (Ad (Ad (Ad I_5b e_6c) e_6d) e_78) e_79) [e_5m, e_5o, some (g_5e, [v_5k, v_5l, v_5n], 108), e_5h, some (g_z, [(.pointer (some ⟨g_5e, 0, none⟩)), v_5g, (.int .i64 x_58.status), (.int .i64 x_58.ticks)], 91), e_6i, e_6k, some (g_2a, [v_2b, v_6h, v_6j], 108), e_7e, e_7g, some (g_2t, [v_2u, v_7d, v_7f], 108), (g.2.2)] w' ∧ RepS dTask w' (Ad (Ad (Ad (Ad I_5b e_6c) e_6d) e_78) e_79) v_1 x_0 ∧ RepS (dSl (dI .i64)) w' (Ad (Ad (Ad (Ad I_5b e_6c) e_6d) e_78) e_79) v_4 x_3 ∧ RepS dNode_2 w' (Ad (Ad (Ad (Ad I_5b e_6c) e_6d) e_78) e_79) v_5k x_58.run.nodes ∧ OwnS (dI .i64) 3 w' (Ad (Ad (Ad (Ad I_5b e_6c) e_6d) e_78) e_79) v_5l e_5m x_58.run.counters ∧ OwnS dB 4 w' (Ad (Ad (Ad (Ad I_5b e_6c) e_6d) e_78) e_79) v_5n e_5o x_58.run.active ∧ OwnS dB 4 w' (Ad (Ad (Ad (Ad I_5b e_6c) e_6d) e_78) e_79) v_5g e_5h x_58.done ∧ RepS dNode_2 w' (Ad (Ad (Ad (Ad I_5b e_6c) e_6d) e_78) e_79) v_2b x_29.nodes ∧ OwnS (dI .i64) 3 w' (Ad (Ad (Ad (Ad I_5b e_6c) e_6d) e_78) e_79) v_6h e_6i x_65.counters ∧ OwnS dB 4 w' (Ad (Ad (Ad (Ad I_5b e_6c) e_6d) e_78) e_79) v_6j e_6k x_65.active ∧ RepS dNode_2 w' (Ad (Ad (Ad (Ad I_5b e_6c) e_6d) e_78) e_79) v_2u x_2s.nodes ∧ OwnS (dI .i64) 3 w' (Ad (Ad (Ad (Ad I_5b e_6c) e_6d) e_78) e_79) v_7d e_7e x_71.counters ∧ OwnS dB 4 w' (Ad (Ad (Ad (Ad I_5b e_6c) e_6d) e_78) e_79) v_7f e_7g x_71.active ∧ OwnS dB 4 w' (Ad (Ad (Ad (Ad I_5b e_6c) e_6d) e_78) e_79) v_38 (g.2.2) (g.1) ∧ RepS (dI .i64) w' (Ad (Ad (Ad (Ad I_5b e_6c) e_6d) e_78) e_79) v_69 x_63 ∧ RepS (dI .i64) w' (Ad (Ad (Ad (Ad I_5b e_6c) e_6d) e_78) e_79) v_75 x_6z ∧ Tb w' (Ad (Ad (Ad (Ad I_5b e_6c) e_6d) e_78) e_79) 2 .u64 pow10) ?_ ?_
                                      ·
                                        apply go
                                        apply go
                                        refine W.quiet (fun w' => Ch [] w_7v w') MX (by kernel_rfl) (Ch.drew [] w_7v) ?_
                                        obtain ⟨x_82, q_83, q_81⟩ := bind_some q_81
                                        refine evq_index rfl rfl rfl Tryd.underlying66 T3 r_6n q_83 ?_
                                        intro p_84 c_85 d_86 a_87
                                        obtain rfl : c_85 = [(.int .i64 x_82)] := d_86
                                        refine evq (fun w' hw => rn_load rfl rfl (run_loadVar1 T3 ((a_87.step (hp.stp hw)).2 0 _ rfl))) ?_
                                        refine ⟨by decide, ?_⟩
                                        obtain ⟨x_88, q_89, q_81⟩ := bind_some q_81
                                        refine evq_index rfl rfl rfl Tryd.underlying66 T3 r_6n q_89 ?_
                                        intro p_8a c_8b d_8c a_8d
                                        obtain rfl : c_8b = [(.int .i64 x_88)] := d_8c
                                        refine evq (fun w' hw => rn_load rfl rfl (run_loadVar1 T3 ((a_8d.step (hp.stp hw)).2 0 _ rfl))) ?_
                                        refine ⟨by decide, ?_⟩
                                        intro w_8e hc
                                        have hs := hp.stp hc
                                        replace hp := hp.ext hc
                                        replace r_2 := r_2.step hs
                                        replace r_5 := r_5.step hs
                                        replace o_7x := o_7x.step hs
                                        replace r_6n := r_6n.step hs
                                        replace r_7j := r_7j.step hs
                                        replace r_5p := r_5p.step hs
                                        replace o_5q := o_5q.step hs
                                        replace o_5r := o_5r.step hs
                                        replace o_5j := o_5j.step hs
                                        replace r_2j := r_2j.step hs
                                        replace o_6l := o_6l.step hs
                                        replace o_6m := o_6m.step hs
                                        replace r_32 := r_32.step hs
                                        replace o_7h := o_7h.step hs
                                        replace o_7i := o_7i.step hs
                                        replace tb := tb.step hs
                                        apply go
                                        obtain ⟨y_8f, q_8g, q_81⟩ := bind_some q_81
                                        refine W.cut (γ := Bool) (fun g => [(0, v_1), (1, v_4), (5, (.pointer (some ⟨g_z, 0, none⟩))), (11, (.pointer (some ⟨g_2a, 0, none⟩))), (13, (.pointer (some ⟨g_2t, 0, none⟩))), (15, v_38), (17, (.int .i64 x_3q)), (18, (.int .i64 x_55)), (19, (.int .i64 x_56)), (22, v_69), (25, v_75), (28, (.int .i64 x_7t)), (29, (.int .i64 (IntKind.i64.wrap ((IntKind.i64.wrap (x_82 - 1)).tdiv 8)))), (30, (.int .i64 ((IntKind.i64.wrap (x_88 - 1)).tmod 8))), (203, (.bool (g)))]) (fun g w' => y_8f = (g) ∧ Hp ⟨w0, I0, []⟩ (Ad (Ad (Ad (Ad I_5b e_6c) e_6d) e_78) e_79) [e_5m, e_5o, some (g_5e, [v_5k, v_5l, v_5n], 108), e_5h, some (g_z, [(.pointer (some ⟨g_5e, 0, none⟩)), v_5g, (.int .i64 x_58.status), (.int .i64 x_58.ticks)], 91), e_6i, e_6k, some (g_2a, [v_2b, v_6h, v_6j], 108), e_7e, e_7g, some (g_2t, [v_2u, v_7d, v_7f], 108), e_7u] w' ∧ RepS dTask w' (Ad (Ad (Ad (Ad I_5b e_6c) e_6d) e_78) e_79) v_1 x_0 ∧ RepS (dSl (dI .i64)) w' (Ad (Ad (Ad (Ad I_5b e_6c) e_6d) e_78) e_79) v_4 x_3 ∧ RepS dNode_2 w' (Ad (Ad (Ad (Ad I_5b e_6c) e_6d) e_78) e_79) v_5k x_58.run.nodes ∧ OwnS (dI .i64) 3 w' (Ad (Ad (Ad (Ad I_5b e_6c) e_6d) e_78) e_79) v_5l e_5m x_58.run.counters ∧ OwnS dB 4 w' (Ad (Ad (Ad (Ad I_5b e_6c) e_6d) e_78) e_79) v_5n e_5o x_58.run.active ∧ OwnS dB 4 w' (Ad (Ad (Ad (Ad I_5b e_6c) e_6d) e_78) e_79) v_5g e_5h x_58.done ∧ RepS dNode_2 w' (Ad (Ad (Ad (Ad I_5b e_6c) e_6d) e_78) e_79) v_2b x_29.nodes ∧ OwnS (dI .i64) 3 w' (Ad (Ad (Ad (Ad I_5b e_6c) e_6d) e_78) e_79) v_6h e_6i x_65.counters ∧ OwnS dB 4 w' (Ad (Ad (Ad (Ad I_5b e_6c) e_6d) e_78) e_79) v_6j e_6k x_65.active ∧ RepS dNode_2 w' (Ad (Ad (Ad (Ad I_5b e_6c) e_6d) e_78) e_79) v_2u x_2s.nodes ∧ OwnS (dI .i64) 3 w' (Ad (Ad (Ad (Ad I_5b e_6c) e_6d) e_78) e_79) v_7d e_7e x_71.counters ∧ OwnS dB 4 w' (Ad (Ad (Ad (Ad I_5b e_6c) e_6d) e_78) e_79) v_7f e_7g x_71.active ∧ OwnS dB 4 w' (Ad (Ad (Ad (Ad I_5b e_6c) e_6d) e_78) e_79) v_38 e_7u x_7r ∧ RepS (dI .i64) w' (Ad (Ad (Ad (Ad I_5b e_6c) e_6d) e_78) e_79) v_69 x_63 ∧ RepS (dI .i64) w' (Ad (Ad (Ad (Ad I_5b e_6c) e_6d) e_78) e_79) v_75 x_6z ∧ Tb w' (Ad (Ad (Ad (Ad I_5b e_6c) e_6d) e_78) e_79) 2 .u64 pow10) ?_ ?_
                                        ·
                                          refine W.quiet (fun w' => Ch [] w_8e w') MX (by kernel_rfl) (Ch.drew [] w_8e) ?_
                                          obtain ⟨x_8h, q_8i, q_8g⟩ := bind_some q_8g
                                          refine evq_index rfl rfl rfl Tryd.underlying66 T3 r_6n q_8i ?_
                                          intro p_8j c_8k d_8l a_8m
                                          obtain rfl : c_8k = [(.int .i64 x_8h)] := d_8l
                                          refine evq (fun w' hw => rn_load rfl rfl (run_loadVar1 T3 ((a_8m.step (hp.stp hw)).2 0 _ rfl))) ?_
                                          refine sel_of (fun hc => ?_) (fun hc => ?_)
                                          ·
                                            have q_8g := cond_t q_8g hc
                                            intro w_8n hc
                                            have hs := hp.stp hc
                                            replace hp := hp.ext hc
                                            replace r_2 := r_2.step hs
                                            replace r_5 := r_5.step hs
                                            replace o_7x := o_7x.step hs
                                            replace r_6n := r_6n.step hs
                                            replace r_7j := r_7j.step hs
                                            replace r_5p := r_5p.step hs
                                            replace o_5q := o_5q.step hs
                                            replace o_5r := o_5r.step hs
                                            replace o_5j := o_5j.step hs
                                            replace r_2j := r_2j.step hs
                                            replace o_6l := o_6l.step hs
                                            replace o_6m := o_6m.step hs
                                            replace r_32 := r_32.step hs
                                            replace o_7h := o_7h.step hs
                                            replace o_7i := o_7i.step hs
                                            replace tb := tb.step hs
                                            obtain rfl := Option.some.inj q_8g
                                            exact ⟨true, (.c rfl (.c rfl (.c rfl (.c rfl (.c rfl (.c rfl (.c rfl (.c rfl (.c rfl (.c rfl (.c rfl (.c rfl (.c rfl (.c rfl (.c rfl .n))))))))))))))), rfl, hp, r_2, r_5, r_5p, o_5q, o_5r, o_5j, r_2j, o_6l, o_6m, r_32, o_7h, o_7i, o_7x, r_6n, r_7j, tb⟩
                                          ·
                                            have q_8g := cond_f q_8g hc
                                            refine evq0 (rn_len rfl rfl Tryd.underlying49 r_2) ?_
                                            refine sel_of (fun hc => ?_) (fun hc => ?_)
                                            ·
                                              have q_8g := cond_t q_8g hc
                                              intro w_8o hc
                                              have hs := hp.stp hc
                                              replace hp := hp.ext hc
                                              replace r_2 := r_2.step hs
                                              replace r_5 := r_5.step hs
                                              replace o_7x := o_7x.step hs
                                              replace r_6n := r_6n.step hs
                                              replace r_7j := r_7j.step hs
                                              replace r_5p := r_5p.step hs
                                              replace o_5q := o_5q.step hs
                                              replace o_5r := o_5r.step hs
                                              replace o_5j := o_5j.step hs
                                              replace r_2j := r_2j.step hs
                                              replace o_6l := o_6l.step hs
                                              replace o_6m := o_6m.step hs
                                              replace r_32 := r_32.step hs
                                              replace o_7h := o_7h.step hs
                                              replace o_7i := o_7i.step hs
                                              replace tb := tb.step hs
                                              obtain rfl := Option.some.inj q_8g
                                              exact ⟨true, (.c rfl (.c rfl (.c rfl (.c rfl (.c rfl (.c rfl (.c rfl (.c rfl (.c rfl (.c rfl (.c rfl (.c rfl (.c rfl (.c rfl (.c rfl .n))))))))))))))), rfl, hp, r_2, r_5, r_5p, o_5q, o_5r, o_5j, r_2j, o_6l, o_6m, r_32, o_7h, o_7i, o_7x, r_6n, r_7j, tb⟩
                                            ·
                                              have q_8g := cond_f q_8g hc
                                              refine sel_of (fun hc => ?_) (fun hc => ?_)
                                              ·
                                                have q_8g := cond_t q_8g hc
                                                refine sel_of (fun hc => ?_) (fun hc => ?_)
                                                ·
                                                  have q_8g := cond_t q_8g hc
                                                  intro w_8p hc
                                                  have hs := hp.stp hc
                                                  replace hp := hp.ext hc
                                                  replace r_2 := r_2.step hs
                                                  replace r_5 := r_5.step hs
                                                  replace o_7x := o_7x.step hs
                                                  replace r_6n := r_6n.step hs
                                                  replace r_7j := r_7j.step hs
                                                  replace r_5p := r_5p.step hs
                                                  replace o_5q := o_5q.step hs
                                                  replace o_5r := o_5r.step hs
                                                  replace o_5j := o_5j.step hs
                                                  replace r_2j := r_2j.step hs
                                                  replace o_6l := o_6l.step hs
                                                  replace o_6m := o_6m.step hs
                                                  replace r_32 := r_32.step hs
                                                  replace o_7h := o_7h.step hs
                                                  replace o_7i := o_7i.step hs
                                                  replace tb := tb.step hs
                                                  obtain rfl := Option.some.inj q_8g
                                                  exact ⟨true, (.c rfl (.c rfl (.c rfl (.c rfl (.c rfl (.c rfl (.c rfl (.c rfl (.c rfl (.c rfl (.c rfl (.c rfl (.c rfl (.c rfl (.c rfl .n))))))))))))))), rfl, hp, r_2, r_5, r_5p, o_5q, o_5r, o_5j, r_2j, o_6l, o_6m, r_32, o_7h, o_7i, o_7x, r_6n, r_7j, tb⟩
                                                ·
                                                  have q_8g := cond_f q_8g hc
                                                  obtain ⟨x_8q, q_8r, q_8g⟩ := bind_some q_8g
                                                  refine evq_index rfl rfl rfl Tryd.underlying66 T3 r_6n q_8r ?_
                                                  intro p_8s c_8t d_8u a_8v
                                                  obtain rfl : c_8t = [(.int .i64 x_8q)] := d_8u
                                                  refine evq (fun w' hw => rn_load rfl rfl (run_loadVar1 T3 ((a_8v.step (hp.stp hw)).2 0 _ rfl))) ?_
                                                  obtain ⟨x_8w, q_8x, q_8g⟩ := bind_some q_8g
                                                  refine evq_index rfl rfl rfl Tryd.underlying66 T3 r_7j q_8x ?_
                                                  intro p_8y c_8z d_90 a_91
                                                  obtain rfl : c_8z = [(.int .i64 x_8w)] := d_90
                                                  refine evq (fun w' hw => rn_load rfl rfl (run_loadVar1 T3 ((a_91.step (hp.stp hw)).2 0 _ rfl))) ?_
                                                  intro w_92 hc
                                                  have hs := hp.stp hc
                                                  replace hp := hp.ext hc
                                                  replace r_2 := r_2.step hs
                                                  replace r_5 := r_5.step hs
                                                  replace o_7x := o_7x.step hs
                                                  replace r_6n := r_6n.step hs
                                                  replace r_7j := r_7j.step hs
                                                  replace a_8v := a_8v.step hs
                                                  replace a_91 := a_91.step hs
                                                  replace r_5p := r_5p.step hs
                                                  replace o_5q := o_5q.step hs
                                                  replace o_5r := o_5r.step hs
                                                  replace o_5j := o_5j.step hs
                                                  replace r_2j := r_2j.step hs
                                                  replace o_6l := o_6l.step hs
                                                  replace o_6m := o_6m.step hs
                                                  replace r_32 := r_32.step hs
                                                  replace o_7h := o_7h.step hs
                                                  replace o_7i := o_7i.step hs
                                                  replace tb := tb.step hs
                                                  obtain rfl := Option.some.inj q_8g
                                                  exact ⟨(x_8q != x_8w), (.c rfl (.c rfl (.c rfl (.c rfl (.c rfl (.c rfl (.c rfl (.c rfl (.c rfl (.c rfl (.c rfl (.c rfl (.c rfl (.c rfl (.c rfl .n))))))))))))))), rfl, hp, r_2, r_5, r_5p, o_5q, o_5r, o_5j, r_2j, o_6l, o_6m, r_32, o_7h, o_7i, o_7x, r_6n, r_7j, tb⟩
                                              ·
                                                have q_8g := cond_f q_8g hc
                                                obtain ⟨x_93, q_94, q_8g⟩ := bind_some q_8g
                                                refine evq_index rfl rfl rfl Tryd.underlying66 T3 r_6n q_94 ?_
                                                intro p_95 c_96 d_97 a_98
                                                obtain rfl : c_96 = [(.int .i64 x_93)] := d_97
                                                refine evq (fun w' hw => rn_load rfl rfl (run_loadVar1 T3 ((a_98.step (hp.stp hw)).2 0 _ rfl))) ?_
                                                obtain ⟨x_99, q_9a, q_8g⟩ := bind_some q_8g
                                                refine evq_index rfl rfl rfl Tryd.underlying66 T3 r_7j q_9a ?_
                                                intro p_9b c_9c d_9d a_9e
                                                obtain rfl : c_9c = [(.int .i64 x_99)] := d_9d
                                                refine evq (fun w' hw => rn_load rfl rfl (run_loadVar1 T3 ((a_9e.step (hp.stp hw)).2 0 _ rfl))) ?_
                                                intro w_9f hc
                                                have hs := hp.stp hc
                                                replace hp := hp.ext hc
                                                replace r_2 := r_2.step hs
                                                replace r_5 := r_5.step hs
                                                replace o_7x := o_7x.step hs
                                                replace r_6n := r_6n.step hs
                                                replace r_7j := r_7j.step hs
                                                replace a_98 := a_98.step hs
                                                replace a_9e := a_9e.step hs
                                                replace r_5p := r_5p.step hs
                                                replace o_5q := o_5q.step hs
                                                replace o_5r := o_5r.step hs
                                                replace o_5j := o_5j.step hs
                                                replace r_2j := r_2j.step hs
                                                replace o_6l := o_6l.step hs
                                                replace o_6m := o_6m.step hs
                                                replace r_32 := r_32.step hs
                                                replace o_7h := o_7h.step hs
                                                replace o_7i := o_7i.step hs
                                                replace tb := tb.step hs
                                                obtain rfl := Option.some.inj q_8g
                                                exact ⟨(x_93 != x_99), (.c rfl (.c rfl (.c rfl (.c rfl (.c rfl (.c rfl (.c rfl (.c rfl (.c rfl (.c rfl (.c rfl (.c rfl (.c rfl (.c rfl (.c rfl .n))))))))))))))), rfl, hp, r_2, r_5, r_5p, o_5q, o_5r, o_5j, r_2j, o_6l, o_6m, r_32, o_7h, o_7i, o_7x, r_6n, r_7j, tb⟩
                                        ·
                                          rintro x_9g w_9h ⟨hy, hp, r_2, r_5, r_5p, o_5q, o_5r, o_5j, r_2j, o_6l, o_6m, r_32, o_7h, o_7i, o_7x, r_6n, r_7j, tb⟩
                                          replace hy := hy.symm
                                          subst hy
                                          apply go
                                          refine sel_of (fun hc => ?_) (fun hc => ?_)
                                          ·
                                            have q_81 := cond_t q_81 hc
                                            apply go
                                            apply go
                                            apply go
                                            obtain rfl := Option.some.inj q_81
                                            have q_9i := congrArg some (q_7z _ (Option.some.inj q_7y).symm)
                                            obtain rfl := Option.some.inj q_9i
                                            obtain rfl := Option.some.inj q_4n
                                            have q_9j := congrArg some (q_4l _ (Option.some.inj q_4k).symm)
                                            obtain rfl := Option.some.inj q_9j
                                            obtain rfl := Option.some.inj h
                                            exact ⟨rfl, hp.ch⟩
                                          ·
                                            have q_81 := cond_f q_81 hc
                                            apply go
                                            apply go
                                            apply go
                                            obtain ⟨y_9k, q_9l, q_81⟩ := bind_some q_81
                                            refine W.cut (γ := Int) (fun g => [(0, v_1), (1, v_4), (5, (.pointer (some ⟨g_z, 0, none⟩))), (11, (.pointer (some ⟨g_2a, 0, none⟩))), (13, (.pointer (some ⟨g_2t, 0, none⟩))), (15, v_38), (17, (.int .i64 x_3q)), (18, (.int .i64 x_55)), (19, (.int .i64 x_56)), (22, v_69), (25, v_75), (27, (.int .i64 (g))), (28, (.int .i64 x_7t))]) (fun g w' => y_9k = (g) ∧ w_9h = w') ?_ ?_
                                            ·
                                              apply go
                                              apply go
                                              apply go
                                              refine sel_of (fun hc => ?_) (fun hc => ?_)
                                              ·
                                                have q_9l := cond_t q_9l hc
                                                apply go
                                                obtain rfl := Option.some.inj q_9l
                                                exact ⟨(IntKind.i64.wrap (32 + (IntKind.i64.wrap ((IntKind.i64.wrap (x_82 - 1)).tdiv 8)))), (.c rfl (.c rfl (.c rfl (.c rfl (.c rfl (.c rfl (.c rfl (.c rfl (.c rfl (.c rfl (.c rfl (.c rfl (.c rfl .n))))))))))))), rfl, rfl⟩
                                              ·
                                                have q_9l := cond_f q_9l hc
                                                apply go
                                                obtain rfl := Option.some.inj q_9l
                                                exact ⟨(IntKind.i64.wrap ((IntKind.i64.wrap (x_82 - 1)).tdiv 8)), (.c rfl (.c rfl (.c rfl (.c rfl (.c rfl (.c rfl (.c rfl (.c rfl (.c rfl (.c rfl (.c rfl (.c rfl (.c rfl .n))))))))))))), rfl, rfl⟩
                                            ·
                                              rintro x_9m _ ⟨hy, rfl⟩
                                              replace hy := hy.symm
                                              subst hy
                                              obtain ⟨y_9n, q_9o, q_81⟩ := bind_some q_81
                                              refine W.cut (γ := Bool) (fun g => [(0, v_1), (1, v_4), (5, (.pointer (some ⟨g_z, 0, none⟩))), (11, (.pointer (some ⟨g_2a, 0, none⟩))), (13, (.pointer (some ⟨g_2t, 0, none⟩))), (15, v_38), (17, (.int .i64 x_3q)), (18, (.int .i64 x_55)), (19, (.int .i64 x_56)), (22, v_69), (25, v_75), (27, (.int .i64 x_9m)), (28, (.int .i64 x_7t)), (229, (.bool (g)))]) (fun g w' => y_9n = (g) ∧ w_9h = w') ?_ ?_
                                              ·
                                                apply go
                                                obtain ⟨x_9p, q_9q, q_9o⟩ := bind_some q_9o
                                                refine ev_index rfl rfl rfl Tryd.underlying50 T66 r_5 q_9q ?_
                                                intro p_9r c_9s d_9t a_9u
                                                obtain ⟨v_9v, rfl, r_9w⟩ := d_9t
                                                refine ev (rn_load rfl rfl (run_loadVar1 T66 (a_9u.2 0 _ rfl))) ?_
                                                refine ev0 (rn_len rfl rfl Tryd.underlying66 r_9w) ?_
                                                refine sel_of (fun hc => ?_) (fun hc => ?_)
                                                ·
                                                  have q_9o := cond_t q_9o hc
                                                  refine sel_of (fun hc => ?_) (fun hc => ?_)
                                                  ·
                                                    have q_9o := cond_t q_9o hc
                                                    obtain ⟨x_9x, q_9y, q_9o⟩ := bind_some q_9o
                                                    refine ev_index rfl rfl rfl Tryd.underlying50 T66 r_5 q_9y ?_
                                                    intro p_9z c_a0 d_a1 a_a2
                                                    obtain ⟨v_a3, rfl, r_a4⟩ := d_a1
                                                    refine ev (rn_load rfl rfl (run_loadVar1 T66 (a_a2.2 0 _ rfl))) ?_
                                                    obtain ⟨x_a5, q_a6, q_9o⟩ := bind_some q_9o
                                                    refine ev_index rfl rfl rfl Tryd.underlying66 T3 r_a4 q_a6 ?_
                                                    intro p_a7 c_a8 d_a9 a_aa
                                                    obtain rfl : c_a8 = [(.int .i64 x_a5)] := d_a9
                                                    refine ev (rn_load rfl rfl (run_loadVar1 T3 (a_aa.2 0 _ rfl))) ?_
                                                    obtain rfl := Option.some.inj q_9o
                                                    exact ⟨(x_a5 == 2), (.c rfl (.c rfl (.c rfl (.c rfl (.c rfl (.c rfl (.c rfl (.c rfl (.c rfl (.c rfl (.c rfl (.c rfl (.c rfl (.c rfl .n)))))))))))))), rfl, rfl⟩
                                                  ·
                                                    have q_9o := cond_f q_9o hc
                                                    obtain rfl := Option.some.inj q_9o
                                                    exact ⟨false, (.c rfl (.c rfl (.c rfl (.c rfl (.c rfl (.c rfl (.c rfl (.c rfl (.c rfl (.c rfl (.c rfl (.c rfl (.c rfl (.c rfl .n)))))))))))))), rfl, rfl⟩
                                                ·
                                                  have q_9o := cond_f q_9o hc
                                                  obtain rfl := Option.some.inj q_9o
                                                  exact ⟨false, (.c rfl (.c rfl (.c rfl (.c rfl (.c rfl (.c rfl (.c rfl (.c rfl (.c rfl (.c rfl (.c rfl (.c rfl (.c rfl (.c rfl .n)))))))))))))), rfl, rfl⟩
                                              ·
                                                rintro x_ab _ ⟨hy, rfl⟩
                                                replace hy := hy.symm
                                                subst hy
                                                apply go
                                                refine sel_of (fun hc => ?_) (fun hc => ?_)
                                                ·
                                                  have q_81 := cond_t q_81 hc
                                                  apply go
                                                  obtain ⟨x_ac, q_ad, q_81⟩ := bind_some q_81
                                                  refine ev_indexO rfl rfl rfl Tryd.underlying65 T4 o_7x q_ad ?_
                                                  intro g_ae c_af h_ag d_ah l_ai
                                                  refine ev_storeE hp (i := 11) rfl h_ag rfl rfl rfl T4 o_7x q_ad (x0 := true) rfl ?_
                                                  intro e_aj w_ak hp hs o_al
                                                  replace r_2 := r_2.step hs
                                                  replace r_5 := r_5.step hs
                                                  replace r_6n := r_6n.step hs
                                                  replace r_7j := r_7j.step hs
                                                  replace r_5p := r_5p.step hs
                                                  replace o_5q := o_5q.step hs
                                                  replace o_5r := o_5r.step hs
                                                  replace o_5j := o_5j.step hs
                                                  replace r_2j := r_2j.step hs
                                                  replace o_6l := o_6l.step hs
                                                  replace o_6m := o_6m.step hs
                                                  replace r_32 := r_32.step hs
                                                  replace o_7h := o_7h.step hs
                                                  replace o_7i := o_7i.step hs
                                                  replace tb := tb.step hs
                                                  obtain rfl := Option.some.inj q_81
                                                  exact ⟨((upd x_7r x_9m true), x_9m, e_aj), (.c rfl (.c rfl (.c rfl (.c rfl (.c rfl (.c rfl (.c rfl (.c rfl (.c rfl (.c rfl (.c rfl (.c rfl (.c rfl .n))))))))))))), rfl, hp, r_2, r_5, r_5p, o_5q, o_5r, o_5j, r_2j, o_6l, o_6m, r_32, o_7h, o_7i, o_al, r_6n, r_7j, tb⟩
                                                ·
                                                  have q_81 := cond_f q_81 hc
                                                  apply go
                                                  obtain rfl := Option.some.inj q_81
                                                  exact ⟨(x_7r, x_9m, e_7u), (.c rfl (.c rfl (.c rfl (.c rfl (.c rfl (.c rfl (.c rfl (.c rfl (.c rfl (.c rfl (.c rfl (.c rfl (.c rfl .n))))))))))))), rfl, hp, r_2, r_5, r_5p, o_5q, o_5r, o_5j, r_2j, o_6l, o_6m, r_32, o_7h, o_7i, o_7x, r_6n, r_7j, tb⟩
                                      ·
                                        rintro ⟨x_am, x_an, e_ao⟩ w_ap ⟨hy, hp, r_2, r_5, r_5p, o_5q, o_5r, o_5j, r_2j, o_6l, o_6m, r_32, o_7h, o_7i, o_aq, r_6n, r_7j, tb⟩
                                        replace hy := hy.symm
                                        subst hy
                                        apply go
                                        exact ⟨_, (Option.some.inj q_7y).symm, e_ao, (.c rfl (.c rfl (.c rfl (.c rfl (.c rfl (.c rfl (.c rfl (.c rfl (.c rfl (.c rfl (.c rfl (.c rfl (.c rfl .n))))))))))))), ⟨hp, r_2, r_5, r_5p, o_5q, o_5r, o_5j, r_2j, o_6l, o_6m, r_32, o_7h, o_7i, o_aq, r_6n, r_7j, tb⟩⟩
                                    ·
                                      have q_7y := cond_f q_7y hc
                                      apply go
                                      have q_ar := congrArg some (q_7z _ (Option.some.inj q_7y).symm)
                                      obtain rfl := Option.some.inj q_ar
                                      exact ⟨(x_7r, x_7s, e_7u), (.c rfl (.c rfl (.c rfl (.c rfl (.c rfl (.c rfl (.c rfl (.c rfl (.c rfl (.c rfl .n)))))))))), rfl, hp, r_2, r_5, r_5p, o_5q, o_5r, o_5j, r_2j, o_6l, o_6m, r_32, o_7h, o_7i, o_7x, tb⟩
                                  ·
                                    rintro ⟨x_as, x_at, e_au⟩ w_av ⟨hy, hp, r_2, r_5, r_5p, o_5q, o_5r, o_5j, r_2j, o_6l, o_6m, r_32, o_7h, o_7i, o_aw, tb⟩
                                    replace hy := hy.symm
                                    subst hy
                                    apply go
                                    apply go
                                    apply go
                                    apply go
                                    refine sel_of (fun hc => ?_) (fun hc => ?_)
                                    ·
                                      have q_4n := cond_t q_4n hc
                                      apply go
                                      apply go
                                      apply go
                                      obtain rfl := Option.some.inj q_4n
                                      have q_ax := congrArg some (q_4l _ (Option.some.inj q_4k).symm)
                                      obtain rfl := Option.some.inj q_ax
                                      obtain rfl := Option.some.inj h
                                      exact ⟨rfl, hp.ch⟩
                                    ·
                                      have q_4n := cond_f q_4n hc
                                      apply go
                                      apply go
                                      obtain rfl := Option.some.inj q_4n
                                      exact ⟨(x_58.run.nodes, x_58.run.counters, x_58.run.active, x_58.done, x_58.status, x_58.ticks, x_65.counters, x_65.active, x_71.counters, x_71.active, x_as, (x_55 != 1), g_5e, v_5k, v_5l, e_5m, v_5n, e_5o, v_5g, e_5h, v_6h, e_6i, v_6j, e_6k, v_7d, e_7e, v_7f, e_7g, e_au, (Ad (Ad (Ad (Ad I_5b e_6c) e_6d) e_78) e_79)), (.c rfl (.c rfl (.c rfl (.c rfl (.c rfl (.c rfl (.c rfl (.c rfl .n)))))))), rfl, hp, r_2, r_5, r_5p, o_5q, o_5r, o_5j, r_2j, o_6l, o_6m, r_32, o_7h, o_7i, o_aw, tb⟩
                        ·
                          rintro ⟨x_ay, x_az, x_b0, x_b1, x_b2, x_b3, x_b4, x_b5, x_b6, x_b7, x_b8, x_b9, g_ba, v_bb, v_bc, e_bd, v_be, e_bf, v_bg, e_bh, v_bi, e_bj, v_bk, e_bl, v_bm, e_bn, v_bo, e_bp, e_bq, I_br⟩ w_bs ⟨hy, hp, r_2, r_5, r_bt, o_bu, o_bv, o_bw, r_2j, o_bx, o_by, r_32, o_bz, o_c0, o_c1, tb⟩
                          replace hy := hy.symm
                          subst hy
                          apply go
                          exact ⟨_, (Option.some.inj q_4k).symm, (g_ba, v_bb, v_bc, e_bd, v_be, e_bf, v_bg, e_bh, v_bi, e_bj, v_bk, e_bl, v_bm, e_bn, v_bo, e_bp, e_bq, I_br), (.c rfl (.c rfl (.c rfl (.c rfl (.c rfl (.c rfl (.c rfl (.c rfl .n)))))))), ⟨hp, r_2, r_5, r_bt, o_bu, o_bv, o_bw, r_2j, o_bx, o_by, r_32, o_bz, o_c0, o_c1, tb⟩⟩
                      ·
                        have q_4k := cond_f q_4k hc
                        apply go
                        have q_c2 := congrArg some (q_4l _ (Option.some.inj q_4k).symm)
                        obtain rfl := Option.some.inj q_c2
                        have hp := hp.sel [0, 1, 2, 3, 4, 11] (by decide)
                        exact ⟨(x_3e, x_3f, x_3g, x_3h, x_3i, x_3j, x_3o, g_3r, v_3s, v_3t, e_3u, v_3v, e_3w, v_3x, e_3y, e_47, I_48), (.c rfl (.c rfl (.c rfl .n))), rfl, hp, r_2, r_4b, o_4c, o_4d, o_4e, o_4j, tb⟩
                    ·
                      rintro ⟨x_c3, x_c4, x_c5, x_c6, x_c7, x_c8, x_c9, g_ca, v_cb, v_cc, e_cd, v_ce, e_cf, v_cg, e_ch, e_ci, I_cj⟩ w_ck ⟨hy, hp, r_2, r_cl, o_cm, o_cn, o_co, o_cp, tb⟩
                      replace hy := hy.symm
                      subst hy
                      apply go
                      apply go
                      obtain ⟨⟨x_cq, x_cr⟩, q_cs, h⟩ := bind_some h
                      refine ev_call rfl rfl C25 (((mission_Mission_Done_ok n) _ _  (Mission.mk (Runner.mk x_c3 x_c4 x_c5) x_c6 x_c7 x_c8) g_z [some (g_z, [(.pointer (some ⟨g_ca, 0, none⟩)), v_cg, (.int .i64 x_c7), (.int .i64 x_c8)], 91), some (g_ca, [v_cb, v_cc, v_ce], 108), e_cd, e_cf, e_ch] ⟨g_ca, [some (g_ca, [v_cb, v_cc, v_ce], 108), e_cd, e_cf], v_cg, e_ch, rfl, ⟨v_cb, v_cc, e_cd, v_ce, e_cf, rfl, r_cl, o_cm, o_cn⟩, o_co⟩ (hp.lendL [4, 2, 0, 1, 3] (by decide)) _ q_cs).mono ?_)
                      rintro _ w_ct ⟨I_cu, v_cv, F_cw, hv, hq31504, r_cx, q_cy⟩
                      replace hv := hv.symm
                      subst hv
                      obtain ⟨g_cz, E_d0, v_d1, e_d2, rfl, q_d3, o_d4⟩ := q_cy
                      obtain ⟨v_d5, v_d6, e_d7, v_d8, e_d9, rfl, r_da, o_db, o_dc⟩ := q_d3
                      have hs := hq31504.st
                      have hp := hp.backL [4, 2, 0, 1, 3] [5] (by decide) hq31504
                      replace r_2 := r_2.step hs
                      replace o_cp := o_cp.step hs
                      replace tb := tb.step hs
                      obtain ⟨y_dd, q_de, h⟩ := bind_some h
                      refine W.cut (γ := Unit) (fun _ => [(0, v_1), (31, v_cv)]) (fun _ w' => y_dd = .go () ∧ Hp ⟨w0, I0, []⟩ I_cu [] w' ∧ RepS dTask w' I_cu v_1 x_0 ∧ RepS dB w' I_cu v_cv x_cq ∧ Tb w' I_cu 2 .u64 pow10) ?_ ?_
                      ·
                        apply go
                        apply go
                        apply go
                        have hp := hp.sel [5] (by decide)
                        refine W.loop q_de (γ := Unit) (fun s _ => [(0, v_1), (15, v_38), (31, v_cv), (32, (.int .i64 (s)))]) (fun s _ w' => Hp ⟨w0, I0, []⟩ I_cu [e_ci] w' ∧ RepS dTask w' I_cu v_1 x_0 ∧ OwnS dB 4 w' I_cu v_38 e_ci x_c9 ∧ RepS dB w' I_cu v_cv x_cq ∧ Tb w' I_cu 2 .u64 pow10) () (.c rfl (.c rfl (.c rfl (.c rfl .n)))) ⟨hp, r_2, o_cp, r_cx, tb⟩ ?_
                        rintro x_df ⟨⟩ w_dg y_dh ⟨hp, r_2, o_cp, r_cx, tb⟩ q_di q_dj
                        unfold top_WholeMission_L27 at q_di
                        apply go
                        apply go
                        apply go
                        refine ev0 (rn_len rfl rfl Tryd.underlying49 r_2) ?_
                        apply go
                        refine sel_of (fun hc => ?_) (fun hc => ?_)
                        ·
                          have q_di := cond_t q_di hc
                          apply go
                          apply go
                          apply go
                          obtain ⟨y_dk, q_dl, q_di⟩ := bind_some q_di
                          refine W.cut (γ := Bool) (fun g => [(0, v_1), (15, v_38), (31, v_cv), (32, (.int .i64 x_df)), (260, (.bool (g)))]) (fun g w' => y_dk = (g) ∧ Hp ⟨w0, I0, []⟩ I_cu [e_ci] w' ∧ RepS dTask w' I_cu v_1 x_0 ∧ OwnS dB 4 w' I_cu v_38 e_ci x_c9 ∧ RepS dB w' I_cu v_cv x_cq ∧ Tb w' I_cu 2 .u64 pow10) ?_ ?_
                          ·
                            refine W.quiet (fun w' => Ch [] w_dg w') MX (by kernel_rfl) (Ch.drew [] w_dg) ?_
                            refine evq0 (rn_len rfl rfl Tryd.underlying65 r_cx) ?_
                            refine sel_of (fun hc => ?_) (fun hc => ?_)
                            ·
                              have q_dl := cond_t q_dl hc
                              intro w_dm hc
                              have hs := hp.stp hc
                              replace hp := hp.ext hc
                              replace r_2 := r_2.step hs
                              replace o_cp := o_cp.step hs
                              replace r_cx := r_cx.step hs
                              replace tb := tb.step hs
                              obtain rfl := Option.some.inj q_dl
                              exact ⟨true, (.c rfl (.c rfl (.c rfl (.c rfl (.c rfl .n))))), rfl, hp, r_2, o_cp, r_cx, tb⟩
                            ·
                              have q_dl := cond_f q_dl hc
                              obtain ⟨x_dn, q_do, q_dl⟩ := bind_some q_dl
                              refine evq_index rfl rfl rfl Tryd.underlying65 T4 r_cx q_do ?_
                              intro p_dp c_dq d_dr a_ds
                              obtain rfl : c_dq = [(.bool x_dn)] := d_dr
                              refine evq (fun w' hw => rn_load rfl rfl (run_loadVar1 T4 ((a_ds.step (hp.stp hw)).2 0 _ rfl))) ?_
                              obtain ⟨x_dt, q_du, q_dl⟩ := bind_some q_dl
                              refine evq_indexO rfl rfl rfl Tryd.underlying65 T4 o_cp q_du ?_
                              intro g_dv c_dw h_dx d_dy l_dz
                              refine evq (fun w' hw => rn_load rfl rfl (run_loadVar1 T4 ((hp.ext hw).cellE (i := 0) rfl h_dx d_dy (j := 0) rfl))) ?_
                              refine evq0 (rn_neB rfl rfl rfl Tryd.underlying4) ?_
                              intro w_e0 hc
                              have hs := hp.stp hc
                              replace hp := hp.ext hc
                              replace r_2 := r_2.step hs
                              replace o_cp := o_cp.step hs
                              replace r_cx := r_cx.step hs
                              replace a_ds := a_ds.step hs
                              replace tb := tb.step hs
                              obtain rfl := Option.some.inj q_dl
                              exact ⟨(!(x_dn == x_dt)), (.c rfl (.c rfl (.c rfl (.c rfl (.c rfl .n))))), rfl, hp, r_2, o_cp, r_cx, tb⟩
                          ·
                            rintro x_e1 w_e2 ⟨hy, hp, r_2, o_cp, r_cx, tb⟩
                            replace hy := hy.symm
                            subst hy
                            apply go
                            refine sel_of (fun hc => ?_) (fun hc => ?_)
                            ·
                              have q_di := cond_t q_di hc
                              apply go
                              apply go
                              apply go
                              have q_e3 := congrArg some (q_dj _ (Option.some.inj q_di).symm)
                              obtain rfl := Option.some.inj q_e3
                              obtain rfl := Option.some.inj h
                              exact ⟨rfl, hp.ch⟩
                            ·
                              have q_di := cond_f q_di hc
                              apply go
                              apply go
                              exact ⟨_, (Option.some.inj q_di).symm, (), (.c rfl (.c rfl (.c rfl (.c rfl .n)))), ⟨hp, r_2, o_cp, r_cx, tb⟩⟩
                        ·
                          have q_di := cond_f q_di hc
                          apply go
                          have q_e4 := congrArg some (q_dj _ (Option.some.inj q_di).symm)
                          obtain rfl := Option.some.inj q_e4
                          have hp := hp.sel [] (by decide)
                          exact ⟨(), (.c rfl (.c rfl .n)), rfl, hp, r_2, r_cx, tb⟩
                      ·
                        rintro ⟨⟩ w_e5 ⟨hy, hp, r_2, r_cx, tb⟩
                        replace hy := hy.symm
                        subst hy
                        apply go
                        apply go
                        refine ev0 (rn_len rfl rfl Tryd.underlying65 r_cx) ?_
                        refine ev0 (rn_len rfl rfl Tryd.underlying49 r_2) ?_
                        apply go
                        obtain rfl := Option.some.inj h
                        exact ⟨rfl, hp.ch⟩

end Go.Proofs.YtcdboppghnchpaaDoor
