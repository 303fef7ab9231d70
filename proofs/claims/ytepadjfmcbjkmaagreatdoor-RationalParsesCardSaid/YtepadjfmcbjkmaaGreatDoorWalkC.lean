/-
  Each function of the program computes the plain function of its name.
-/
import Derived.Test.YtepadjfmcbjkmaaGreatDoorFactsA
import Derived.Test.YtepadjfmcbjkmaaGreatDoorWalkB
namespace Go.Proofs.YtepadjfmcbjkmaaGreatDoor
open Go Go.Proofs.YtepadjfmcbjkmaaGreatDoor.Gw Go.RowKit
set_option linter.unusedVariables false
attribute [local irreducible] Ev EvQ EvS EvH
def ref02_Norm_S (f : Rational → Option Rational) : Prop := ∀ (w0 : World) (I0 : Nat → Prop) (x_0 : Rational) (v_1 : Value) (r_2 : RepS (dI .u32) w0 I0 v_1 x_0.Num.Mag) (v_3 : Value) (r_4 : RepS (dI .u32) w0 I0 v_3 x_0.Den.Mag) (hI : ∀ g, I0 g → g < w0.heap.size) (r : Rational), f x_0 = some r →
    Ret Tryz.prog 35 #[(.agg #[(.bool x_0.Num.Neg), v_1, (.bool x_0.Den.Neg), v_3])] w0 fun v w1 => ∃ (I1 : Nat → Prop) (u_5 : Value) (u_6 : Value), v = (.agg #[(.bool r.Num.Neg), u_5, (.bool r.Den.Neg), u_6]) ∧ Hp ⟨w0, I0, []⟩ I1 [] w1 ∧ RepS (dI .u32) w1 I1 u_5 r.Num.Mag ∧ RepS (dI .u32) w1 I1 u_6 r.Den.Mag
theorem ref02_Norm_ok (n : Nat) : ref02_Norm_S (ref02_Norm n) := by
  intro w0 I0 x_0 v_1 r_2 v_3 r_4 hI r h
  unfold ref02_Norm at h
  refine enter Tryz.func35 rfl (Nat.le_of_ble_eq_true rfl) ?_
  have hp : Hp ⟨w0, I0, []⟩ I0 [] w0 := Hp.start hI
  apply go
  apply go
  refine ev_boxI hp rfl rfl ?_
  intro p_5 I_6 w_7 hp hs a_8
  replace r_2 := r_2.step hs
  replace r_4 := r_4.step hs
  refine ev_alloc hp rfl T26 ?_
  intro g_9 w_a hp hs
  replace a_8 := a_8.step hs
  replace r_2 := r_2.step hs
  replace r_4 := r_4.step hs
  apply go
  apply go
  refine ev0 (rn_field rfl rfl FO26_0) ?_
  refine ev (rn_load rfl rfl (run_loadVarA T24 rfl ((a_8.drop 0).take 2))) ?_
  refine ev0 (rn_field rfl rfl FO26_1) ?_
  refine ev (rn_load rfl rfl (run_loadVarA T24 rfl ((a_8.drop 2).take 2))) ?_
  obtain ⟨x_b, q_c, h⟩ := bind_some h
  refine ev_call rfl rfl C41 (((ref02_New_ok n) _ _  (Int_2.mk x_0.Num.Neg x_0.Num.Mag) v_1 r_2 (Int_2.mk x_0.Den.Neg x_0.Den.Mag) v_3 r_4 hp.imm _ q_c).mono ?_)
  rintro _ w_d ⟨I_e, v_f, v_g, hv, hq, r_h, r_i⟩
  replace hv := hv.symm
  subst hv
  have hs := hq.st
  have hp := hp.join0 hq
  refine ev_storeA hp (i := 0) (off := 0) (vs := [(.bool x_b.Num.Neg), v_f, (.bool x_b.Den.Neg), v_g]) rfl rfl rfl rfl T26 rfl (Nat.le_of_ble_eq_true rfl) (ones_cons rfl (ones_cons r_h.one (ones_cons rfl (ones_cons r_i.one ones_nil)))) ?_
  intro w_j hp hs
  replace r_h := r_h.step hs
  replace r_i := r_i.step hs
  apply go
  obtain rfl := Option.some.inj h
  refine ⟨_, run_loadVarA T26 rfl (hp.at_ (i := 0) rfl), ?_⟩
  have hp := hp.sel [] (by decide)
  exact ⟨I_e, v_f, v_g, rfl, hp, r_h, r_i⟩

end Go.Proofs.YtepadjfmcbjkmaaGreatDoor

namespace Go.Proofs.YtepadjfmcbjkmaaGreatDoor
open Go Go.Proofs.YtepadjfmcbjkmaaGreatDoor.Gw Go.RowKit
set_option linter.unusedVariables false
attribute [local irreducible] Ev EvQ EvS EvH
def ref01_Cmp_S (f : Int_2 → Int_2 → Option Int) : Prop := ∀ (w0 : World) (I0 : Nat → Prop) (x_0 : Int_2) (v_1 : Value) (r_2 : RepS (dI .u32) w0 I0 v_1 x_0.Mag) (x_3 : Int_2) (v_4 : Value) (r_5 : RepS (dI .u32) w0 I0 v_4 x_3.Mag) (hI : ∀ g, I0 g → g < w0.heap.size) (r : Int), f x_0 x_3 = some r →
    Ret Tryz.prog 44 #[(.agg #[(.bool x_0.Neg), v_1]), (.agg #[(.bool x_3.Neg), v_4])] w0 fun v w1 => v = (.int .i64 r) ∧ Ch [] w0 w1
theorem ref01_Cmp_ok (n : Nat) : ref01_Cmp_S (ref01_Cmp n) := by
  intro w0 I0 x_0 v_1 r_2 x_3 v_4 r_5 hI r h
  unfold ref01_Cmp at h
  refine enter Tryz.func44 rfl (Nat.le_of_ble_eq_true rfl) ?_
  have hp : Hp ⟨w0, I0, []⟩ I0 [] w0 := Hp.start hI
  apply go
  apply go
  refine ev_box hp rfl rfl ?_
  intro g_6 w_7 hp hs
  replace r_5 := r_5.step hs
  replace r_2 := r_2.step hs
  refine ev_box hp rfl rfl ?_
  intro g_8 w_9 hp hs
  replace r_5 := r_5.step hs
  replace r_2 := r_2.step hs
  apply go
  apply go
  refine ev (rn_load rfl rfl (run_loadVarA T24 rfl (hp.at_ (i := 1) rfl))) ?_
  obtain ⟨x_a, q_b, h⟩ := bind_some h
  refine ev_call rfl rfl C77 (((ref01_Norm_ok n) _ _  (Int_2.mk x_0.Neg x_0.Mag) v_1 r_2 hp.imm _ q_b).mono ?_)
  rintro _ w_c ⟨I_d, v_e, hv, hq, r_f⟩
  replace hv := hv.symm
  subst hv
  have hs := hq.st
  have hp := hp.join0 hq
  replace r_5 := r_5.step hs
  replace r_2 := r_2.step hs
  refine ev_storeA hp (i := 1) (off := 0) (vs := [(.bool x_a.Neg), v_e]) rfl rfl rfl rfl T24 rfl (Nat.le_of_ble_eq_true rfl) (ones_cons rfl (ones_cons r_f.one ones_nil)) ?_
  intro w_g hp hs
  replace r_5 := r_5.step hs
  replace r_f := r_f.step hs
  apply go
  apply go
  refine ev (rn_load rfl rfl (run_loadVarA T24 rfl (hp.at_ (i := 0) rfl))) ?_
  obtain ⟨x_h, q_i, h⟩ := bind_some h
  refine ev_call rfl rfl C77 (((ref01_Norm_ok n) _ _  (Int_2.mk x_3.Neg x_3.Mag) v_4 r_5 hp.imm _ q_i).mono ?_)
  rintro _ w_j ⟨I_k, v_l, hv, hq, r_m⟩
  replace hv := hv.symm
  subst hv
  have hs := hq.st
  have hp := hp.join0 hq
  replace r_5 := r_5.step hs
  replace r_f := r_f.step hs
  refine ev_storeA hp (i := 0) (off := 0) (vs := [(.bool x_h.Neg), v_l]) rfl rfl rfl rfl T24 rfl (Nat.le_of_ble_eq_true rfl) (ones_cons rfl (ones_cons r_m.one ones_nil)) ?_
  intro w_n hp hs
  replace r_m := r_m.step hs
  replace r_f := r_f.step hs
  apply go
  apply go
  apply go
  refine ev0 (rn_field rfl rfl FO24_0) ?_
  refine ev (rn_load rfl rfl (run_loadVar1 T4 (hp.cell (i := 1) (off := 0) rfl rfl))) ?_
  refine ev0 (rn_field rfl rfl FO24_0) ?_
  refine ev (rn_load rfl rfl (run_loadVar1 T4 (hp.cell (i := 0) (off := 0) rfl rfl))) ?_
  refine ev0 (rn_neB rfl rfl rfl Tryz.underlying4) ?_
  apply go
  refine sel_of (fun hc => ?_) (fun hc => ?_)
  ·
    have h := cond_t h hc
    apply go
    apply go
    apply go
    refine ev0 (rn_field rfl rfl FO24_0) ?_
    refine ev (rn_load rfl rfl (run_loadVar1 T4 (hp.cell (i := 1) (off := 0) rfl rfl))) ?_
    apply go
    refine sel_of (fun hc => ?_) (fun hc => ?_)
    ·
      have h := cond_t h hc
      apply go
      apply go
      apply go
      obtain rfl := Option.some.inj h
      exact ⟨rfl, hp.ch⟩
    ·
      have h := cond_f h hc
      apply go
      apply go
      apply go
      apply go
      obtain rfl := Option.some.inj h
      exact ⟨rfl, hp.ch⟩
  ·
    have h := cond_f h hc
    apply go
    apply go
    apply go
    apply go
    refine ev0 (rn_field rfl rfl FO24_0) ?_
    refine ev (rn_load rfl rfl (run_loadVar1 T4 (hp.cell (i := 1) (off := 0) rfl rfl))) ?_
    apply go
    refine sel_of (fun hc => ?_) (fun hc => ?_)
    ·
      have h := cond_t h hc
      apply go
      apply go
      refine ev0 (rn_field rfl rfl FO24_1) ?_
      refine ev (rn_load rfl rfl (run_loadVar1 T22 (hp.cell (i := 0) (off := 1) rfl rfl))) ?_
      refine ev0 (rn_field rfl rfl FO24_1) ?_
      refine ev (rn_load rfl rfl (run_loadVar1 T22 (hp.cell (i := 1) (off := 1) rfl rfl))) ?_
      obtain ⟨x_o, q_p, h⟩ := bind_some h
      refine ev_call rfl rfl C78 (((ref01_cmp_ok n) _ _  x_h.Mag v_l r_m x_a.Mag v_e r_f hp.imm _ q_p).mono ?_)
      rintro _ w_q ⟨rfl, hc⟩
      have hs := hp.stp hc
      replace hp := hp.ext hc
      replace r_m := r_m.step hs
      replace r_f := r_f.step hs
      apply go
      obtain rfl := Option.some.inj h
      exact ⟨rfl, hp.ch⟩
    ·
      have h := cond_f h hc
      apply go
      apply go
      apply go
      refine ev0 (rn_field rfl rfl FO24_1) ?_
      refine ev (rn_load rfl rfl (run_loadVar1 T22 (hp.cell (i := 1) (off := 1) rfl rfl))) ?_
      refine ev0 (rn_field rfl rfl FO24_1) ?_
      refine ev (rn_load rfl rfl (run_loadVar1 T22 (hp.cell (i := 0) (off := 1) rfl rfl))) ?_
      obtain ⟨x_r, q_s, h⟩ := bind_some h
      refine ev_call rfl rfl C78 (((ref01_cmp_ok n) _ _  x_a.Mag v_e r_f x_h.Mag v_l r_m hp.imm _ q_s).mono ?_)
      rintro _ w_t ⟨rfl, hc⟩
      have hs := hp.stp hc
      replace hp := hp.ext hc
      replace r_m := r_m.step hs
      replace r_f := r_f.step hs
      apply go
      obtain rfl := Option.some.inj h
      exact ⟨rfl, hp.ch⟩

end Go.Proofs.YtepadjfmcbjkmaaGreatDoor

namespace Go.Proofs.YtepadjfmcbjkmaaGreatDoor
open Go Go.Proofs.YtepadjfmcbjkmaaGreatDoor.Gw Go.RowKit
set_option linter.unusedVariables false
attribute [local irreducible] Ev EvQ EvS EvH
def ref01_Text_S (f : Int_2 → Option ByteArray) : Prop := ∀ (w0 : World) (I0 : Nat → Prop) (x_0 : Int_2) (v_1 : Value) (r_2 : RepS (dI .u32) w0 I0 v_1 x_0.Mag) (hI : ∀ g, I0 g → g < w0.heap.size) (r : ByteArray), f x_0 = some r →
    Ret Tryz.prog 70 #[(.agg #[(.bool x_0.Neg), v_1])] w0 fun v w1 => v = (.string r) ∧ Ch [] w0 w1
theorem ref01_Text_ok (n : Nat) : ref01_Text_S (ref01_Text n) := by
  intro w0 I0 x_0 v_1 r_2 hI r h
  unfold ref01_Text at h
  refine enter Tryz.func70 rfl (Nat.le_of_ble_eq_true rfl) ?_
  have hp : Hp ⟨w0, I0, []⟩ I0 [] w0 := Hp.start hI
  apply go
  apply go
  refine ev_boxI hp rfl rfl ?_
  intro p_3 I_4 w_5 hp hs a_6
  replace r_2 := r_2.step hs
  apply go
  apply go
  apply go
  apply go
  refine ev0 (rn_field rfl rfl FO24_1) ?_
  refine ev (rn_load rfl rfl (run_loadVar1 T22 (a_6.2 1 _ rfl))) ?_
  obtain ⟨x_7, q_8, h⟩ := bind_some h
  refine ev_call rfl rfl C100 (((ref01_trim_ok n) _ _  x_0.Mag v_1 r_2 hp.imm _ q_8).mono ?_)
  rintro _ w_9 ⟨I_a, v_b, e_c, hv, hq, o_d⟩
  replace hv := hv.symm
  subst hv
  have hs := hq.st
  have hp := hp.join0 hq
  replace a_6 := a_6.step hs
  replace r_2 := r_2.step hs
  obtain ⟨y_e, q_f, h⟩ := bind_some h
  refine W.cut (γ := (ByteArray × (Nat → Prop))) (fun g => [(1, (.pointer (some (p_3)))), (3, (.string (g.1)))]) (fun g w' => y_e = (g.1) ∧ Hp ⟨w0, I0, []⟩ (g.2) [] w' ∧ RepS (dI .u32) w' (g.2) v_1 x_0.Mag ∧ At w' (g.2) p_3 [(.bool x_0.Neg), v_1]) ?_ ?_
  ·
    apply go
    refine W.loop q_f (γ := (Value × Ent × (Nat → Prop))) (fun s g => [(1, (.pointer (some (p_3)))), (3, (.string (s.1))), (4, (g.1))]) (fun s g w' => Hp ⟨w0, I0, []⟩ (g.2.2) [(g.2.1)] w' ∧ RepS (dI .u32) w' (g.2.2) v_1 x_0.Mag ∧ At w' (g.2.2) p_3 [(.bool x_0.Neg), v_1] ∧ OwnS (dI .u32) 46 w' (g.2.2) (g.1) (g.2.1) (s.2)) (v_b, e_c, I_a) (.c rfl (.c rfl (.c rfl .n))) ⟨hp, r_2, a_6, o_d⟩ ?_
    rintro ⟨x_g, x_h⟩ ⟨v_i, e_j, I_k⟩ w_l y_m ⟨hp, r_2, a_6, o_n⟩ q_o q_p
    unfold ref01_Text_L11 at q_o
    apply go
    apply go
    apply go
    refine ev0 (x_lenO rfl rfl Tryz.underlying22 o_n) ?_
    apply go
    refine sel_of (fun hc => ?_) (fun hc => ?_)
    ·
      have q_o := cond_t q_o hc
      apply go
      apply go
      apply go
      apply go
      obtain ⟨y_q, q_r, q_o⟩ := bind_some q_o
      refine W.cut (γ := ((List Int) × Int × Ent)) (fun g => [(1, (.pointer (some (p_3)))), (3, (.string x_g)), (4, v_i), (5, (.int .u64 (g.2.1)))]) (fun g w' => y_q = ((g.1), (g.2.1)) ∧ Hp ⟨w0, I0, []⟩ I_k [(g.2.2)] w' ∧ RepS (dI .u32) w' I_k v_1 x_0.Mag ∧ At w' I_k p_3 [(.bool x_0.Neg), v_1] ∧ OwnS (dI .u32) 46 w' I_k v_i (g.2.2) (g.1)) ?_ ?_
      ·
        apply go
        apply go
        refine ev0 (x_lenO rfl rfl Tryz.underlying22 o_n) ?_
        apply go
        refine W.loop q_r (γ := Ent) (fun s g => [(1, (.pointer (some (p_3)))), (3, (.string x_g)), (4, v_i), (5, (.int .u64 (s.2.1))), (6, (.int .i64 (s.2.2)))]) (fun s g w' => Hp ⟨w0, I0, []⟩ I_k [(g)] w' ∧ RepS (dI .u32) w' I_k v_1 x_0.Mag ∧ At w' I_k p_3 [(.bool x_0.Neg), v_1] ∧ OwnS (dI .u32) 46 w' I_k v_i (g) (s.1)) e_j (.c rfl (.c rfl (.c rfl (.c rfl (.c rfl .n))))) ⟨hp, r_2, a_6, o_n⟩ ?_
        rintro ⟨x_s, x_t, x_u⟩ e_v w_w y_x ⟨hp, r_2, a_6, o_y⟩ q_z q_10
        unfold ref01_Text_L13 at q_z
        apply go
        apply go
        apply go
        apply go
        refine sel_of (fun hc => ?_) (fun hc => ?_)
        ·
          have q_z := cond_t q_z hc
          apply go
          apply go
          apply go
          apply go
          apply go
          obtain ⟨x_11, q_12, q_z⟩ := bind_some q_z
          refine ev_indexO rfl rfl rfl Tryz.underlying22 T46 o_y q_12 ?_
          intro g_13 c_14 h_15 d_16 l_17
          refine ev (rn_load rfl rfl (run_loadVar1 T46 (hp.cellE (i := 0) rfl h_15 d_16 (j := 0) rfl))) ?_
          refine ev0 (rn_conv rfl rfl U46 Tryz.underlying75) ?_
          apply go
          apply go
          refine ⟨by decide, ?_⟩
          refine ev0 (rn_conv rfl rfl U75 Tryz.underlying46) ?_
          obtain ⟨x_18, q_19, q_z⟩ := bind_some q_z
          refine ev_indexO rfl rfl rfl Tryz.underlying22 T46 o_y q_19 ?_
          intro g_1a c_1b h_1c d_1d l_1e
          refine ev_storeE hp (i := 0) rfl h_1c rfl rfl rfl T46 o_y q_19 (x0 := (IntKind.u32.wrap (IntKind.u64.wrap ((IntKind.u64.wrap ((IntKind.u64.wrap (x_t * 4294967296)) + (IntKind.u64.wrap x_11))).tdiv 10)))) rfl ?_
          intro e_1f w_1g hp hs o_1h
          replace a_6 := a_6.step hs
          replace r_2 := r_2.step hs
          apply go
          refine ⟨by decide, ?_⟩
          apply go
          exact ⟨_, (Option.some.inj q_z).symm, e_1f, (.c rfl (.c rfl (.c rfl (.c rfl (.c rfl .n))))), ⟨hp, r_2, a_6, o_1h⟩⟩
        ·
          have q_z := cond_f q_z hc
          apply go
          have q_1i := congrArg some (q_10 _ (Option.some.inj q_z).symm)
          obtain rfl := Option.some.inj q_1i
          exact ⟨(x_s, x_t, e_v), (.c rfl (.c rfl (.c rfl (.c rfl .n)))), rfl, hp, r_2, a_6, o_y⟩
      ·
        rintro ⟨x_1j, x_1k, e_1l⟩ w_1m ⟨hy, hp, r_2, a_6, o_1n⟩
        replace hy := hy.symm
        subst hy
        apply go
        apply go
        refine ev0 (rn_conv rfl rfl U75 Tryz.underlying5) ?_
        refine ev_litN (d := (dI .u8)) (xs := [(IntKind.u8.wrap (IntKind.u64.wrap (48 + x_1k)))]) (cs := [(.int .u8 (IntKind.u8.wrap (IntKind.u64.wrap (48 + x_1k))))]) hp rfl rfl Tryz.underlying52 T5 (by decide) rfl rfl (Elems.cons (d := (dI .u8)) (xs := _) rfl (Elems.nil _ _ _ _)) ?_
        intro v_1o I_1p w_1q hp hs r_1r
        replace a_6 := a_6.step hs
        replace r_2 := r_2.step hs
        replace o_1n := o_1n.step hs
        refine ev (rn_bstr rfl rfl Tryz.underlying52 Tryz.underlying5 Tryz.underlying9 r_1r) ?_
        obtain ⟨q_1s, _, q_o⟩ := need_some q_o
        refine ⟨q_1s, ?_⟩
        apply go
        have r_1t := o_1n.frz hp (i := 0) rfl
        obtain ⟨hp, hs⟩ := freeze_hp hp (i := 0) rfl
        replace a_6 := a_6.step hs
        replace r_2 := r_2.step hs
        have hp := hp.sel [] (by decide)
        obtain ⟨x_1u, q_1v, q_o⟩ := bind_some q_o
        refine ev_call rfl rfl C100 (((ref01_trim_ok n) _ _  x_1j v_i r_1t hp.imm _ q_1v).mono ?_)
        rintro _ w_1w ⟨I_1x, v_1y, e_1z, hv, hq, o_20⟩
        replace hv := hv.symm
        subst hv
        have hs := hq.st
        have hp := hp.join0 hq
        replace a_6 := a_6.step hs
        replace r_2 := r_2.step hs
        exact ⟨_, (Option.some.inj q_o).symm, (v_1y, e_1z, I_1x), (.c rfl (.c rfl (.c rfl .n))), ⟨hp, r_2, a_6, o_20⟩⟩
    ·
      have q_o := cond_f q_o hc
      apply go
      have q_21 := congrArg some (q_p _ (Option.some.inj q_o).symm)
      obtain rfl := Option.some.inj q_21
      have hp := hp.sel [] (by decide)
      exact ⟨(x_g, I_k), (.c rfl (.c rfl .n)), rfl, hp, r_2, a_6⟩
  ·
    rintro ⟨x_22, I_23⟩ w_24 ⟨hy, hp, r_2, a_6⟩
    replace hy := hy.symm
    subst hy
    apply go
    apply go
    apply go
    apply go
    refine sel_of (fun hc => ?_) (fun hc => ?_)
    ·
      have h := cond_t h hc
      apply go
      apply go
      apply go
      obtain rfl := Option.some.inj h
      exact ⟨rfl, hp.ch⟩
    ·
      have h := cond_f h hc
      apply go
      apply go
      apply go
      apply go
      refine ev0 (rn_field rfl rfl FO24_0) ?_
      refine ev (rn_load rfl rfl (run_loadVar1 T4 (a_6.2 0 _ rfl))) ?_
      apply go
      refine sel_of (fun hc => ?_) (fun hc => ?_)
      ·
        have h := cond_t h hc
        apply go
        apply go
        obtain ⟨q_25, _, h⟩ := need_some h
        refine ⟨q_25, ?_⟩
        apply go
        obtain rfl := Option.some.inj h
        exact ⟨rfl, hp.ch⟩
      ·
        have h := cond_f h hc
        apply go
        apply go
        apply go
        apply go
        obtain rfl := Option.some.inj h
        exact ⟨rfl, hp.ch⟩

end Go.Proofs.YtepadjfmcbjkmaaGreatDoor

namespace Go.Proofs.YtepadjfmcbjkmaaGreatDoor
open Go Go.Proofs.YtepadjfmcbjkmaaGreatDoor.Gw Go.RowKit
set_option linter.unusedVariables false
attribute [local irreducible] Ev EvQ EvS EvH
def ref02_Text_S (f : Rational → Option ByteArray) : Prop := ∀ (w0 : World) (I0 : Nat → Prop) (x_0 : Rational) (v_1 : Value) (r_2 : RepS (dI .u32) w0 I0 v_1 x_0.Num.Mag) (v_3 : Value) (r_4 : RepS (dI .u32) w0 I0 v_3 x_0.Den.Mag) (hI : ∀ g, I0 g → g < w0.heap.size) (r : ByteArray), f x_0 = some r →
    Ret Tryz.prog 34 #[(.agg #[(.bool x_0.Num.Neg), v_1, (.bool x_0.Den.Neg), v_3])] w0 fun v w1 => v = (.string r) ∧ Ch [] w0 w1
theorem ref02_Text_ok (n : Nat) : ref02_Text_S (ref02_Text n) := by
  intro w0 I0 x_0 v_1 r_2 v_3 r_4 hI r h
  unfold ref02_Text at h
  refine enter Tryz.func34 rfl (Nat.le_of_ble_eq_true rfl) ?_
  have hp : Hp ⟨w0, I0, []⟩ I0 [] w0 := Hp.start hI
  apply go
  apply go
  refine ev_boxI hp rfl rfl ?_
  intro p_5 I_6 w_7 hp hs a_8
  replace r_2 := r_2.step hs
  replace r_4 := r_4.step hs
  apply go
  apply go
  refine ev (rn_load rfl rfl (run_loadVarA T26 rfl a_8)) ?_
  obtain ⟨x_9, q_a, h⟩ := bind_some h
  refine ev_call rfl rfl C35 (((ref02_Norm_ok n) _ _  (Rational.mk (Int_2.mk x_0.Num.Neg x_0.Num.Mag) (Int_2.mk x_0.Den.Neg x_0.Den.Mag)) v_1 r_2 v_3 r_4 hp.imm _ q_a).mono ?_)
  rintro _ w_b ⟨I_c, v_d, v_e, hv, hq, r_f, r_g⟩
  replace hv := hv.symm
  subst hv
  have hs := hq.st
  have hp := hp.join0 hq
  refine ev_alloc hp rfl T26 ?_
  intro g_h w_i hp hs
  replace r_f := r_f.step hs
  replace r_g := r_g.step hs
  refine ev_storeA hp (i := 0) (off := 0) (vs := [(.bool x_9.Num.Neg), v_d, (.bool x_9.Den.Neg), v_e]) rfl rfl rfl rfl T26 rfl (Nat.le_of_ble_eq_true rfl) (ones_cons rfl (ones_cons r_f.one (ones_cons rfl (ones_cons r_g.one ones_nil)))) ?_
  intro w_j hp hs
  replace r_f := r_f.step hs
  replace r_g := r_g.step hs
  apply go
  apply go
  have hs := hp.stp (Ch.drew [] w_j)
  have hp := hp.drew
  replace r_f := r_f.step hs
  replace r_g := r_g.step hs
  refine W.held [(0, true), (1, true), (2, false), (3, false), (4, true)] (fun x => Stp I_c w_j.drew I_c x ∧ OwnK [(g_h, [(.bool x_9.Num.Neg), v_d, (.bool x_9.Den.Neg), v_e], 26)] x) MX (by kernel_rfl) ⟨Stp.refl _ _, (OwnK.cons (hp.own 0 _ _ _ rfl).1 OwnK.nil)⟩ ?_
  have hz := Stp.refl I_c w_j.drew
  refine evh0 (rn_field rfl rfl FO26_1) ?_
  refine evh (fun w' hw => rn_load rfl rfl (run_loadVarA T24 rfl (((hw.2.at_ (i := 0) rfl).drop 2).take 2))) ?_
  obtain ⟨x_k, q_l, h⟩ := bind_some h
  refine ev_call rfl rfl C45 (((ref02_One_ok n) _ _   hp.imm _ q_l).mono ?_)
  rintro _ w_m ⟨I_n, v_o, hv, hq, r_p⟩
  replace hv := hv.symm
  subst hv
  have hs := hq.st
  have hp := hp.join0 hq
  replace hz := hz.trans hs
  replace r_g := r_g.step hs
  replace r_f := r_f.step hs
  refine ⟨fun x => Stp I_n w_m I_n x ∧ OwnK [(g_h, [(.bool x_9.Num.Neg), v_d, (.bool x_9.Den.Neg), v_e], 26)] x, ⟨Stp.refl _ _, (OwnK.cons (hp.own 0 _ _ _ rfl).1 OwnK.nil)⟩, fun x hx => ⟨hz.held hx.1, hx.2⟩, ?_⟩
  have hz := Stp.refl I_n w_m
  obtain ⟨x_q, q_r, h⟩ := bind_some h
  refine ev_call rfl rfl C44 (((ref01_Cmp_ok n) _ _  (Int_2.mk x_9.Den.Neg x_9.Den.Mag) v_e r_g x_k v_o r_p hp.imm _ q_r).mono ?_)
  rintro _ w_s ⟨rfl, hc⟩
  have hs := hp.stp hc
  replace hp := hp.ext hc
  replace hz := hz.trans hs
  replace r_f := r_f.step hs
  replace r_g := r_g.step hs
  refine ⟨fun x => Stp I_n w_s I_n x ∧ OwnK [(g_h, [(.bool x_9.Num.Neg), v_d, (.bool x_9.Den.Neg), v_e], 26)] x, ⟨Stp.refl _ _, (OwnK.cons (hp.own 0 _ _ _ rfl).1 OwnK.nil)⟩, fun x hx => ⟨hz.held hx.1, hx.2⟩, ?_⟩
  have hz := Stp.refl I_n w_s
  apply go
  refine sel_of (fun hc => ?_) (fun hc => ?_)
  ·
    have h := cond_t h hc
    apply go
    apply go
    refine ev0 (rn_field rfl rfl FO26_0) ?_
    refine ev (rn_load rfl rfl (run_loadVarA T24 rfl (((hp.at_ (i := 0) rfl).drop 0).take 2))) ?_
    obtain ⟨x_t, q_u, h⟩ := bind_some h
    refine ev_call rfl rfl C70 (((ref01_Text_ok n) _ _  (Int_2.mk x_9.Num.Neg x_9.Num.Mag) v_d r_f hp.imm _ q_u).mono ?_)
    rintro _ w_v ⟨rfl, hc⟩
    have hs := hp.stp hc
    replace hp := hp.ext hc
    replace r_f := r_f.step hs
    replace r_g := r_g.step hs
    apply go
    obtain rfl := Option.some.inj h
    exact ⟨rfl, hp.ch⟩
  ·
    have h := cond_f h hc
    apply go
    apply go
    refine W.quiet (fun w' => Ch [] w_s w') MX (by kernel_rfl) (Ch.drew [] w_s) ?_
    refine evq0 (rn_field rfl rfl FO26_0) ?_
    refine evq (fun w' hw => rn_load rfl rfl (run_loadVarA T24 rfl ((((hp.ext hw).at_ (i := 0) rfl).drop 0).take 2))) ?_
    obtain ⟨x_w, q_x, h⟩ := bind_some h
    refine evq_call rfl rfl C70 (fun w' hw => ((ref01_Text_ok n) _ _  (Int_2.mk x_9.Num.Neg x_9.Num.Mag) v_d (r_f.step (hp.stp hw)) (hp.ext hw).imm _ q_x).mono fun _ _ ⟨e, hc⟩ => ⟨e, hw.trans hc⟩) ?_
    obtain ⟨q_y, _, h⟩ := need_some h
    refine ⟨q_y, ?_⟩
    refine evq0 (rn_field rfl rfl FO26_1) ?_
    refine evq (fun w' hw => rn_load rfl rfl (run_loadVarA T24 rfl ((((hp.ext hw).at_ (i := 0) rfl).drop 2).take 2))) ?_
    obtain ⟨x_z, q_10, h⟩ := bind_some h
    refine evq_call rfl rfl C70 (fun w' hw => ((ref01_Text_ok n) _ _  (Int_2.mk x_9.Den.Neg x_9.Den.Mag) v_e (r_g.step (hp.stp hw)) (hp.ext hw).imm _ q_10).mono fun _ _ ⟨e, hc⟩ => ⟨e, hw.trans hc⟩) ?_
    obtain ⟨q_11, _, h⟩ := need_some h
    refine ⟨q_11, ?_⟩
    intro w_12 hc
    have hs := hp.stp hc
    replace hp := hp.ext hc
    replace r_f := r_f.step hs
    replace r_g := r_g.step hs
    apply go
    obtain rfl := Option.some.inj h
    exact ⟨rfl, hp.ch⟩

end Go.Proofs.YtepadjfmcbjkmaaGreatDoor

namespace Go.Proofs.YtepadjfmcbjkmaaGreatDoor
open Go Go.Proofs.YtepadjfmcbjkmaaGreatDoor.Gw Go.RowKit
set_option linter.unusedVariables false
attribute [local irreducible] Ev EvQ EvS EvH
def ref01_Parse_S (f : ByteArray → Option (Int_2 × Int)) : Prop := ∀ (w0 : World) (I0 : Nat → Prop) (x_0 : ByteArray) (hI : ∀ g, I0 g → g < w0.heap.size) (r : (Int_2 × Int)), f x_0 = some r →
    Ret Tryz.prog 68 #[(.string x_0)] w0 fun v w1 => ∃ (I1 : Nat → Prop) (u_1 : Value), v = (.tuple #[(.agg #[(.bool r.1.Neg), u_1]), (.int .i64 r.2)]) ∧ Hp ⟨w0, I0, []⟩ I1 [] w1 ∧ RepS (dI .u32) w1 I1 u_1 r.1.Mag
theorem ref01_Parse_ok (n : Nat) : ref01_Parse_S (ref01_Parse n) := by
  intro w0 I0 x_0 hI r h
  unfold ref01_Parse at h
  refine enter Tryz.func68 rfl (Nat.le_of_ble_eq_true rfl) ?_
  have hp : Hp ⟨w0, I0, []⟩ I0 [] w0 := Hp.start hI
  apply go
  apply go
  refine ev_alloc hp rfl T24 ?_
  intro g_1 w_2 hp hs
  apply go
  apply go
  apply go
  refine ev0 (rn_lenS rfl rfl Tryz.underlying9) ?_
  apply go
  refine sel_of (fun hc => ?_) (fun hc => ?_)
  ·
    have h := cond_t h hc
    apply go
    apply go
    refine ev0 (fun w => rn_build (cs := [(.bool false), (.slice none 0 0)]) rfl rfl T24 PL24 rfl) ?_
    refine ev_storeA hp (i := 0) (off := 0) (vs := [(.bool false), (.slice none 0 0)]) rfl rfl rfl rfl T24 rfl (Nat.le_of_ble_eq_true rfl) (ones_of rfl) ?_
    intro w_3 hp hs
    apply go
    obtain rfl := Option.some.inj h
    refine ⟨_, run_loadVarA T24 rfl (hp.at_ (i := 0) rfl), ?_⟩
    have hp := hp.sel [] (by decide)
    exact ⟨I0, .slice none 0 0, rfl, hp, RepS.nil _ _ _⟩
  ·
    have h := cond_f h hc
    apply go
    apply go
    apply go
    have hp := hp.none_
    have o_4 := OwnS.nil (dI .u32) 46 w_2 I0
    apply go
    apply go
    obtain ⟨y_5, q_6, h⟩ := bind_some h
    refine W.cut (γ := Int) (fun g => [(0, (.string x_0)), (2, (.pointer (some ⟨g_1, 0, none⟩))), (4, (.slice none 0 0)), (5, (.int .i64 (g)))]) (fun g w' => y_5 = (g) ∧ w_2 = w') ?_ ?_
    ·
      obtain ⟨y_7, q_8, q_6⟩ := bind_some q_6
      refine W.cut (γ := Bool) (fun g => [(0, (.string x_0)), (2, (.pointer (some ⟨g_1, 0, none⟩))), (4, (.slice none 0 0)), (5, (.int .i64 0)), (21, (.bool (g)))]) (fun g w' => y_7 = (g) ∧ w_2 = w') ?_ ?_
      ·
        apply go
        refine ev0 (rn_lenS rfl rfl Tryz.underlying9) ?_
        refine sel_of (fun hc => ?_) (fun hc => ?_)
        ·
          have q_8 := cond_t q_8 hc
          obtain ⟨x_9, q_a, q_8⟩ := bind_some q_8
          refine ev0 (rn_indexS rfl rfl rfl Tryz.underlying9 q_a) ?_
          obtain rfl := Option.some.inj q_8
          exact ⟨(x_9 == 45), (.c rfl (.c rfl (.c rfl (.c rfl (.c rfl .n))))), rfl, rfl⟩
        ·
          have q_8 := cond_f q_8 hc
          obtain rfl := Option.some.inj q_8
          exact ⟨false, (.c rfl (.c rfl (.c rfl (.c rfl (.c rfl .n))))), rfl, rfl⟩
      ·
        rintro x_b _ ⟨hy, rfl⟩
        replace hy := hy.symm
        subst hy
        apply go
        refine sel_of (fun hc => ?_) (fun hc => ?_)
        ·
          have q_6 := cond_t q_6 hc
          apply go
          obtain rfl := Option.some.inj q_6
          exact ⟨1, (.c rfl (.c rfl (.c rfl (.c rfl .n)))), rfl, rfl⟩
        ·
          have q_6 := cond_f q_6 hc
          apply go
          obtain rfl := Option.some.inj q_6
          exact ⟨0, (.c rfl (.c rfl (.c rfl (.c rfl .n)))), rfl, rfl⟩
    ·
      rintro x_c _ ⟨hy, rfl⟩
      replace hy := hy.symm
      subst hy
      obtain ⟨y_d, q_e, h⟩ := bind_some h
      refine W.cut (γ := ((List Int) × Value × Ent × (Nat → Prop))) (fun g => [(0, (.string x_0)), (2, (.pointer (some ⟨g_1, 0, none⟩))), (4, (g.2.1)), (5, (.int .i64 x_c))]) (fun g w' => y_d = .go (g.1) ∧ Hp ⟨w0, I0, []⟩ (g.2.2.2) [some (g_1, [(.bool false), (.slice none 0 0)], 24), (g.2.2.1)] w' ∧ OwnS (dI .u32) 46 w' (g.2.2.2) (g.2.1) (g.2.2.1) (g.1)) ?_ ?_
      ·
        apply go
        apply go
        apply go
        have hp := hp.perm [1, 0] (by decide)
        refine W.loop q_e (γ := (Value × Ent × (Nat → Prop))) (fun s g => [(0, (.string x_0)), (2, (.pointer (some ⟨g_1, 0, none⟩))), (4, (g.1)), (5, (.int .i64 x_c)), (6, (.int .i64 (s.2)))]) (fun s g w' => Hp ⟨w0, I0, []⟩ (g.2.2) [some (g_1, [(.bool false), (.slice none 0 0)], 24), (g.2.1)] w' ∧ OwnS (dI .u32) 46 w' (g.2.2) (g.1) (g.2.1) (s.1)) ((.slice none 0 0), none, I0) (.c rfl (.c rfl (.c rfl (.c rfl (.c rfl .n))))) ⟨hp, o_4⟩ ?_
        rintro ⟨x_f, x_g⟩ ⟨v_h, e_i, I_j⟩ w_k y_l ⟨hp, o_m⟩ q_n q_o
        unfold ref01_Parse_L21 at q_n
        apply go
        apply go
        apply go
        refine ev0 (rn_lenS rfl rfl Tryz.underlying9) ?_
        apply go
        refine sel_of (fun hc => ?_) (fun hc => ?_)
        ·
          have q_n := cond_t q_n hc
          apply go
          obtain ⟨y_p, q_q, q_n⟩ := bind_some q_n
          refine W.cut (γ := ((List Int) × Value × Ent × (Nat → Prop))) (fun g => [(0, (.string x_0)), (2, (.pointer (some ⟨g_1, 0, none⟩))), (4, (g.2.1)), (5, (.int .i64 x_c)), (6, (.int .i64 x_g))]) (fun g w' => y_p = .go (g.1) ∧ Hp ⟨w0, I0, []⟩ (g.2.2.2) [some (g_1, [(.bool false), (.slice none 0 0)], 24), (g.2.2.1)] w' ∧ OwnS (dI .u32) 46 w' (g.2.2.2) (g.2.1) (g.2.2.1) (g.1)) ?_ ?_
          ·
            apply go
            apply go
            obtain ⟨y_r, q_s, q_q⟩ := bind_some q_q
            refine W.cut (γ := Bool) (fun g => [(0, (.string x_0)), (2, (.pointer (some ⟨g_1, 0, none⟩))), (4, v_h), (5, (.int .i64 x_c)), (6, (.int .i64 x_g)), (38, (.bool (g)))]) (fun g w' => y_r = (g) ∧ w_k = w') ?_ ?_
            ·
              apply go
              obtain ⟨x_t, q_u, q_s⟩ := bind_some q_s
              refine ev0 (rn_indexS rfl rfl rfl Tryz.underlying9 q_u) ?_
              refine sel_of (fun hc => ?_) (fun hc => ?_)
              ·
                have q_s := cond_t q_s hc
                obtain rfl := Option.some.inj q_s
                exact ⟨true, (.c rfl (.c rfl (.c rfl (.c rfl (.c rfl (.c rfl .n)))))), rfl, rfl⟩
              ·
                have q_s := cond_f q_s hc
                obtain ⟨x_v, q_w, q_s⟩ := bind_some q_s
                refine ev0 (rn_indexS rfl rfl rfl Tryz.underlying9 q_w) ?_
                obtain rfl := Option.some.inj q_s
                exact ⟨(decide (x_v > 57)), (.c rfl (.c rfl (.c rfl (.c rfl (.c rfl (.c rfl .n)))))), rfl, rfl⟩
            ·
              rintro x_x _ ⟨hy, rfl⟩
              replace hy := hy.symm
              subst hy
              apply go
              refine sel_of (fun hc => ?_) (fun hc => ?_)
              ·
                have q_q := cond_t q_q hc
                apply go
                apply go
                refine ev0 (fun w => rn_build (cs := [(.bool false), (.slice none 0 0)]) rfl rfl T24 PL24 rfl) ?_
                refine ev_storeA hp (i := 0) (off := 0) (vs := [(.bool false), (.slice none 0 0)]) rfl rfl rfl rfl T24 rfl (Nat.le_of_ble_eq_true rfl) (ones_of rfl) ?_
                intro w_y hp hs
                apply go
                obtain rfl := Option.some.inj q_q
                have q_z := congrArg some (q_o _ (Option.some.inj q_n).symm)
                obtain rfl := Option.some.inj q_z
                obtain rfl := Option.some.inj h
                refine ⟨_, run_loadVarA T24 rfl (hp.at_ (i := 0) rfl), ?_⟩
                have hp := hp.sel [] (by decide)
                exact ⟨I_j, .slice none 0 0, rfl, hp, RepS.nil _ _ _⟩
              ·
                have q_q := cond_f q_q hc
                apply go
                apply go
                apply go
                obtain ⟨x_10, q_11, q_q⟩ := bind_some q_q
                refine ev0 (rn_indexS rfl rfl rfl Tryz.underlying9 q_11) ?_
                refine ev0 (rn_conv rfl rfl U5 Tryz.underlying75) ?_
                obtain ⟨y_12, q_13, q_q⟩ := bind_some q_q
                refine W.cut (γ := ((List Int) × Int × Ent)) (fun g => [(0, (.string x_0)), (2, (.pointer (some ⟨g_1, 0, none⟩))), (4, v_h), (5, (.int .i64 x_c)), (6, (.int .i64 x_g)), (7, (.int .u64 (g.2.1)))]) (fun g w' => y_12 = ((g.1), (g.2.1)) ∧ Hp ⟨w0, I0, []⟩ I_j [some (g_1, [(.bool false), (.slice none 0 0)], 24), (g.2.2)] w' ∧ OwnS (dI .u32) 46 w' I_j v_h (g.2.2) (g.1)) ?_ ?_
                ·
                  apply go
                  apply go
                  apply go
                  refine W.loop q_13 (γ := Ent) (fun s g => [(0, (.string x_0)), (2, (.pointer (some ⟨g_1, 0, none⟩))), (4, v_h), (5, (.int .i64 x_c)), (6, (.int .i64 x_g)), (7, (.int .u64 (s.2.1))), (8, (.int .i64 (s.2.2)))]) (fun s g w' => Hp ⟨w0, I0, []⟩ I_j [some (g_1, [(.bool false), (.slice none 0 0)], 24), (g)] w' ∧ OwnS (dI .u32) 46 w' I_j v_h (g) (s.1)) e_i (.c rfl (.c rfl (.c rfl (.c rfl (.c rfl (.c rfl (.c rfl .n))))))) ⟨hp, o_m⟩ ?_
                  rintro ⟨x_14, x_15, x_16⟩ e_17 w_18 y_19 ⟨hp, o_1a⟩ q_1b q_1c
                  unfold ref01_Parse_L25 at q_1b
                  apply go
                  apply go
                  apply go
                  refine ev0 (x_lenO rfl rfl Tryz.underlying22 o_1a) ?_
                  apply go
                  refine sel_of (fun hc => ?_) (fun hc => ?_)
                  ·
                    have q_1b := cond_t q_1b hc
                    apply go
                    apply go
                    apply go
                    apply go
                    apply go
                    obtain ⟨x_1d, q_1e, q_1b⟩ := bind_some q_1b
                    refine ev_indexO rfl rfl rfl Tryz.underlying22 T46 o_1a q_1e ?_
                    intro g_1f c_1g h_1h d_1i l_1j
                    refine ev (rn_load rfl rfl (run_loadVar1 T46 (hp.cellE (i := 1) rfl h_1h d_1i (j := 0) rfl))) ?_
                    refine ev0 (rn_conv rfl rfl U46 Tryz.underlying75) ?_
                    apply go
                    apply go
                    refine ev0 (rn_conv rfl rfl U75 Tryz.underlying46) ?_
                    obtain ⟨x_1k, q_1l, q_1b⟩ := bind_some q_1b
                    refine ev_indexO rfl rfl rfl Tryz.underlying22 T46 o_1a q_1l ?_
                    intro g_1m c_1n h_1o d_1p l_1q
                    refine ev_storeE hp (i := 1) rfl h_1o rfl rfl rfl T46 o_1a q_1l (x0 := (IntKind.u32.wrap (IntKind.u64.wrap (x_15 + (IntKind.u64.wrap ((IntKind.u64.wrap x_1d) * 10)))))) rfl ?_
                    intro e_1r w_1s hp hs o_1t
                    apply go
                    refine ⟨by decide, ?_⟩
                    apply go
                    exact ⟨_, (Option.some.inj q_1b).symm, e_1r, (.c rfl (.c rfl (.c rfl (.c rfl (.c rfl (.c rfl (.c rfl .n))))))), ⟨hp, o_1t⟩⟩
                  ·
                    have q_1b := cond_f q_1b hc
                    apply go
                    have q_1u := congrArg some (q_1c _ (Option.some.inj q_1b).symm)
                    obtain rfl := Option.some.inj q_1u
                    exact ⟨(x_14, x_15, e_17), (.c rfl (.c rfl (.c rfl (.c rfl (.c rfl (.c rfl .n)))))), rfl, hp, o_1a⟩
                ·
                  rintro ⟨x_1v, x_1w, e_1x⟩ w_1y ⟨hy, hp, o_1z⟩
                  replace hy := hy.symm
                  subst hy
                  apply go
                  apply go
                  apply go
                  refine sel_of (fun hc => ?_) (fun hc => ?_)
                  ·
                    have q_q := cond_t q_q hc
                    apply go
                    refine ev0 (rn_conv rfl rfl U75 Tryz.underlying46) ?_
                    refine ev_litN (d := (dI .u32)) (xs := [(IntKind.u32.wrap x_1w)]) (cs := [(.int .u32 (IntKind.u32.wrap x_1w))]) hp rfl rfl Tryz.underlying22 T46 (by decide) rfl rfl (Elems.cons (d := (dI .u32)) (xs := _) rfl (Elems.nil _ _ _ _)) ?_
                    intro v_20 I_21 w_22 hp hs r_23
                    replace o_1z := o_1z.step hs
                    obtain ⟨x_24, q_25, q_q⟩ := bind_some q_q
                    refine ev_append hp (i := 1) rfl rfl rfl rfl Tryz.underlying22 T46 rfl rfl o_1z r_23 q_25 ?_
                    rintro v_26 e_27 w_28 hp hs o_29
                    obtain rfl := Option.some.inj q_q
                    exact ⟨(x_24, v_26, e_27, I_21), (.c rfl (.c rfl (.c rfl (.c rfl (.c rfl .n))))), rfl, hp, o_29⟩
                  ·
                    have q_q := cond_f q_q hc
                    apply go
                    obtain rfl := Option.some.inj q_q
                    exact ⟨(x_1v, v_h, e_1x, I_j), (.c rfl (.c rfl (.c rfl (.c rfl (.c rfl .n))))), rfl, hp, o_1z⟩
          ·
            rintro ⟨x_2a, v_2b, e_2c, I_2d⟩ w_2e ⟨hy, hp, o_2f⟩
            replace hy := hy.symm
            subst hy
            apply go
            exact ⟨_, (Option.some.inj q_n).symm, (v_2b, e_2c, I_2d), (.c rfl (.c rfl (.c rfl (.c rfl (.c rfl .n))))), ⟨hp, o_2f⟩⟩
        ·
          have q_n := cond_f q_n hc
          apply go
          have q_2g := congrArg some (q_o _ (Option.some.inj q_n).symm)
          obtain rfl := Option.some.inj q_2g
          exact ⟨(x_f, v_h, e_i, I_j), (.c rfl (.c rfl (.c rfl (.c rfl .n)))), rfl, hp, o_m⟩
      ·
        rintro ⟨x_2h, v_2i, e_2j, I_2k⟩ w_2l ⟨hy, hp, o_2m⟩
        replace hy := hy.symm
        subst hy
        apply go
        apply go
        obtain ⟨A_2n, m_2o, m_2p, rfl⟩ := o_2m.isSl
        refine ev0 (fun w => rn_build (cs := [(.bool (x_c == 1)), (.slice A_2n m_2o m_2p)]) rfl rfl T24 PL24 rfl) ?_
        have r_2q := o_2m.frz hp (i := 1) rfl
        obtain ⟨hp, hs⟩ := freeze_hp hp (i := 1) rfl
        have hp := hp.sel [0] (by decide)
        obtain ⟨x_2r, q_2s, h⟩ := bind_some h
        refine ev_call rfl rfl C77 (((ref01_Norm_ok n) _ _  (Int_2.mk (x_c == 1) x_2h) (.slice A_2n m_2o m_2p) r_2q hp.imm _ q_2s).mono ?_)
        rintro _ w_2t ⟨I_2u, v_2v, hv, hq, r_2w⟩
        replace hv := hv.symm
        subst hv
        have hs := hq.st
        have hp := hp.join0 hq
        refine ev_alloc hp rfl T24 ?_
        intro g_2x w_2y hp hs
        replace r_2w := r_2w.step hs
        refine ev_storeA hp (i := 0) (off := 0) (vs := [(.bool x_2r.Neg), v_2v]) rfl rfl rfl rfl T24 rfl (Nat.le_of_ble_eq_true rfl) (ones_cons rfl (ones_cons r_2w.one ones_nil)) ?_
        intro w_2z hp hs
        replace r_2w := r_2w.step hs
        apply go
        apply go
        apply go
        refine ev (rn_load rfl rfl (run_loadVarA T24 rfl (hp.at_ (i := 0) rfl))) ?_
        obtain ⟨x_30, q_31, h⟩ := bind_some h
        refine ev_call rfl rfl C70 (((ref01_Text_ok n) _ _  (Int_2.mk x_2r.Neg x_2r.Mag) v_2v r_2w hp.imm _ q_31).mono ?_)
        rintro _ w_32 ⟨rfl, hc⟩
        have hs := hp.stp hc
        replace hp := hp.ext hc
        replace r_2w := r_2w.step hs
        apply go
        refine sel_of (fun hc => ?_) (fun hc => ?_)
        ·
          have h := cond_t h hc
          apply go
          apply go
          refine ev0 (fun w => rn_build (cs := [(.bool false), (.slice none 0 0)]) rfl rfl T24 PL24 rfl) ?_
          refine ev_storeA hp (i := 1) (off := 0) (vs := [(.bool false), (.slice none 0 0)]) rfl rfl rfl rfl T24 rfl (Nat.le_of_ble_eq_true rfl) (ones_of rfl) ?_
          intro w_33 hp hs
          replace r_2w := r_2w.step hs
          apply go
          obtain rfl := Option.some.inj h
          refine ⟨_, run_loadVarA T24 rfl (hp.at_ (i := 1) rfl), ?_⟩
          have hp := hp.sel [] (by decide)
          exact ⟨I_2u, .slice none 0 0, rfl, hp, RepS.nil _ _ _⟩
        ·
          have h := cond_f h hc
          apply go
          apply go
          apply go
          refine ev (rn_load rfl rfl (run_loadVarA T24 rfl (hp.at_ (i := 0) rfl))) ?_
          refine ev_storeA hp (i := 1) (off := 0) (vs := [(.bool x_2r.Neg), v_2v]) rfl rfl rfl rfl T24 rfl (Nat.le_of_ble_eq_true rfl) (ones_cons rfl (ones_cons r_2w.one ones_nil)) ?_
          intro w_34 hp hs
          replace r_2w := r_2w.step hs
          apply go
          obtain rfl := Option.some.inj h
          refine ⟨_, run_loadVarA T24 rfl (hp.at_ (i := 1) rfl), ?_⟩
          have hp := hp.sel [] (by decide)
          exact ⟨I_2u, v_2v, rfl, hp, r_2w⟩

end Go.Proofs.YtepadjfmcbjkmaaGreatDoor

namespace Go.Proofs.YtepadjfmcbjkmaaGreatDoor
open Go Go.Proofs.YtepadjfmcbjkmaaGreatDoor.Gw Go.RowKit
set_option linter.unusedVariables false
attribute [local irreducible] Ev EvQ EvS EvH
def ref02_Parse_S (f : ByteArray → Option (Rational × Int)) : Prop := ∀ (w0 : World) (I0 : Nat → Prop) (x_0 : ByteArray) (hI : ∀ g, I0 g → g < w0.heap.size) (r : (Rational × Int)), f x_0 = some r →
    Ret Tryz.prog 32 #[(.string x_0)] w0 fun v w1 => ∃ (I1 : Nat → Prop) (u_1 : Value) (u_2 : Value), v = (.tuple #[(.agg #[(.bool r.1.Num.Neg), u_1, (.bool r.1.Den.Neg), u_2]), (.int .i64 r.2)]) ∧ Hp ⟨w0, I0, []⟩ I1 [] w1 ∧ RepS (dI .u32) w1 I1 u_1 r.1.Num.Mag ∧ RepS (dI .u32) w1 I1 u_2 r.1.Den.Mag
theorem ref02_Parse_ok (n : Nat) : ref02_Parse_S (ref02_Parse n) := by
  intro w0 I0 x_0 hI r h
  unfold ref02_Parse at h
  refine enter Tryz.func32 rfl (Nat.le_of_ble_eq_true rfl) ?_
  have hp : Hp ⟨w0, I0, []⟩ I0 [] w0 := Hp.start hI
  apply go
  apply go
  refine ev_alloc hp rfl T26 ?_
  intro g_1 w_2 hp hs
  apply go
  apply go
  obtain ⟨y_3, q_4, h⟩ := bind_some h
  refine W.cut (γ := Int) (fun g => [(0, (.string x_0)), (2, (.pointer (some ⟨g_1, 0, none⟩))), (4, (.int .i64 (g)))]) (fun g w' => y_3 = (g) ∧ w_2 = w') ?_ ?_
  ·
    apply go
    refine W.loop q_4 (γ := Unit) (fun s _ => [(0, (.string x_0)), (2, (.pointer (some ⟨g_1, 0, none⟩))), (4, (.int .i64 (s)))]) (fun s _ w' => w_2 = w') () (.c rfl (.c rfl (.c rfl .n))) rfl ?_
    rintro x_5 ⟨⟩ _ y_6 rfl q_7 q_8
    unfold ref02_Parse_L1 at q_7
    apply go
    obtain ⟨y_9, q_a, q_7⟩ := bind_some q_7
    refine W.cut (γ := Bool) (fun g => [(0, (.string x_0)), (2, (.pointer (some ⟨g_1, 0, none⟩))), (4, (.int .i64 x_5)), (20, (.bool (g)))]) (fun g w' => y_9 = (g) ∧ w_2 = w') ?_ ?_
    ·
      apply go
      refine ev0 (rn_lenS rfl rfl Tryz.underlying9) ?_
      refine sel_of (fun hc => ?_) (fun hc => ?_)
      ·
        have q_a := cond_t q_a hc
        obtain ⟨x_b, q_c, q_a⟩ := bind_some q_a
        refine ev0 (rn_indexS rfl rfl rfl Tryz.underlying9 q_c) ?_
        obtain rfl := Option.some.inj q_a
        exact ⟨(x_b != 47), (.c rfl (.c rfl (.c rfl (.c rfl .n)))), rfl, rfl⟩
      ·
        have q_a := cond_f q_a hc
        obtain rfl := Option.some.inj q_a
        exact ⟨false, (.c rfl (.c rfl (.c rfl (.c rfl .n)))), rfl, rfl⟩
    ·
      rintro x_d _ ⟨hy, rfl⟩
      replace hy := hy.symm
      subst hy
      apply go
      refine sel_of (fun hc => ?_) (fun hc => ?_)
      ·
        have q_7 := cond_t q_7 hc
        apply go
        apply go
        apply go
        exact ⟨_, (Option.some.inj q_7).symm, (), (.c rfl (.c rfl (.c rfl .n))), rfl⟩
      ·
        have q_7 := cond_f q_7 hc
        apply go
        have q_e := congrArg some (q_8 _ (Option.some.inj q_7).symm)
        obtain rfl := Option.some.inj q_e
        exact ⟨x_5, (.c rfl (.c rfl (.c rfl .n))), rfl, rfl⟩
  ·
    rintro x_f _ ⟨hy, rfl⟩
    replace hy := hy.symm
    subst hy
    apply go
    apply go
    obtain ⟨y_g, q_h, h⟩ := bind_some h
    refine W.cut (γ := ByteArray) (fun g => [(0, (.string x_0)), (2, (.pointer (some ⟨g_1, 0, none⟩))), (4, (.int .i64 x_f)), (5, (.string (g)))]) (fun g w' => y_g = (g) ∧ w_2 = w') ?_ ?_
    ·
      apply go
      apply go
      refine ev0 (rn_lenS rfl rfl Tryz.underlying9) ?_
      apply go
      refine sel_of (fun hc => ?_) (fun hc => ?_)
      ·
        have q_h := cond_t q_h hc
        apply go
        obtain ⟨x_i, q_j, q_h⟩ := bind_some q_h
        refine ev0 (rn_sliceStr (kl := .i64) (kh := .i64) rfl rfl rfl rfl Tryz.underlying9 q_j) ?_
        obtain rfl := Option.some.inj q_h
        exact ⟨x_i, (.c rfl (.c rfl (.c rfl (.c rfl .n)))), rfl, rfl⟩
      ·
        have q_h := cond_f q_h hc
        apply go
        obtain rfl := Option.some.inj q_h
        exact ⟨(ByteArray.mk #[49]), (.c rfl (.c rfl (.c rfl (.c rfl .n)))), rfl, rfl⟩
    ·
      rintro x_k _ ⟨hy, rfl⟩
      replace hy := hy.symm
      subst hy
      apply go
      obtain ⟨y_l, q_m, h⟩ := bind_some h
      refine W.cut (γ := Bool) (fun g => [(0, (.string x_0)), (2, (.pointer (some ⟨g_1, 0, none⟩))), (4, (.int .i64 x_f)), (5, (.string x_k)), (42, (.bool (g)))]) (fun g w' => y_l = (g) ∧ w_2 = w') ?_ ?_
      ·
        apply go
        refine ev0 (rn_lenS rfl rfl Tryz.underlying9) ?_
        refine sel_of (fun hc => ?_) (fun hc => ?_)
        ·
          have q_m := cond_t q_m hc
          obtain rfl := Option.some.inj q_m
          exact ⟨true, (.c rfl (.c rfl (.c rfl (.c rfl (.c rfl .n))))), rfl, rfl⟩
        ·
          have q_m := cond_f q_m hc
          refine sel_of (fun hc => ?_) (fun hc => ?_)
          ·
            have q_m := cond_t q_m hc
            obtain rfl := Option.some.inj q_m
            exact ⟨true, (.c rfl (.c rfl (.c rfl (.c rfl (.c rfl .n))))), rfl, rfl⟩
          ·
            have q_m := cond_f q_m hc
            refine ev0 (rn_lenS rfl rfl Tryz.underlying9) ?_
            obtain rfl := Option.some.inj q_m
            exact ⟨(decide ((x_k.size : Int) > 2000)), (.c rfl (.c rfl (.c rfl (.c rfl (.c rfl .n))))), rfl, rfl⟩
      ·
        rintro x_n _ ⟨hy, rfl⟩
        replace hy := hy.symm
        subst hy
        apply go
        refine sel_of (fun hc => ?_) (fun hc => ?_)
        ·
          have h := cond_t h hc
          apply go
          apply go
          refine ev0 (fun w => rn_build (cs := [(.bool false), (.slice none 0 0), (.bool false), (.slice none 0 0)]) rfl rfl T26 PL26 rfl) ?_
          refine ev_storeA hp (i := 0) (off := 0) (vs := [(.bool false), (.slice none 0 0), (.bool false), (.slice none 0 0)]) rfl rfl rfl rfl T26 rfl (Nat.le_of_ble_eq_true rfl) (ones_of rfl) ?_
          intro w_o hp hs
          apply go
          obtain rfl := Option.some.inj h
          refine ⟨_, run_loadVarA T26 rfl (hp.at_ (i := 0) rfl), ?_⟩
          have hp := hp.sel [] (by decide)
          exact ⟨I0, .slice none 0 0, .slice none 0 0, rfl, hp, RepS.nil _ _ _, RepS.nil _ _ _⟩
        ·
          have h := cond_f h hc
          apply go
          apply go
          apply go
          obtain ⟨x_p, q_q, h⟩ := bind_some h
          refine ev0 (rn_sliceStr (kl := .i64) (kh := .i64) rfl rfl rfl rfl Tryz.underlying9 q_q) ?_
          obtain ⟨⟨x_r, x_s⟩, q_t, h⟩ := bind_some h
          refine ev_call rfl rfl C68 (((ref01_Parse_ok n) _ _  x_p hp.imm _ q_t).mono ?_)
          rintro _ w_u ⟨I_v, v_w, hv, hq, r_x⟩
          replace hv := hv.symm
          subst hv
          have hs := hq.st
          have hp := hp.join0 hq
          refine ev_alloc hp rfl T24 ?_
          intro g_y w_z hp hs
          replace r_x := r_x.step hs
          refine ev_storeA hp (i := 0) (off := 0) (vs := [(.bool x_r.Neg), v_w]) rfl rfl rfl rfl T24 rfl (Nat.le_of_ble_eq_true rfl) (ones_cons rfl (ones_cons r_x.one ones_nil)) ?_
          intro w_10 hp hs
          replace r_x := r_x.step hs
          apply go
          apply go
          obtain ⟨⟨x_11, x_12⟩, q_13, h⟩ := bind_some h
          refine ev_call rfl rfl C68 (((ref01_Parse_ok n) _ _  x_k hp.imm _ q_13).mono ?_)
          rintro _ w_14 ⟨I_15, v_16, hv, hq, r_17⟩
          replace hv := hv.symm
          subst hv
          have hs := hq.st
          have hp := hp.join0 hq
          replace r_x := r_x.step hs
          refine ev_alloc hp rfl T24 ?_
          intro g_18 w_19 hp hs
          replace r_17 := r_17.step hs
          replace r_x := r_x.step hs
          refine ev_storeA hp (i := 0) (off := 0) (vs := [(.bool x_11.Neg), v_16]) rfl rfl rfl rfl T24 rfl (Nat.le_of_ble_eq_true rfl) (ones_cons rfl (ones_cons r_17.one ones_nil)) ?_
          intro w_1a hp hs
          replace r_17 := r_17.step hs
          replace r_x := r_x.step hs
          apply go
          apply go
          refine ev (rn_load rfl rfl (run_loadVarA T24 rfl (hp.at_ (i := 1) rfl))) ?_
          refine ev (rn_load rfl rfl (run_loadVarA T24 rfl (hp.at_ (i := 0) rfl))) ?_
          obtain ⟨x_1b, q_1c, h⟩ := bind_some h
          refine ev_call rfl rfl C41 (((ref02_New_ok n) _ _  (Int_2.mk x_r.Neg x_r.Mag) v_w r_x (Int_2.mk x_11.Neg x_11.Mag) v_16 r_17 hp.imm _ q_1c).mono ?_)
          rintro _ w_1d ⟨I_1e, v_1f, v_1g, hv, hq, r_1h, r_1i⟩
          replace hv := hv.symm
          subst hv
          have hs := hq.st
          have hp := hp.join0 hq
          replace r_17 := r_17.step hs
          replace r_x := r_x.step hs
          refine ev_alloc hp rfl T26 ?_
          intro g_1j w_1k hp hs
          replace r_1h := r_1h.step hs
          replace r_1i := r_1i.step hs
          replace r_17 := r_17.step hs
          replace r_x := r_x.step hs
          refine ev_storeA hp (i := 0) (off := 0) (vs := [(.bool x_1b.Num.Neg), v_1f, (.bool x_1b.Den.Neg), v_1g]) rfl rfl rfl rfl T26 rfl (Nat.le_of_ble_eq_true rfl) (ones_cons rfl (ones_cons r_1h.one (ones_cons rfl (ones_cons r_1i.one ones_nil)))) ?_
          intro w_1l hp hs
          replace r_1h := r_1h.step hs
          replace r_1i := r_1i.step hs
          replace r_17 := r_17.step hs
          replace r_x := r_x.step hs
          apply go
          obtain ⟨y_1m, q_1n, h⟩ := bind_some h
          refine W.cut (γ := Bool) (fun g => [(2, (.pointer (some ⟨g_1, 0, none⟩))), (10, (.pointer (some ⟨g_1j, 0, none⟩))), (70, (.bool (g)))]) (fun g w' => y_1m = (g) ∧ Hp ⟨w0, I0, []⟩ I_1e [some (g_1, [(.bool false), (.slice none 0 0), (.bool false), (.slice none 0 0)], 26), some (g_1j, [(.bool x_1b.Num.Neg), v_1f, (.bool x_1b.Den.Neg), v_1g], 26)] w' ∧ RepS (dI .u32) w' I_1e v_1f x_1b.Num.Mag ∧ RepS (dI .u32) w' I_1e v_1g x_1b.Den.Mag) ?_ ?_
          ·
            apply go
            refine sel_of (fun hc => ?_) (fun hc => ?_)
            ·
              have q_1n := cond_t q_1n hc
              obtain rfl := Option.some.inj q_1n
              have hp := hp.perm [3, 0] (by decide)
              exact ⟨true, (.c rfl (.c rfl (.c rfl .n))), rfl, hp, r_1h, r_1i⟩
            ·
              have q_1n := cond_f q_1n hc
              refine sel_of (fun hc => ?_) (fun hc => ?_)
              ·
                have q_1n := cond_t q_1n hc
                obtain rfl := Option.some.inj q_1n
                have hp := hp.perm [3, 0] (by decide)
                exact ⟨true, (.c rfl (.c rfl (.c rfl .n))), rfl, hp, r_1h, r_1i⟩
              ·
                have q_1n := cond_f q_1n hc
                refine ev (rn_load rfl rfl (run_loadVarA T26 rfl (hp.at_ (i := 0) rfl))) ?_
                obtain ⟨x_1o, q_1p, q_1n⟩ := bind_some q_1n
                refine ev_call rfl rfl C34 (((ref02_Text_ok n) _ _  (Rational.mk (Int_2.mk x_1b.Num.Neg x_1b.Num.Mag) (Int_2.mk x_1b.Den.Neg x_1b.Den.Mag)) v_1f r_1h v_1g r_1i hp.imm _ q_1p).mono ?_)
                rintro _ w_1q ⟨rfl, hc⟩
                have hs := hp.stp hc
                replace hp := hp.ext hc
                replace r_1h := r_1h.step hs
                replace r_1i := r_1i.step hs
                replace r_17 := r_17.step hs
                replace r_x := r_x.step hs
                obtain rfl := Option.some.inj q_1n
                have hp := hp.perm [3, 0] (by decide)
                exact ⟨(!(x_1o.toList == x_0.toList)), (.c rfl (.c rfl (.c rfl .n))), rfl, hp, r_1h, r_1i⟩
          ·
            rintro x_1r w_1s ⟨hy, hp, r_1h, r_1i⟩
            replace hy := hy.symm
            subst hy
            apply go
            refine sel_of (fun hc => ?_) (fun hc => ?_)
            ·
              have h := cond_t h hc
              apply go
              apply go
              refine ev0 (fun w => rn_build (cs := [(.bool false), (.slice none 0 0), (.bool false), (.slice none 0 0)]) rfl rfl T26 PL26 rfl) ?_
              refine ev_storeA hp (i := 0) (off := 0) (vs := [(.bool false), (.slice none 0 0), (.bool false), (.slice none 0 0)]) rfl rfl rfl rfl T26 rfl (Nat.le_of_ble_eq_true rfl) (ones_of rfl) ?_
              intro w_1t hp hs
              replace r_1h := r_1h.step hs
              replace r_1i := r_1i.step hs
              apply go
              obtain rfl := Option.some.inj h
              refine ⟨_, run_loadVarA T26 rfl (hp.at_ (i := 0) rfl), ?_⟩
              have hp := hp.sel [] (by decide)
              exact ⟨I_1e, .slice none 0 0, .slice none 0 0, rfl, hp, RepS.nil _ _ _, RepS.nil _ _ _⟩
            ·
              have h := cond_f h hc
              apply go
              apply go
              apply go
              refine ev (rn_load rfl rfl (run_loadVarA T26 rfl (hp.at_ (i := 1) rfl))) ?_
              refine ev_storeA hp (i := 0) (off := 0) (vs := [(.bool x_1b.Num.Neg), v_1f, (.bool x_1b.Den.Neg), v_1g]) rfl rfl rfl rfl T26 rfl (Nat.le_of_ble_eq_true rfl) (ones_cons rfl (ones_cons r_1h.one (ones_cons rfl (ones_cons r_1i.one ones_nil)))) ?_
              intro w_1u hp hs
              replace r_1h := r_1h.step hs
              replace r_1i := r_1i.step hs
              apply go
              obtain rfl := Option.some.inj h
              refine ⟨_, run_loadVarA T26 rfl (hp.at_ (i := 0) rfl), ?_⟩
              have hp := hp.sel [] (by decide)
              exact ⟨I_1e, v_1f, v_1g, rfl, hp, r_1h, r_1i⟩

end Go.Proofs.YtepadjfmcbjkmaaGreatDoor

namespace Go.Proofs.YtepadjfmcbjkmaaGreatDoor
open Go Go.Proofs.YtepadjfmcbjkmaaGreatDoor.Gw Go.RowKit
set_option linter.unusedVariables false
attribute [local irreducible] Ev EvQ EvS EvH
def law02_RationalParses_S (f : ByteArray → Int → Option Bool) : Prop := ∀ (w0 : World) (I0 : Nat → Prop) (tb : Tb w0 I0 4 .u64 pow10) (x_0 : ByteArray) (x_1 : Int) (hI : ∀ g, I0 g → g < w0.heap.size) (r : Bool), f x_0 x_1 = some r →
    Ret Tryz.prog 6 #[(.string x_0), (.int .u16 x_1)] w0 fun v w1 => v = (.bool r) ∧ Ch [] w0 w1
theorem law02_RationalParses_ok (n : Nat) : law02_RationalParses_S (law02_RationalParses n) := by
  intro w0 I0 tb x_0 x_1 hI r h
  unfold law02_RationalParses at h
  refine enter Tryz.func6 rfl (Nat.le_of_ble_eq_true rfl) ?_
  have hp : Hp ⟨w0, I0, []⟩ I0 [] w0 := Hp.start hI
  apply go
  apply go
  apply go
  obtain ⟨y_2, q_3, h⟩ := bind_some h
  refine W.cut (γ := Bool) (fun g => [(0, (.string x_0)), (1, (.int .u16 x_1)), (22, (.bool (g)))]) (fun g w' => y_2 = (g) ∧ Hp ⟨w0, I0, []⟩ I0 [] w' ∧ Tb w' I0 4 .u64 pow10) ?_ ?_
  ·
    apply go
    obtain ⟨x_4, q_5, q_3⟩ := bind_some q_3
    refine ev_call rfl rfl C8 (((law02_awake_ok n) _ _ tb  hp.imm _ q_5).mono ?_)
    rintro _ w_6 ⟨rfl, hc⟩
    have hs := hp.stp hc
    replace hp := hp.ext hc
    replace tb := tb.step hs
    refine sel_of (fun hc => ?_) (fun hc => ?_)
    ·
      have q_3 := cond_t q_3 hc
      obtain rfl := Option.some.inj q_3
      exact ⟨true, (.c rfl (.c rfl (.c rfl .n))), rfl, hp, tb⟩
    ·
      have q_3 := cond_f q_3 hc
      refine ev0 (rn_lenS rfl rfl Tryz.underlying9) ?_
      obtain rfl := Option.some.inj q_3
      exact ⟨(decide ((x_0.size : Int) > 200)), (.c rfl (.c rfl (.c rfl .n))), rfl, hp, tb⟩
  ·
    rintro x_7 w_8 ⟨hy, hp, tb⟩
    replace hy := hy.symm
    subst hy
    apply go
    refine sel_of (fun hc => ?_) (fun hc => ?_)
    ·
      have h := cond_t h hc
      apply go
      apply go
      obtain ⟨x_9, q_a, h⟩ := bind_some h
      refine ev_call rfl rfl C8 (((law02_awake_ok n) _ _ tb  hp.imm _ q_a).mono ?_)
      rintro _ w_b ⟨rfl, hc⟩
      have hs := hp.stp hc
      replace hp := hp.ext hc
      replace tb := tb.step hs
      apply go
      obtain rfl := Option.some.inj h
      exact ⟨rfl, hp.ch⟩
    ·
      have h := cond_f h hc
      apply go
      apply go
      apply go
      obtain ⟨⟨x_c, x_d⟩, q_e, h⟩ := bind_some h
      refine ev_call rfl rfl C31 (((rational_Parse_ok n) _ _ tb x_0 hp.imm _ q_e).mono ?_)
      rintro _ w_f ⟨I_g, v_h, v_i, hv, hq, r_j, r_k⟩
      replace hv := hv.symm
      subst hv
      have hs := hq.st
      have hp := hp.join0 hq
      replace tb := tb.step hs
      refine ev_alloc hp rfl T26 ?_
      intro g_l w_m hp hs
      replace r_j := r_j.step hs
      replace r_k := r_k.step hs
      replace tb := tb.step hs
      refine ev_storeA hp (i := 0) (off := 0) (vs := [(.bool x_c.Num.Neg), v_h, (.bool x_c.Den.Neg), v_i]) rfl rfl rfl rfl T26 rfl (Nat.le_of_ble_eq_true rfl) (ones_cons rfl (ones_cons r_j.one (ones_cons rfl (ones_cons r_k.one ones_nil)))) ?_
      intro w_n hp hs
      replace r_j := r_j.step hs
      replace r_k := r_k.step hs
      replace tb := tb.step hs
      apply go
      apply go
      obtain ⟨⟨x_o, x_p⟩, q_q, h⟩ := bind_some h
      refine ev_call rfl rfl C32 (((ref02_Parse_ok n) _ _  x_0 hp.imm _ q_q).mono ?_)
      rintro _ w_r ⟨I_s, v_t, v_u, hv, hq, r_v, r_w⟩
      replace hv := hv.symm
      subst hv
      have hs := hq.st
      have hp := hp.join0 hq
      replace r_j := r_j.step hs
      replace r_k := r_k.step hs
      replace tb := tb.step hs
      refine ev_alloc hp rfl T26 ?_
      intro g_x w_y hp hs
      replace r_v := r_v.step hs
      replace r_w := r_w.step hs
      replace r_j := r_j.step hs
      replace r_k := r_k.step hs
      replace tb := tb.step hs
      refine ev_storeA hp (i := 0) (off := 0) (vs := [(.bool x_o.Num.Neg), v_t, (.bool x_o.Den.Neg), v_u]) rfl rfl rfl rfl T26 rfl (Nat.le_of_ble_eq_true rfl) (ones_cons rfl (ones_cons r_v.one (ones_cons rfl (ones_cons r_w.one ones_nil)))) ?_
      intro w_z hp hs
      replace r_v := r_v.step hs
      replace r_w := r_w.step hs
      replace r_j := r_j.step hs
      replace r_k := r_k.step hs
      replace tb := tb.step hs
      apply go
      apply go
      refine ev0 (rn_conv rfl rfl U50 Tryz.underlying3) ?_
      refine ⟨by decide, ?_⟩
      obtain ⟨x_10, q_11, h⟩ := bind_some h
      refine ev_make (d := (dI .u8)) (x0 := 0) hp rfl rfl rfl Tryz.underlying52 T5 (fun _ _ => rfl) (Nat.le_of_ble_eq_true rfl) q_11 ?_
      intro v_12 e_13 w_14 hp hs o_15
      replace r_v := r_v.step hs
      replace r_w := r_w.step hs
      replace r_j := r_j.step hs
      replace r_k := r_k.step hs
      replace tb := tb.step hs
      obtain ⟨y_16, q_17, h⟩ := bind_some h
      refine W.cut (γ := ((List Int) × Ent)) (fun g => [(5, (.pointer (some ⟨g_l, 0, none⟩))), (6, (.int .i64 x_d)), (7, (.pointer (some ⟨g_x, 0, none⟩))), (8, (.int .i64 x_p)), (9, v_12)]) (fun g w' => y_16 = (g.1) ∧ Hp ⟨w0, I0, []⟩ I_s [some (g_l, [(.bool x_c.Num.Neg), v_h, (.bool x_c.Den.Neg), v_i], 26), some (g_x, [(.bool x_o.Num.Neg), v_t, (.bool x_o.Den.Neg), v_u], 26), (g.2)] w' ∧ RepS (dI .u32) w' I_s v_h x_c.Num.Mag ∧ RepS (dI .u32) w' I_s v_i x_c.Den.Mag ∧ RepS (dI .u32) w' I_s v_t x_o.Num.Mag ∧ RepS (dI .u32) w' I_s v_u x_o.Den.Mag ∧ OwnS (dI .u8) 5 w' I_s v_12 (g.2) (g.1) ∧ Tb w' I_s 4 .u64 pow10) ?_ ?_
      ·
        apply go
        apply go
        apply go
        have hp := hp.perm [2, 1, 0] (by decide)
        refine W.loop q_17 (γ := Ent) (fun s g => [(5, (.pointer (some ⟨g_l, 0, none⟩))), (6, (.int .i64 x_d)), (7, (.pointer (some ⟨g_x, 0, none⟩))), (8, (.int .i64 x_p)), (9, v_12), (10, (.int .i64 (s.2)))]) (fun s g w' => Hp ⟨w0, I0, []⟩ I_s [some (g_l, [(.bool x_c.Num.Neg), v_h, (.bool x_c.Den.Neg), v_i], 26), some (g_x, [(.bool x_o.Num.Neg), v_t, (.bool x_o.Den.Neg), v_u], 26), (g)] w' ∧ RepS (dI .u32) w' I_s v_h x_c.Num.Mag ∧ RepS (dI .u32) w' I_s v_i x_c.Den.Mag ∧ RepS (dI .u32) w' I_s v_t x_o.Num.Mag ∧ RepS (dI .u32) w' I_s v_u x_o.Den.Mag ∧ OwnS (dI .u8) 5 w' I_s v_12 (g) (s.1) ∧ Tb w' I_s 4 .u64 pow10) e_13 (.c rfl (.c rfl (.c rfl (.c rfl (.c rfl (.c rfl .n)))))) ⟨hp, r_j, r_k, r_v, r_w, o_15, tb⟩ ?_
        rintro ⟨x_18, x_19⟩ e_1a w_1b y_1c ⟨hp, r_j, r_k, r_v, r_w, o_1d, tb⟩ q_1e q_1f
        unfold law02_RationalParses_L1 at q_1e
        apply go
        apply go
        apply go
        refine ev0 (x_lenO rfl rfl Tryz.underlying52 o_1d) ?_
        apply go
        refine sel_of (fun hc => ?_) (fun hc => ?_)
        ·
          have q_1e := cond_t q_1e hc
          apply go
          apply go
          apply go
          apply go
          obtain ⟨x_1g, q_1h, q_1e⟩ := bind_some q_1e
          refine ev_indexO rfl rfl rfl Tryz.underlying52 T5 o_1d q_1h ?_
          intro g_1i c_1j h_1k d_1l l_1m
          refine ev_storeE hp (i := 2) rfl h_1k rfl rfl rfl T5 o_1d q_1h (x0 := 55) rfl ?_
          intro e_1n w_1o hp hs o_1p
          replace r_j := r_j.step hs
          replace r_k := r_k.step hs
          replace r_v := r_v.step hs
          replace r_w := r_w.step hs
          replace tb := tb.step hs
          apply go
          exact ⟨_, (Option.some.inj q_1e).symm, e_1n, (.c rfl (.c rfl (.c rfl (.c rfl (.c rfl (.c rfl .n)))))), ⟨hp, r_j, r_k, r_v, r_w, o_1p, tb⟩⟩
        ·
          have q_1e := cond_f q_1e hc
          apply go
          have q_1q := congrArg some (q_1f _ (Option.some.inj q_1e).symm)
          obtain rfl := Option.some.inj q_1q
          exact ⟨(x_18, e_1a), (.c rfl (.c rfl (.c rfl (.c rfl (.c rfl .n))))), rfl, hp, r_j, r_k, r_v, r_w, o_1d, tb⟩
      ·
        rintro ⟨x_1r, e_1s⟩ w_1t ⟨hy, hp, r_j, r_k, r_v, r_w, o_1u, tb⟩
        replace hy := hy.symm
        subst hy
        apply go
        apply go
        have r_1v := o_1u.frz hp (i := 2) rfl
        obtain ⟨hp, hs⟩ := freeze_hp hp (i := 2) rfl
        replace r_j := r_j.step hs
        replace r_k := r_k.step hs
        replace r_v := r_v.step hs
        replace r_w := r_w.step hs
        replace tb := tb.step hs
        have hp := hp.sel [0, 1] (by decide)
        refine ev (rn_bstr rfl rfl Tryz.underlying52 Tryz.underlying5 Tryz.underlying9 r_1v) ?_
        obtain ⟨q_1w, _, h⟩ := need_some h
        refine ⟨q_1w, ?_⟩
        obtain ⟨⟨x_1x, x_1y⟩, q_1z, h⟩ := bind_some h
        refine ev_call rfl rfl C31 (((rational_Parse_ok n) _ _ tb ((ByteArray.mk #[47]) ++ (strOfNums x_1r)) hp.imm _ q_1z).mono ?_)
        rintro _ w_20 ⟨I_21, v_22, v_23, hv, hq, r_24, r_25⟩
        replace hv := hv.symm
        subst hv
        have hs := hq.st
        have hp := hp.join0 hq
        replace r_1v := r_1v.step hs
        replace r_j := r_j.step hs
        replace r_k := r_k.step hs
        replace r_v := r_v.step hs
        replace r_w := r_w.step hs
        replace tb := tb.step hs
        refine ev_alloc hp rfl T26 ?_
        intro g_26 w_27 hp hs
        replace r_1v := r_1v.step hs
        replace r_24 := r_24.step hs
        replace r_25 := r_25.step hs
        replace r_j := r_j.step hs
        replace r_k := r_k.step hs
        replace r_v := r_v.step hs
        replace r_w := r_w.step hs
        replace tb := tb.step hs
        refine ev_storeA hp (i := 0) (off := 0) (vs := [(.bool x_1x.Num.Neg), v_22, (.bool x_1x.Den.Neg), v_23]) rfl rfl rfl rfl T26 rfl (Nat.le_of_ble_eq_true rfl) (ones_cons rfl (ones_cons r_24.one (ones_cons rfl (ones_cons r_25.one ones_nil)))) ?_
        intro w_28 hp hs
        replace r_1v := r_1v.step hs
        replace r_24 := r_24.step hs
        replace r_25 := r_25.step hs
        replace r_j := r_j.step hs
        replace r_k := r_k.step hs
        replace r_v := r_v.step hs
        replace r_w := r_w.step hs
        replace tb := tb.step hs
        apply go
        apply go
        refine ev (rn_bstr rfl rfl Tryz.underlying52 Tryz.underlying5 Tryz.underlying9 r_1v) ?_
        obtain ⟨q_29, _, h⟩ := need_some h
        refine ⟨q_29, ?_⟩
        obtain ⟨⟨x_2a, x_2b⟩, q_2c, h⟩ := bind_some h
        refine ev_call rfl rfl C31 (((rational_Parse_ok n) _ _ tb ((strOfNums x_1r) ++ (ByteArray.mk #[47, 48])) hp.imm _ q_2c).mono ?_)
        rintro _ w_2d ⟨I_2e, v_2f, v_2g, hv, hq, r_2h, r_2i⟩
        replace hv := hv.symm
        subst hv
        have hs := hq.st
        have hp := hp.join0 hq
        replace r_1v := r_1v.step hs
        replace r_24 := r_24.step hs
        replace r_25 := r_25.step hs
        replace r_j := r_j.step hs
        replace r_k := r_k.step hs
        replace r_v := r_v.step hs
        replace r_w := r_w.step hs
        replace tb := tb.step hs
        refine ev_alloc hp rfl T26 ?_
        intro g_2j w_2k hp hs
        replace r_1v := r_1v.step hs
        replace r_2h := r_2h.step hs
        replace r_2i := r_2i.step hs
        replace r_24 := r_24.step hs
        replace r_25 := r_25.step hs
        replace r_j := r_j.step hs
        replace r_k := r_k.step hs
        replace r_v := r_v.step hs
        replace r_w := r_w.step hs
        replace tb := tb.step hs
        refine ev_storeA hp (i := 0) (off := 0) (vs := [(.bool x_2a.Num.Neg), v_2f, (.bool x_2a.Den.Neg), v_2g]) rfl rfl rfl rfl T26 rfl (Nat.le_of_ble_eq_true rfl) (ones_cons rfl (ones_cons r_2h.one (ones_cons rfl (ones_cons r_2i.one ones_nil)))) ?_
        intro w_2l hp hs
        replace r_1v := r_1v.step hs
        replace r_2h := r_2h.step hs
        replace r_2i := r_2i.step hs
        replace r_24 := r_24.step hs
        replace r_25 := r_25.step hs
        replace r_j := r_j.step hs
        replace r_k := r_k.step hs
        replace r_v := r_v.step hs
        replace r_w := r_w.step hs
        replace tb := tb.step hs
        apply go
        apply go
        obtain ⟨y_2m, q_2n, h⟩ := bind_some h
        refine W.cut (γ := Int) (fun g => [(5, (.pointer (some ⟨g_l, 0, none⟩))), (6, (.int .i64 x_d)), (7, (.pointer (some ⟨g_x, 0, none⟩))), (8, (.int .i64 x_p)), (12, (.int .i64 x_1y)), (14, (.int .i64 x_2b)), (15, (.int .i64 (g)))]) (fun g w' => y_2m = (g) ∧ w_2l = w') ?_ ?_
        ·
          apply go
          apply go
          refine ev0 (rn_len rfl rfl Tryz.underlying52 r_1v) ?_
          apply go
          refine sel_of (fun hc => ?_) (fun hc => ?_)
          ·
            have q_2n := cond_t q_2n hc
            apply go
            obtain rfl := Option.some.inj q_2n
            exact ⟨6, (.c rfl (.c rfl (.c rfl (.c rfl (.c rfl (.c rfl (.c rfl .n))))))), rfl, rfl⟩
          ·
            have q_2n := cond_f q_2n hc
            apply go
            obtain rfl := Option.some.inj q_2n
            exact ⟨3, (.c rfl (.c rfl (.c rfl (.c rfl (.c rfl (.c rfl (.c rfl .n))))))), rfl, rfl⟩
        ·
          rintro x_2o _ ⟨hy, rfl⟩
          replace hy := hy.symm
          subst hy
          obtain ⟨y_2p, q_2q, h⟩ := bind_some h
          refine W.cut (γ := Bool) (fun g => [(4, (.bool (g)))]) (fun g w' => y_2p = (g) ∧ Hp ⟨w0, I0, []⟩ I_2e [] w' ∧ Tb w' I_2e 4 .u64 pow10) ?_ ?_
          ·
            apply go
            refine sel_of (fun hc => ?_) (fun hc => ?_)
            ·
              have q_2q := cond_t q_2q hc
              refine ev (rn_load rfl rfl (run_loadVarA T26 rfl (hp.at_ (i := 2) rfl))) ?_
              refine ev (rn_load rfl rfl (run_loadVarA T26 rfl (hp.at_ (i := 3) rfl))) ?_
              obtain ⟨x_2r, q_2s, q_2q⟩ := bind_some q_2q
              refine ev_call rfl rfl C14 (((base_Rational_ok n) _ _  (Rational.mk (Int_2.mk x_c.Num.Neg x_c.Num.Mag) (Int_2.mk x_c.Den.Neg x_c.Den.Mag)) v_h r_j v_i r_k (Rational.mk (Int_2.mk x_o.Num.Neg x_o.Num.Mag) (Int_2.mk x_o.Den.Neg x_o.Den.Mag)) v_t r_v v_u r_w hp.imm _ q_2s).mono ?_)
              rintro _ w_2t ⟨rfl, hc⟩
              have hs := hp.stp hc
              replace hp := hp.ext hc
              replace r_2h := r_2h.step hs
              replace r_2i := r_2i.step hs
              replace r_24 := r_24.step hs
              replace r_25 := r_25.step hs
              replace r_j := r_j.step hs
              replace r_k := r_k.step hs
              replace r_v := r_v.step hs
              replace r_w := r_w.step hs
              replace tb := tb.step hs
              refine sel_of (fun hc => ?_) (fun hc => ?_)
              ·
                have q_2q := cond_t q_2q hc
                refine sel_of (fun hc => ?_) (fun hc => ?_)
                ·
                  have q_2q := cond_t q_2q hc
                  obtain rfl := Option.some.inj q_2q
                  have hp := hp.sel [] (by decide)
                  exact ⟨(x_2b == x_2o), (.c rfl .n), rfl, hp, tb⟩
                ·
                  have q_2q := cond_f q_2q hc
                  obtain rfl := Option.some.inj q_2q
                  have hp := hp.sel [] (by decide)
                  exact ⟨false, (.c rfl .n), rfl, hp, tb⟩
              ·
                have q_2q := cond_f q_2q hc
                obtain rfl := Option.some.inj q_2q
                have hp := hp.sel [] (by decide)
                exact ⟨false, (.c rfl .n), rfl, hp, tb⟩
            ·
              have q_2q := cond_f q_2q hc
              obtain rfl := Option.some.inj q_2q
              have hp := hp.sel [] (by decide)
              exact ⟨false, (.c rfl .n), rfl, hp, tb⟩
          ·
            rintro x_2u w_2v ⟨hy, hp, tb⟩
            replace hy := hy.symm
            subst hy
            apply go
            obtain rfl := Option.some.inj h
            exact ⟨rfl, hp.ch⟩

end Go.Proofs.YtepadjfmcbjkmaaGreatDoor
