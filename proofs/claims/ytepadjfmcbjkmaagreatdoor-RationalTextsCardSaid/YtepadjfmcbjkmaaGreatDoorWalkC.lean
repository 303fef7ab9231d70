/-
  Each function of the program computes the plain function of its name.
-/
import Derived.Test.YtepadjfmcbjkmaaGreatDoorFactsA
import Derived.Test.YtepadjfmcbjkmaaGreatDoorWalkB
import Derived.Test.YtepadjfmcbjkmaaGreatDoorCoreA
namespace Go.Proofs.YtepadjfmcbjkmaaGreatDoor
open Go Go.Proofs.YtepadjfmcbjkmaaGreatDoor.Gw Go.RowKit
set_option linter.unusedVariables false
attribute [local irreducible] Ev EvQ EvS EvH
def ref02_New_S (f : Int_2 → Int_2 → Option Rational) : Prop := ∀ (w0 : World) (I0 : Nat → Prop) (x_0 : Int_2) (v_1 : Value) (r_2 : RepS (dI .u32) w0 I0 v_1 x_0.Mag) (x_3 : Int_2) (v_4 : Value) (r_5 : RepS (dI .u32) w0 I0 v_4 x_3.Mag) (hI : ∀ g, I0 g → g < w0.heap.size) (r : Rational), f x_0 x_3 = some r →
    Ret Tryz.prog 41 #[(.agg #[(.bool x_0.Neg), v_1]), (.agg #[(.bool x_3.Neg), v_4])] w0 fun v w1 => ∃ (I1 : Nat → Prop) (u_6 : Value) (u_7 : Value), v = (.agg #[(.bool r.Num.Neg), u_6, (.bool r.Den.Neg), u_7]) ∧ Hp ⟨w0, I0, []⟩ I1 [] w1 ∧ RepS (dI .u32) w1 I1 u_6 r.Num.Mag ∧ RepS (dI .u32) w1 I1 u_7 r.Den.Mag
theorem ref02_New_ok (n : Nat) : ref02_New_S (ref02_New n) := by
  intro w0 I0 x_0 v_1 r_2 x_3 v_4 r_5 hI r h
  unfold ref02_New at h
  refine enter Tryz.func41 rfl (Nat.le_of_ble_eq_true rfl) ?_
  have hp : Hp ⟨w0, I0, []⟩ I0 [] w0 := Hp.start hI
  apply go
  apply go
  refine ev_box hp rfl rfl ?_
  intro g_6 w_7 hp hs
  replace r_5 := r_5.step hs
  replace r_2 := r_2.step hs
  refine ev_box hp rfl rfl ?_
  intro g_8 w_9 hp hs
  replace r_5 := r_5.step hs
  replace r_2 := r_2.step hs
  refine ev_alloc hp rfl T26 ?_
  intro g_a w_b hp hs
  replace r_5 := r_5.step hs
  replace r_2 := r_2.step hs
  apply go
  obtain ⟨y_c, q_d, h⟩ := bind_some h
  refine W.cut (γ := Bool) (fun g => [(2, (.pointer (some ⟨g_6, 0, none⟩))), (3, (.pointer (some ⟨g_8, 0, none⟩))), (4, (.pointer (some ⟨g_a, 0, none⟩))), (13, (.bool (g)))]) (fun g w' => y_c = (g) ∧ Hp ⟨w0, I0, []⟩ I0 [some (g_6, [(.bool x_0.Neg), v_1], 24), some (g_8, [(.bool x_3.Neg), v_4], 24), some (g_a, [(.bool false), (.slice none 0 0), (.bool false), (.slice none 0 0)], 26)] w' ∧ RepS (dI .u32) w' I0 v_1 x_0.Mag ∧ RepS (dI .u32) w' I0 v_4 x_3.Mag) ?_ ?_
  ·
    apply go
    refine ev (rn_load rfl rfl (run_loadVarA T24 rfl (hp.at_ (i := 2) rfl))) ?_
    obtain ⟨x_e, q_f, q_d⟩ := bind_some q_d
    refine ev_call rfl rfl C73 (((ref01_Sign_ok n) _ _  (Int_2.mk x_0.Neg x_0.Mag) v_1 r_2 hp.imm _ q_f).mono ?_)
    rintro _ w_g ⟨rfl, hc⟩
    have hs := hp.stp hc
    replace hp := hp.ext hc
    replace r_5 := r_5.step hs
    replace r_2 := r_2.step hs
    refine sel_of (fun hc => ?_) (fun hc => ?_)
    ·
      have q_d := cond_t q_d hc
      obtain rfl := Option.some.inj q_d
      have hp := hp.perm [2, 1, 0] (by decide)
      exact ⟨true, (.c rfl (.c rfl (.c rfl (.c rfl .n)))), rfl, hp, r_2, r_5⟩
    ·
      have q_d := cond_f q_d hc
      refine ev (rn_load rfl rfl (run_loadVarA T24 rfl (hp.at_ (i := 1) rfl))) ?_
      obtain ⟨x_h, q_i, q_d⟩ := bind_some q_d
      refine ev_call rfl rfl C73 (((ref01_Sign_ok n) _ _  (Int_2.mk x_3.Neg x_3.Mag) v_4 r_5 hp.imm _ q_i).mono ?_)
      rintro _ w_j ⟨rfl, hc⟩
      have hs := hp.stp hc
      replace hp := hp.ext hc
      replace r_5 := r_5.step hs
      replace r_2 := r_2.step hs
      obtain rfl := Option.some.inj q_d
      have hp := hp.perm [2, 1, 0] (by decide)
      exact ⟨(x_h == 0), (.c rfl (.c rfl (.c rfl (.c rfl .n)))), rfl, hp, r_2, r_5⟩
  ·
    rintro x_k w_l ⟨hy, hp, r_2, r_5⟩
    replace hy := hy.symm
    subst hy
    apply go
    refine sel_of (fun hc => ?_) (fun hc => ?_)
    ·
      have h := cond_t h hc
      apply go
      apply go
      obtain ⟨x_m, q_n, h⟩ := bind_some h
      refine ev_call rfl rfl C74 (((ref01_Of_ok n) _ _  0 hp.imm _ q_n).mono ?_)
      rintro _ w_o ⟨I_p, v_q, hv, hq, r_r⟩
      replace hv := hv.symm
      subst hv
      have hs := hq.st
      have hp := hp.join0 hq
      replace r_2 := r_2.step hs
      replace r_5 := r_5.step hs
      obtain ⟨x_s, q_t, h⟩ := bind_some h
      refine ev_call rfl rfl C45 (((ref02_One_ok n) _ _   hp.imm _ q_t).mono ?_)
      rintro _ w_u ⟨I_v, v_w, hv, hq, r_x⟩
      replace hv := hv.symm
      subst hv
      have hs := hq.st
      have hp := hp.join0 hq
      replace r_r := r_r.step hs
      replace r_2 := r_2.step hs
      replace r_5 := r_5.step hs
      obtain ⟨A_y, m_z, m_10, rfl⟩ := r_r.isSl
      obtain ⟨A_11, m_12, m_13, rfl⟩ := r_x.isSl
      refine ev0 (fun w => rn_build (cs := [(.bool x_m.Neg), (.slice A_y m_z m_10), (.bool x_s.Neg), (.slice A_11 m_12 m_13)]) rfl rfl T26 PL26 rfl) ?_
      refine ev_storeA hp (i := 2) (off := 0) (vs := [(.bool x_m.Neg), (.slice A_y m_z m_10), (.bool x_s.Neg), (.slice A_11 m_12 m_13)]) rfl rfl rfl rfl T26 rfl (Nat.le_of_ble_eq_true rfl) (ones_cons rfl (ones_cons r_r.one (ones_cons rfl (ones_cons r_x.one ones_nil)))) ?_
      intro w_14 hp hs
      replace r_2 := r_2.step hs
      replace r_5 := r_5.step hs
      replace r_r := r_r.step hs
      replace r_x := r_x.step hs
      apply go
      obtain rfl := Option.some.inj h
      refine ⟨_, run_loadVarA T26 rfl (hp.at_ (i := 2) rfl), ?_⟩
      have hp := hp.sel [] (by decide)
      exact ⟨I_v, (.slice A_y m_z m_10), (.slice A_11 m_12 m_13), rfl, hp, r_r, r_x⟩
    ·
      have h := cond_f h hc
      apply go
      obtain ⟨y_15, q_16, h⟩ := bind_some h
      refine W.cut (γ := (Bool × (List Int) × Bool × (List Int) × Value × Value × (Nat → Prop))) (fun g => [(2, (.pointer (some ⟨g_6, 0, none⟩))), (3, (.pointer (some ⟨g_8, 0, none⟩))), (4, (.pointer (some ⟨g_a, 0, none⟩)))]) (fun g w' => y_15 = ((g.1), (g.2.1), (g.2.2.1), (g.2.2.2.1)) ∧ Hp ⟨w0, I0, []⟩ (g.2.2.2.2.2.2) [some (g_6, [(.bool (g.1)), (g.2.2.2.2.1)], 24), some (g_8, [(.bool (g.2.2.1)), (g.2.2.2.2.2.1)], 24), some (g_a, [(.bool false), (.slice none 0 0), (.bool false), (.slice none 0 0)], 26)] w' ∧ RepS (dI .u32) w' (g.2.2.2.2.2.2) (g.2.2.2.2.1) (g.2.1) ∧ RepS (dI .u32) w' (g.2.2.2.2.2.2) (g.2.2.2.2.2.1) (g.2.2.2.1)) ?_ ?_
      ·
        apply go
        apply go
        refine ev (rn_load rfl rfl (run_loadVarA T24 rfl (hp.at_ (i := 1) rfl))) ?_
        obtain ⟨x_17, q_18, q_16⟩ := bind_some q_16
        refine ev_call rfl rfl C73 (((ref01_Sign_ok n) _ _  (Int_2.mk x_3.Neg x_3.Mag) v_4 r_5 hp.imm _ q_18).mono ?_)
        rintro _ w_19 ⟨rfl, hc⟩
        have hs := hp.stp hc
        replace hp := hp.ext hc
        replace r_2 := r_2.step hs
        replace r_5 := r_5.step hs
        apply go
        refine sel_of (fun hc => ?_) (fun hc => ?_)
        ·
          have q_16 := cond_t q_16 hc
          apply go
          apply go
          refine ev (rn_load rfl rfl (run_loadVarA T24 rfl (hp.at_ (i := 0) rfl))) ?_
          obtain ⟨x_1a, q_1b, q_16⟩ := bind_some q_16
          refine ev_call rfl rfl C75 (((ref01_Neg_ok n) _ _  (Int_2.mk x_0.Neg x_0.Mag) v_1 r_2 hp.imm _ q_1b).mono ?_)
          rintro _ w_1c ⟨I_1d, v_1e, hv, hq, r_1f⟩
          replace hv := hv.symm
          subst hv
          have hs := hq.st
          have hp := hp.join0 hq
          replace r_2 := r_2.step hs
          replace r_5 := r_5.step hs
          refine ev_storeA hp (i := 0) (off := 0) (vs := [(.bool x_1a.Neg), v_1e]) rfl rfl rfl rfl T24 rfl (Nat.le_of_ble_eq_true rfl) (ones_cons rfl (ones_cons r_1f.one ones_nil)) ?_
          intro w_1g hp hs
          replace r_1f := r_1f.step hs
          replace r_5 := r_5.step hs
          apply go
          refine ev (rn_load rfl rfl (run_loadVarA T24 rfl (hp.at_ (i := 1) rfl))) ?_
          obtain ⟨x_1h, q_1i, q_16⟩ := bind_some q_16
          refine ev_call rfl rfl C75 (((ref01_Neg_ok n) _ _  (Int_2.mk x_3.Neg x_3.Mag) v_4 r_5 hp.imm _ q_1i).mono ?_)
          rintro _ w_1j ⟨I_1k, v_1l, hv, hq, r_1m⟩
          replace hv := hv.symm
          subst hv
          have hs := hq.st
          have hp := hp.join0 hq
          replace r_1f := r_1f.step hs
          replace r_5 := r_5.step hs
          refine ev_storeA hp (i := 1) (off := 0) (vs := [(.bool x_1h.Neg), v_1l]) rfl rfl rfl rfl T24 rfl (Nat.le_of_ble_eq_true rfl) (ones_cons rfl (ones_cons r_1m.one ones_nil)) ?_
          intro w_1n hp hs
          replace r_1f := r_1f.step hs
          replace r_1m := r_1m.step hs
          obtain rfl := Option.some.inj q_16
          exact ⟨(x_1a.Neg, x_1a.Mag, x_1h.Neg, x_1h.Mag, v_1e, v_1l, I_1k), (.c rfl (.c rfl (.c rfl .n))), rfl, hp, r_1f, r_1m⟩
        ·
          have q_16 := cond_f q_16 hc
          apply go
          obtain rfl := Option.some.inj q_16
          exact ⟨(x_0.Neg, x_0.Mag, x_3.Neg, x_3.Mag, v_1, v_4, I0), (.c rfl (.c rfl (.c rfl .n))), rfl, hp, r_2, r_5⟩
      ·
        rintro ⟨x_1o, x_1p, x_1q, x_1r, v_1s, v_1t, I_1u⟩ w_1v ⟨hy, hp, r_1w, r_1x⟩
        replace hy := hy.symm
        subst hy
        apply go
        apply go
        refine ev (rn_load rfl rfl (run_loadVarA T24 rfl (hp.at_ (i := 0) rfl))) ?_
        refine ev (rn_load rfl rfl (run_loadVarA T24 rfl (hp.at_ (i := 1) rfl))) ?_
        obtain ⟨x_1y, q_1z, h⟩ := bind_some h
        refine ev_call rfl rfl C76 (((ref01_Gcd_ok n) _ _  (Int_2.mk x_1o x_1p) v_1s r_1w (Int_2.mk x_1q x_1r) v_1t r_1x hp.imm _ q_1z).mono ?_)
        rintro _ w_20 ⟨I_21, v_22, hv, hq, r_23⟩
        replace hv := hv.symm
        subst hv
        have hs := hq.st
        have hp := hp.join0 hq
        replace r_1w := r_1w.step hs
        replace r_1x := r_1x.step hs
        refine ev_alloc hp rfl T24 ?_
        intro g_24 w_25 hp hs
        replace r_23 := r_23.step hs
        replace r_1w := r_1w.step hs
        replace r_1x := r_1x.step hs
        refine ev_storeA hp (i := 0) (off := 0) (vs := [(.bool x_1y.Neg), v_22]) rfl rfl rfl rfl T24 rfl (Nat.le_of_ble_eq_true rfl) (ones_cons rfl (ones_cons r_23.one ones_nil)) ?_
        intro w_26 hp hs
        replace r_23 := r_23.step hs
        replace r_1w := r_1w.step hs
        replace r_1x := r_1x.step hs
        apply go
        have hs := hp.stp (Ch.drew [] w_26)
        have hp := hp.drew
        replace r_23 := r_23.step hs
        replace r_1w := r_1w.step hs
        replace r_1x := r_1x.step hs
        refine W.held [(0, true), (1, true), (3, true), (4, true), (2, false), (5, false), (6, true), (7, false)] (fun x => Stp I_21 w_26.drew I_21 x ∧ OwnK [(g_6, [(.bool x_1o), v_1s], 24), (g_24, [(.bool x_1y.Neg), v_22], 24), (g_8, [(.bool x_1q), v_1t], 24)] x) MX (by kernel_rfl) ⟨Stp.refl _ _, (OwnK.cons (hp.own 1 _ _ _ rfl).1 (OwnK.cons (hp.own 0 _ _ _ rfl).1 (OwnK.cons (hp.own 2 _ _ _ rfl).1 OwnK.nil)))⟩ ?_
        have hz := Stp.refl I_21 w_26.drew
        refine evh (fun w' hw => rn_load rfl rfl (run_loadVarA T24 rfl (hw.2.at_ (i := 0) rfl))) ?_
        refine evh (fun w' hw => rn_load rfl rfl (run_loadVarA T24 rfl (hw.2.at_ (i := 1) rfl))) ?_
        refine evh (fun w' hw => rn_load rfl rfl (run_loadVarA T24 rfl (hw.2.at_ (i := 2) rfl))) ?_
        refine evh (fun w' hw => rn_load rfl rfl (run_loadVarA T24 rfl (hw.2.at_ (i := 1) rfl))) ?_
        obtain ⟨x_27, q_28, h⟩ := bind_some h
        refine ev_call rfl rfl C50 (((ref02_part_ok n) _ _  (Int_2.mk x_1o x_1p) v_1s r_1w (Int_2.mk x_1y.Neg x_1y.Mag) v_22 r_23 hp.imm _ q_28).mono ?_)
        rintro _ w_29 ⟨I_2a, v_2b, hv, hq, r_2c⟩
        replace hv := hv.symm
        subst hv
        have hs := hq.st
        have hp := hp.join0 hq
        replace hz := hz.trans hs
        replace r_1x := r_1x.step hs
        replace r_23 := r_23.step hs
        replace r_1w := r_1w.step hs
        refine ⟨fun x => Stp I_2a w_29 I_2a x ∧ OwnK [(g_6, [(.bool x_1o), v_1s], 24), (g_24, [(.bool x_1y.Neg), v_22], 24), (g_8, [(.bool x_1q), v_1t], 24)] x, ⟨Stp.refl _ _, (OwnK.cons (hp.own 1 _ _ _ rfl).1 (OwnK.cons (hp.own 0 _ _ _ rfl).1 (OwnK.cons (hp.own 2 _ _ _ rfl).1 OwnK.nil)))⟩, fun x hx => ⟨hz.held hx.1, hx.2⟩, ?_⟩
        have hz := Stp.refl I_2a w_29
        obtain ⟨x_2d, q_2e, h⟩ := bind_some h
        refine ev_call rfl rfl C50 (((ref02_part_ok n) _ _  (Int_2.mk x_1q x_1r) v_1t r_1x (Int_2.mk x_1y.Neg x_1y.Mag) v_22 r_23 hp.imm _ q_2e).mono ?_)
        rintro _ w_2f ⟨I_2g, v_2h, hv, hq, r_2i⟩
        replace hv := hv.symm
        subst hv
        have hs := hq.st
        have hp := hp.join0 hq
        replace hz := hz.trans hs
        replace r_2c := r_2c.step hs
        replace r_23 := r_23.step hs
        replace r_1w := r_1w.step hs
        replace r_1x := r_1x.step hs
        refine ⟨fun x => Stp I_2g w_2f I_2g x ∧ OwnK [(g_6, [(.bool x_1o), v_1s], 24), (g_24, [(.bool x_1y.Neg), v_22], 24), (g_8, [(.bool x_1q), v_1t], 24)] x, ⟨Stp.refl _ _, (OwnK.cons (hp.own 1 _ _ _ rfl).1 (OwnK.cons (hp.own 0 _ _ _ rfl).1 (OwnK.cons (hp.own 2 _ _ _ rfl).1 OwnK.nil)))⟩, fun x hx => ⟨hz.held hx.1, hx.2⟩, ?_⟩
        have hz := Stp.refl I_2g w_2f
        obtain ⟨A_2j, m_2k, m_2l, rfl⟩ := r_2c.isSl
        obtain ⟨A_2m, m_2n, m_2o, rfl⟩ := r_2i.isSl
        refine evh0 (fun w => rn_build (cs := [(.bool x_27.Neg), (.slice A_2j m_2k m_2l), (.bool x_2d.Neg), (.slice A_2m m_2n m_2o)]) rfl rfl T26 PL26 rfl) ?_
        refine ev_storeA hp (i := 3) (off := 0) (vs := [(.bool x_27.Neg), (.slice A_2j m_2k m_2l), (.bool x_2d.Neg), (.slice A_2m m_2n m_2o)]) rfl rfl rfl rfl T26 rfl (Nat.le_of_ble_eq_true rfl) (ones_cons rfl (ones_cons r_2c.one (ones_cons rfl (ones_cons r_2i.one ones_nil)))) ?_
        intro w_2p hp hs
        replace hz := hz.trans hs
        replace r_23 := r_23.step hs
        replace r_1w := r_1w.step hs
        replace r_1x := r_1x.step hs
        replace r_2c := r_2c.step hs
        replace r_2i := r_2i.step hs
        refine ⟨fun x => Stp I_2g w_2p I_2g x ∧ OwnK [(g_6, [(.bool x_1o), v_1s], 24), (g_24, [(.bool x_1y.Neg), v_22], 24), (g_8, [(.bool x_1q), v_1t], 24)] x, ⟨Stp.refl _ _, (OwnK.cons (hp.own 1 _ _ _ rfl).1 (OwnK.cons (hp.own 0 _ _ _ rfl).1 (OwnK.cons (hp.own 2 _ _ _ rfl).1 OwnK.nil)))⟩, fun x hx => ⟨hz.held hx.1, hx.2⟩, ?_⟩
        have hz := Stp.refl I_2g w_2p
        apply go
        obtain rfl := Option.some.inj h
        refine ⟨_, run_loadVarA T26 rfl (hp.at_ (i := 3) rfl), ?_⟩
        have hp := hp.sel [] (by decide)
        exact ⟨I_2g, (.slice A_2j m_2k m_2l), (.slice A_2m m_2n m_2o), rfl, hp, r_2c, r_2i⟩

end Go.Proofs.YtepadjfmcbjkmaaGreatDoor

namespace Go.Proofs.YtepadjfmcbjkmaaGreatDoor
open Go Go.Proofs.YtepadjfmcbjkmaaGreatDoor.Gw Go.RowKit
set_option linter.unusedVariables false
attribute [local irreducible] Ev EvQ EvS EvH
def ref02_Norm_S (f : Rational → Option Rational) : Prop := ∀ (w0 : World) (I0 : Nat → Prop) (x_0 : Rational) (v_1 : Value) (r_2 : RepS (dI .u32) w0 I0 v_1 x_0.Num.Mag) (v_3 : Value) (r_4 : RepS (dI .u32) w0 I0 v_3 x_0.Den.Mag) (hI : ∀ g, I0 g → g < w0.heap.size) (r : Rational), f x_0 = some r →
    Ret Tryz.prog 35 #[(.agg #[(.bool x_0.Num.Neg), v_1, (.bool x_0.Den.Neg), v_3])] w0 fun v w1 => ∃ (I1 : Nat → Prop) (u_5 : Value) (u_6 : Value), v = (.agg #[(.bool r.Num.Neg), u_5, (.bool r.Den.Neg), u_6]) ∧ Hp ⟨w0, I0, []⟩ I1 [] w1 ∧ RepS (dI .u32) w1 I1 u_5 r.Num.Mag ∧ RepS (dI .u32) w1 I1 u_6 r.Den.Mag
theorem ref02_Norm_ok (n : Nat) : ref02_Norm_S (ref02_Norm n) := by
  intro w0 I0 x_0 v_1 r_2 v_3 r_4 hI r h
  unfold ref02_Norm at h
  refine enter Tryz.func35 rfl (Nat.le_of_ble_eq_true rfl) ?_
  have hp : Hp ⟨w0, I0, []⟩ I0 [] w0 := Hp.start hI
  apply go
  apply go
  refine ev_boxI hp rfl rfl ?_
  intro p_5 I_6 w_7 hp hs a_8
  replace r_2 := r_2.step hs
  replace r_4 := r_4.step hs
  refine ev_alloc hp rfl T26 ?_
  intro g_9 w_a hp hs
  replace a_8 := a_8.step hs
  replace r_2 := r_2.step hs
  replace r_4 := r_4.step hs
  apply go
  apply go
  refine ev0 (rn_field rfl rfl FO26_0) ?_
  refine ev (rn_load rfl rfl (run_loadVarA T24 rfl ((a_8.drop 0).take 2))) ?_
  refine ev0 (rn_field rfl rfl FO26_1) ?_
  refine ev (rn_load rfl rfl (run_loadVarA T24 rfl ((a_8.drop 2).take 2))) ?_
  obtain ⟨x_b, q_c, h⟩ := bind_some h
  refine ev_call rfl rfl C41 (((ref02_New_ok n) _ _  (Int_2.mk x_0.Num.Neg x_0.Num.Mag) v_1 r_2 (Int_2.mk x_0.Den.Neg x_0.Den.Mag) v_3 r_4 hp.imm _ q_c).mono ?_)
  rintro _ w_d ⟨I_e, v_f, v_g, hv, hq, r_h, r_i⟩
  replace hv := hv.symm
  subst hv
  have hs := hq.st
  have hp := hp.join0 hq
  refine ev_storeA hp (i := 0) (off := 0) (vs := [(.bool x_b.Num.Neg), v_f, (.bool x_b.Den.Neg), v_g]) rfl rfl rfl rfl T26 rfl (Nat.le_of_ble_eq_true rfl) (ones_cons rfl (ones_cons r_h.one (ones_cons rfl (ones_cons r_i.one ones_nil)))) ?_
  intro w_j hp hs
  replace r_h := r_h.step hs
  replace r_i := r_i.step hs
  apply go
  obtain rfl := Option.some.inj h
  refine ⟨_, run_loadVarA T26 rfl (hp.at_ (i := 0) rfl), ?_⟩
  have hp := hp.sel [] (by decide)
  exact ⟨I_e, v_f, v_g, rfl, hp, r_h, r_i⟩

end Go.Proofs.YtepadjfmcbjkmaaGreatDoor

namespace Go.Proofs.YtepadjfmcbjkmaaGreatDoor
open Go Go.Proofs.YtepadjfmcbjkmaaGreatDoor.Gw Go.RowKit
set_option linter.unusedVariables false
attribute [local irreducible] Ev EvQ EvS EvH
def ref01_Cmp_S (f : Int_2 → Int_2 → Option Int) : Prop := ∀ (w0 : World) (I0 : Nat → Prop) (x_0 : Int_2) (v_1 : Value) (r_2 : RepS (dI .u32) w0 I0 v_1 x_0.Mag) (x_3 : Int_2) (v_4 : Value) (r_5 : RepS (dI .u32) w0 I0 v_4 x_3.Mag) (hI : ∀ g, I0 g → g < w0.heap.size) (r : Int), f x_0 x_3 = some r →
    Ret Tryz.prog 44 #[(.agg #[(.bool x_0.Neg), v_1]), (.agg #[(.bool x_3.Neg), v_4])] w0 fun v w1 => v = (.int .i64 r) ∧ Ch [] w0 w1
theorem ref01_Cmp_ok (n : Nat) : ref01_Cmp_S (ref01_Cmp n) := by
  intro w0 I0 x_0 v_1 r_2 x_3 v_4 r_5 hI r h
  unfold ref01_Cmp at h
  refine enter Tryz.func44 rfl (Nat.le_of_ble_eq_true rfl) ?_
  have hp : Hp ⟨w0, I0, []⟩ I0 [] w0 := Hp.start hI
  apply go
  apply go
  refine ev_box hp rfl rfl ?_
  intro g_6 w_7 hp hs
  replace r_5 := r_5.step hs
  replace r_2 := r_2.step hs
  refine ev_box hp rfl rfl ?_
  intro g_8 w_9 hp hs
  replace r_5 := r_5.step hs
  replace r_2 := r_2.step hs
  apply go
  apply go
  refine ev (rn_load rfl rfl (run_loadVarA T24 rfl (hp.at_ (i := 1) rfl))) ?_
  obtain ⟨x_a, q_b, h⟩ := bind_some h
  refine ev_call rfl rfl C77 (((ref01_Norm_ok n) _ _  (Int_2.mk x_0.Neg x_0.Mag) v_1 r_2 hp.imm _ q_b).mono ?_)
  rintro _ w_c ⟨I_d, v_e, hv, hq, r_f⟩
  replace hv := hv.symm
  subst hv
  have hs := hq.st
  have hp := hp.join0 hq
  replace r_5 := r_5.step hs
  replace r_2 := r_2.step hs
  refine ev_storeA hp (i := 1) (off := 0) (vs := [(.bool x_a.Neg), v_e]) rfl rfl rfl rfl T24 rfl (Nat.le_of_ble_eq_true rfl) (ones_cons rfl (ones_cons r_f.one ones_nil)) ?_
  intro w_g hp hs
  replace r_5 := r_5.step hs
  replace r_f := r_f.step hs
  apply go
  apply go
  refine ev (rn_load rfl rfl (run_loadVarA T24 rfl (hp.at_ (i := 0) rfl))) ?_
  obtain ⟨x_h, q_i, h⟩ := bind_some h
  refine ev_call rfl rfl C77 (((ref01_Norm_ok n) _ _  (Int_2.mk x_3.Neg x_3.Mag) v_4 r_5 hp.imm _ q_i).mono ?_)
  rintro _ w_j ⟨I_k, v_l, hv, hq, r_m⟩
  replace hv := hv.symm
  subst hv
  have hs := hq.st
  have hp := hp.join0 hq
  replace r_5 := r_5.step hs
  replace r_f := r_f.step hs
  refine ev_storeA hp (i := 0) (off := 0) (vs := [(.bool x_h.Neg), v_l]) rfl rfl rfl rfl T24 rfl (Nat.le_of_ble_eq_true rfl) (ones_cons rfl (ones_cons r_m.one ones_nil)) ?_
  intro w_n hp hs
  replace r_m := r_m.step hs
  replace r_f := r_f.step hs
  apply go
  apply go
  apply go
  refine ev0 (rn_field rfl rfl FO24_0) ?_
  refine ev (rn_load rfl rfl (run_loadVar1 T4 (hp.cell (i := 1) (off := 0) rfl rfl))) ?_
  refine ev0 (rn_field rfl rfl FO24_0) ?_
  refine ev (rn_load rfl rfl (run_loadVar1 T4 (hp.cell (i := 0) (off := 0) rfl rfl))) ?_
  refine ev0 (rn_neB rfl rfl rfl Tryz.underlying4) ?_
  apply go
  refine sel_of (fun hc => ?_) (fun hc => ?_)
  ·
    have h := cond_t h hc
    apply go
    apply go
    apply go
    refine ev0 (rn_field rfl rfl FO24_0) ?_
    refine ev (rn_load rfl rfl (run_loadVar1 T4 (hp.cell (i := 1) (off := 0) rfl rfl))) ?_
    apply go
    refine sel_of (fun hc => ?_) (fun hc => ?_)
    ·
      have h := cond_t h hc
      apply go
      apply go
      apply go
      obtain rfl := Option.some.inj h
      exact ⟨rfl, hp.ch⟩
    ·
      have h := cond_f h hc
      apply go
      apply go
      apply go
      apply go
      obtain rfl := Option.some.inj h
      exact ⟨rfl, hp.ch⟩
  ·
    have h := cond_f h hc
    apply go
    apply go
    apply go
    apply go
    refine ev0 (rn_field rfl rfl FO24_0) ?_
    refine ev (rn_load rfl rfl (run_loadVar1 T4 (hp.cell (i := 1) (off := 0) rfl rfl))) ?_
    apply go
    refine sel_of (fun hc => ?_) (fun hc => ?_)
    ·
      have h := cond_t h hc
      apply go
      apply go
      refine ev0 (rn_field rfl rfl FO24_1) ?_
      refine ev (rn_load rfl rfl (run_loadVar1 T22 (hp.cell (i := 0) (off := 1) rfl rfl))) ?_
      refine ev0 (rn_field rfl rfl FO24_1) ?_
      refine ev (rn_load rfl rfl (run_loadVar1 T22 (hp.cell (i := 1) (off := 1) rfl rfl))) ?_
      obtain ⟨x_o, q_p, h⟩ := bind_some h
      refine ev_call rfl rfl C78 (((ref01_cmp_ok n) _ _  x_h.Mag v_l r_m x_a.Mag v_e r_f hp.imm _ q_p).mono ?_)
      rintro _ w_q ⟨rfl, hc⟩
      have hs := hp.stp hc
      replace hp := hp.ext hc
      replace r_m := r_m.step hs
      replace r_f := r_f.step hs
      apply go
      obtain rfl := Option.some.inj h
      exact ⟨rfl, hp.ch⟩
    ·
      have h := cond_f h hc
      apply go
      apply go
      apply go
      refine ev0 (rn_field rfl rfl FO24_1) ?_
      refine ev (rn_load rfl rfl (run_loadVar1 T22 (hp.cell (i := 1) (off := 1) rfl rfl))) ?_
      refine ev0 (rn_field rfl rfl FO24_1) ?_
      refine ev (rn_load rfl rfl (run_loadVar1 T22 (hp.cell (i := 0) (off := 1) rfl rfl))) ?_
      obtain ⟨x_r, q_s, h⟩ := bind_some h
      refine ev_call rfl rfl C78 (((ref01_cmp_ok n) _ _  x_a.Mag v_e r_f x_h.Mag v_l r_m hp.imm _ q_s).mono ?_)
      rintro _ w_t ⟨rfl, hc⟩
      have hs := hp.stp hc
      replace hp := hp.ext hc
      replace r_m := r_m.step hs
      replace r_f := r_f.step hs
      apply go
      obtain rfl := Option.some.inj h
      exact ⟨rfl, hp.ch⟩

end Go.Proofs.YtepadjfmcbjkmaaGreatDoor

namespace Go.Proofs.YtepadjfmcbjkmaaGreatDoor
open Go Go.Proofs.YtepadjfmcbjkmaaGreatDoor.Gw Go.RowKit
set_option linter.unusedVariables false
attribute [local irreducible] Ev EvQ EvS EvH
def ref01_Text_S (f : Int_2 → Option ByteArray) : Prop := ∀ (w0 : World) (I0 : Nat → Prop) (x_0 : Int_2) (v_1 : Value) (r_2 : RepS (dI .u32) w0 I0 v_1 x_0.Mag) (hI : ∀ g, I0 g → g < w0.heap.size) (r : ByteArray), f x_0 = some r →
    Ret Tryz.prog 70 #[(.agg #[(.bool x_0.Neg), v_1])] w0 fun v w1 => v = (.string r) ∧ Ch [] w0 w1
theorem ref01_Text_ok (n : Nat) : ref01_Text_S (ref01_Text n) := by
  intro w0 I0 x_0 v_1 r_2 hI r h
  unfold ref01_Text at h
  refine enter Tryz.func70 rfl (Nat.le_of_ble_eq_true rfl) ?_
  have hp : Hp ⟨w0, I0, []⟩ I0 [] w0 := Hp.start hI
  apply go
  apply go
  refine ev_boxI hp rfl rfl ?_
  intro p_3 I_4 w_5 hp hs a_6
  replace r_2 := r_2.step hs
  apply go
  apply go
  apply go
  apply go
  refine ev0 (rn_field rfl rfl FO24_1) ?_
  refine ev (rn_load rfl rfl (run_loadVar1 T22 (a_6.2 1 _ rfl))) ?_
  obtain ⟨x_7, q_8, h⟩ := bind_some h
  refine ev_call rfl rfl C100 (((ref01_trim_ok n) _ _  x_0.Mag v_1 r_2 hp.imm _ q_8).mono ?_)
  rintro _ w_9 ⟨I_a, v_b, e_c, hv, hq, o_d⟩
  replace hv := hv.symm
  subst hv
  have hs := hq.st
  have hp := hp.join0 hq
  replace a_6 := a_6.step hs
  replace r_2 := r_2.step hs
  obtain ⟨y_e, q_f, h⟩ := bind_some h
  refine W.cut (γ := (ByteArray × (Nat → Prop))) (fun g => [(1, (.pointer (some (p_3)))), (3, (.string (g.1)))]) (fun g w' => y_e = (g.1) ∧ Hp ⟨w0, I0, []⟩ (g.2) [] w' ∧ RepS (dI .u32) w' (g.2) v_1 x_0.Mag ∧ At w' (g.2) p_3 [(.bool x_0.Neg), v_1]) ?_ ?_
  ·
    apply go
    refine W.loop q_f (γ := (Value × Ent × (Nat → Prop))) (fun s g => [(1, (.pointer (some (p_3)))), (3, (.string (s.1))), (4, (g.1))]) (fun s g w' => Hp ⟨w0, I0, []⟩ (g.2.2) [(g.2.1)] w' ∧ RepS (dI .u32) w' (g.2.2) v_1 x_0.Mag ∧ At w' (g.2.2) p_3 [(.bool x_0.Neg), v_1] ∧ OwnS (dI .u32) 46 w' (g.2.2) (g.1) (g.2.1) (s.2)) (v_b, e_c, I_a) (.c rfl (.c rfl (.c rfl .n))) ⟨hp, r_2, a_6, o_d⟩ ?_
    rintro ⟨x_g, x_h⟩ ⟨v_i, e_j, I_k⟩ w_l y_m ⟨hp, r_2, a_6, o_n⟩ q_o q_p
    unfold ref01_Text_L11 at q_o
    apply go
    apply go
    apply go
    refine ev0 (x_lenO rfl rfl Tryz.underlying22 o_n) ?_
    apply go
    refine sel_of (fun hc => ?_) (fun hc => ?_)
    ·
      have q_o := cond_t q_o hc
      apply go
      apply go
      apply go
      apply go
      obtain ⟨y_q, q_r, q_o⟩ := bind_some q_o
      refine W.cut (γ := ((List Int) × Int × Ent)) (fun g => [(1, (.pointer (some (p_3)))), (3, (.string x_g)), (4, v_i), (5, (.int .u64 (g.2.1)))]) (fun g w' => y_q = ((g.1), (g.2.1)) ∧ Hp ⟨w0, I0, []⟩ I_k [(g.2.2)] w' ∧ RepS (dI .u32) w' I_k v_1 x_0.Mag ∧ At w' I_k p_3 [(.bool x_0.Neg), v_1] ∧ OwnS (dI .u32) 46 w' I_k v_i (g.2.2) (g.1)) ?_ ?_
      ·
        apply go
        apply go
        refine ev0 (x_lenO rfl rfl Tryz.underlying22 o_n) ?_
        apply go
        refine W.loop q_r (γ := Ent) (fun s g => [(1, (.pointer (some (p_3)))), (3, (.string x_g)), (4, v_i), (5, (.int .u64 (s.2.1))), (6, (.int .i64 (s.2.2)))]) (fun s g w' => Hp ⟨w0, I0, []⟩ I_k [(g)] w' ∧ RepS (dI .u32) w' I_k v_1 x_0.Mag ∧ At w' I_k p_3 [(.bool x_0.Neg), v_1] ∧ OwnS (dI .u32) 46 w' I_k v_i (g) (s.1)) e_j (.c rfl (.c rfl (.c rfl (.c rfl (.c rfl .n))))) ⟨hp, r_2, a_6, o_n⟩ ?_
        rintro ⟨x_s, x_t, x_u⟩ e_v w_w y_x ⟨hp, r_2, a_6, o_y⟩ q_z q_10
        unfold ref01_Text_L13 at q_z
        apply go
        apply go
        apply go
        apply go
        refine sel_of (fun hc => ?_) (fun hc => ?_)
        ·
          have q_z := cond_t q_z hc
          apply go
          apply go
          apply go
          apply go
          apply go
          obtain ⟨x_11, q_12, q_z⟩ := bind_some q_z
          refine ev_indexO rfl rfl rfl Tryz.underlying22 T46 o_y q_12 ?_
          intro g_13 c_14 h_15 d_16 l_17
          refine ev (rn_load rfl rfl (run_loadVar1 T46 (hp.cellE (i := 0) rfl h_15 d_16 (j := 0) rfl))) ?_
          refine ev0 (rn_conv rfl rfl U46 Tryz.underlying75) ?_
          apply go
          apply go
          refine ⟨by decide, ?_⟩
          refine ev0 (rn_conv rfl rfl U75 Tryz.underlying46) ?_
          obtain ⟨x_18, q_19, q_z⟩ := bind_some q_z
          refine ev_indexO rfl rfl rfl Tryz.underlying22 T46 o_y q_19 ?_
          intro g_1a c_1b h_1c d_1d l_1e
          refine ev_storeE hp (i := 0) rfl h_1c rfl rfl rfl T46 o_y q_19 (x0 := (IntKind.u32.wrap (IntKind.u64.wrap ((IntKind.u64.wrap ((IntKind.u64.wrap (x_t * 4294967296)) + (IntKind.u64.wrap x_11))).tdiv 10)))) rfl ?_
          intro e_1f w_1g hp hs o_1h
          replace a_6 := a_6.step hs
          replace r_2 := r_2.step hs
          apply go
          refine ⟨by decide, ?_⟩
          apply go
          exact ⟨_, (Option.some.inj q_z).symm, e_1f, (.c rfl (.c rfl (.c rfl (.c rfl (.c rfl .n))))), ⟨hp, r_2, a_6, o_1h⟩⟩
        ·
          have q_z := cond_f q_z hc
          apply go
          have q_1i := congrArg some (q_10 _ (Option.some.inj q_z).symm)
          obtain rfl := Option.some.inj q_1i
          exact ⟨(x_s, x_t, e_v), (.c rfl (.c rfl (.c rfl (.c rfl .n)))), rfl, hp, r_2, a_6, o_y⟩
      ·
        rintro ⟨x_1j, x_1k, e_1l⟩ w_1m ⟨hy, hp, r_2, a_6, o_1n⟩
        replace hy := hy.symm
        subst hy
        apply go
        apply go
        refine ev0 (rn_conv rfl rfl U75 Tryz.underlying5) ?_
        refine ev_litN (d := (dI .u8)) (xs := [(IntKind.u8.wrap (IntKind.u64.wrap (48 + x_1k)))]) (cs := [(.int .u8 (IntKind.u8.wrap (IntKind.u64.wrap (48 + x_1k))))]) hp rfl rfl Tryz.underlying52 T5 (by decide) rfl rfl (Elems.cons (d := (dI .u8)) (xs := _) rfl (Elems.nil _ _ _ _)) ?_
        intro v_1o I_1p w_1q hp hs r_1r
        replace a_6 := a_6.step hs
        replace r_2 := r_2.step hs
        replace o_1n := o_1n.step hs
        refine ev (rn_bstr rfl rfl Tryz.underlying52 Tryz.underlying5 Tryz.underlying9 r_1r) ?_
        obtain ⟨q_1s, _, q_o⟩ := need_some q_o
        refine ⟨q_1s, ?_⟩
        apply go
        have r_1t := o_1n.frz hp (i := 0) rfl
        obtain ⟨hp, hs⟩ := freeze_hp hp (i := 0) rfl
        replace a_6 := a_6.step hs
        replace r_2 := r_2.step hs
        have hp := hp.sel [] (by decide)
        obtain ⟨x_1u, q_1v, q_o⟩ := bind_some q_o
        refine ev_call rfl rfl C100 (((ref01_trim_ok n) _ _  x_1j v_i r_1t hp.imm _ q_1v).mono ?_)
        rintro _ w_1w ⟨I_1x, v_1y, e_1z, hv, hq, o_20⟩
        replace hv := hv.symm
        subst hv
        have hs := hq.st
        have hp := hp.join0 hq
        replace a_6 := a_6.step hs
        replace r_2 := r_2.step hs
        exact ⟨_, (Option.some.inj q_o).symm, (v_1y, e_1z, I_1x), (.c rfl (.c rfl (.c rfl .n))), ⟨hp, r_2, a_6, o_20⟩⟩
    ·
      have q_o := cond_f q_o hc
      apply go
      have q_21 := congrArg some (q_p _ (Option.some.inj q_o).symm)
      obtain rfl := Option.some.inj q_21
      have hp := hp.sel [] (by decide)
      exact ⟨(x_g, I_k), (.c rfl (.c rfl .n)), rfl, hp, r_2, a_6⟩
  ·
    rintro ⟨x_22, I_23⟩ w_24 ⟨hy, hp, r_2, a_6⟩
    replace hy := hy.symm
    subst hy
    apply go
    apply go
    apply go
    apply go
    refine sel_of (fun hc => ?_) (fun hc => ?_)
    ·
      have h := cond_t h hc
      apply go
      apply go
      apply go
      obtain rfl := Option.some.inj h
      exact ⟨rfl, hp.ch⟩
    ·
      have h := cond_f h hc
      apply go
      apply go
      apply go
      apply go
      refine ev0 (rn_field rfl rfl FO24_0) ?_
      refine ev (rn_load rfl rfl (run_loadVar1 T4 (a_6.2 0 _ rfl))) ?_
      apply go
      refine sel_of (fun hc => ?_) (fun hc => ?_)
      ·
        have h := cond_t h hc
        apply go
        apply go
        obtain ⟨q_25, _, h⟩ := need_some h
        refine ⟨q_25, ?_⟩
        apply go
        obtain rfl := Option.some.inj h
        exact ⟨rfl, hp.ch⟩
      ·
        have h := cond_f h hc
        apply go
        apply go
        apply go
        apply go
        obtain rfl := Option.some.inj h
        exact ⟨rfl, hp.ch⟩

end Go.Proofs.YtepadjfmcbjkmaaGreatDoor

namespace Go.Proofs.YtepadjfmcbjkmaaGreatDoor
open Go Go.Proofs.YtepadjfmcbjkmaaGreatDoor.Gw Go.RowKit
set_option linter.unusedVariables false
attribute [local irreducible] Ev EvQ EvS EvH
def ref02_Text_S (f : Rational → Option ByteArray) : Prop := ∀ (w0 : World) (I0 : Nat → Prop) (x_0 : Rational) (v_1 : Value) (r_2 : RepS (dI .u32) w0 I0 v_1 x_0.Num.Mag) (v_3 : Value) (r_4 : RepS (dI .u32) w0 I0 v_3 x_0.Den.Mag) (hI : ∀ g, I0 g → g < w0.heap.size) (r : ByteArray), f x_0 = some r →
    Ret Tryz.prog 34 #[(.agg #[(.bool x_0.Num.Neg), v_1, (.bool x_0.Den.Neg), v_3])] w0 fun v w1 => v = (.string r) ∧ Ch [] w0 w1
theorem ref02_Text_ok (n : Nat) : ref02_Text_S (ref02_Text n) := by
  intro w0 I0 x_0 v_1 r_2 v_3 r_4 hI r h
  unfold ref02_Text at h
  refine enter Tryz.func34 rfl (Nat.le_of_ble_eq_true rfl) ?_
  have hp : Hp ⟨w0, I0, []⟩ I0 [] w0 := Hp.start hI
  apply go
  apply go
  refine ev_boxI hp rfl rfl ?_
  intro p_5 I_6 w_7 hp hs a_8
  replace r_2 := r_2.step hs
  replace r_4 := r_4.step hs
  apply go
  apply go
  refine ev (rn_load rfl rfl (run_loadVarA T26 rfl a_8)) ?_
  obtain ⟨x_9, q_a, h⟩ := bind_some h
  refine ev_call rfl rfl C35 (((ref02_Norm_ok n) _ _  (Rational.mk (Int_2.mk x_0.Num.Neg x_0.Num.Mag) (Int_2.mk x_0.Den.Neg x_0.Den.Mag)) v_1 r_2 v_3 r_4 hp.imm _ q_a).mono ?_)
  rintro _ w_b ⟨I_c, v_d, v_e, hv, hq, r_f, r_g⟩
  replace hv := hv.symm
  subst hv
  have hs := hq.st
  have hp := hp.join0 hq
  refine ev_alloc hp rfl T26 ?_
  intro g_h w_i hp hs
  replace r_f := r_f.step hs
  replace r_g := r_g.step hs
  refine ev_storeA hp (i := 0) (off := 0) (vs := [(.bool x_9.Num.Neg), v_d, (.bool x_9.Den.Neg), v_e]) rfl rfl rfl rfl T26 rfl (Nat.le_of_ble_eq_true rfl) (ones_cons rfl (ones_cons r_f.one (ones_cons rfl (ones_cons r_g.one ones_nil)))) ?_
  intro w_j hp hs
  replace r_f := r_f.step hs
  replace r_g := r_g.step hs
  apply go
  apply go
  have hs := hp.stp (Ch.drew [] w_j)
  have hp := hp.drew
  replace r_f := r_f.step hs
  replace r_g := r_g.step hs
  refine W.held [(0, true), (1, true), (2, false), (3, false), (4, true)] (fun x => Stp I_c w_j.drew I_c x ∧ OwnK [(g_h, [(.bool x_9.Num.Neg), v_d, (.bool x_9.Den.Neg), v_e], 26)] x) MX (by kernel_rfl) ⟨Stp.refl _ _, (OwnK.cons (hp.own 0 _ _ _ rfl).1 OwnK.nil)⟩ ?_
  have hz := Stp.refl I_c w_j.drew
  refine evh0 (rn_field rfl rfl FO26_1) ?_
  refine evh (fun w' hw => rn_load rfl rfl (run_loadVarA T24 rfl (((hw.2.at_ (i := 0) rfl).drop 2).take 2))) ?_
  obtain ⟨x_k, q_l, h⟩ := bind_some h
  refine ev_call rfl rfl C45 (((ref02_One_ok n) _ _   hp.imm _ q_l).mono ?_)
  rintro _ w_m ⟨I_n, v_o, hv, hq, r_p⟩
  replace hv := hv.symm
  subst hv
  have hs := hq.st
  have hp := hp.join0 hq
  replace hz := hz.trans hs
  replace r_g := r_g.step hs
  replace r_f := r_f.step hs
  refine ⟨fun x => Stp I_n w_m I_n x ∧ OwnK [(g_h, [(.bool x_9.Num.Neg), v_d, (.bool x_9.Den.Neg), v_e], 26)] x, ⟨Stp.refl _ _, (OwnK.cons (hp.own 0 _ _ _ rfl).1 OwnK.nil)⟩, fun x hx => ⟨hz.held hx.1, hx.2⟩, ?_⟩
  have hz := Stp.refl I_n w_m
  obtain ⟨x_q, q_r, h⟩ := bind_some h
  refine ev_call rfl rfl C44 (((ref01_Cmp_ok n) _ _  (Int_2.mk x_9.Den.Neg x_9.Den.Mag) v_e r_g x_k v_o r_p hp.imm _ q_r).mono ?_)
  rintro _ w_s ⟨rfl, hc⟩
  have hs := hp.stp hc
  replace hp := hp.ext hc
  replace hz := hz.trans hs
  replace r_f := r_f.step hs
  replace r_g := r_g.step hs
  refine ⟨fun x => Stp I_n w_s I_n x ∧ OwnK [(g_h, [(.bool x_9.Num.Neg), v_d, (.bool x_9.Den.Neg), v_e], 26)] x, ⟨Stp.refl _ _, (OwnK.cons (hp.own 0 _ _ _ rfl).1 OwnK.nil)⟩, fun x hx => ⟨hz.held hx.1, hx.2⟩, ?_⟩
  have hz := Stp.refl I_n w_s
  apply go
  refine sel_of (fun hc => ?_) (fun hc => ?_)
  ·
    have h := cond_t h hc
    apply go
    apply go
    refine ev0 (rn_field rfl rfl FO26_0) ?_
    refine ev (rn_load rfl rfl (run_loadVarA T24 rfl (((hp.at_ (i := 0) rfl).drop 0).take 2))) ?_
    obtain ⟨x_t, q_u, h⟩ := bind_some h
    refine ev_call rfl rfl C70 (((ref01_Text_ok n) _ _  (Int_2.mk x_9.Num.Neg x_9.Num.Mag) v_d r_f hp.imm _ q_u).mono ?_)
    rintro _ w_v ⟨rfl, hc⟩
    have hs := hp.stp hc
    replace hp := hp.ext hc
    replace r_f := r_f.step hs
    replace r_g := r_g.step hs
    apply go
    obtain rfl := Option.some.inj h
    exact ⟨rfl, hp.ch⟩
  ·
    have h := cond_f h hc
    apply go
    apply go
    refine W.quiet (fun w' => Ch [] w_s w') MX (by kernel_rfl) (Ch.drew [] w_s) ?_
    refine evq0 (rn_field rfl rfl FO26_0) ?_
    refine evq (fun w' hw => rn_load rfl rfl (run_loadVarA T24 rfl ((((hp.ext hw).at_ (i := 0) rfl).drop 0).take 2))) ?_
    obtain ⟨x_w, q_x, h⟩ := bind_some h
    refine evq_call rfl rfl C70 (fun w' hw => ((ref01_Text_ok n) _ _  (Int_2.mk x_9.Num.Neg x_9.Num.Mag) v_d (r_f.step (hp.stp hw)) (hp.ext hw).imm _ q_x).mono fun _ _ ⟨e, hc⟩ => ⟨e, hw.trans hc⟩) ?_
    obtain ⟨q_y, _, h⟩ := need_some h
    refine ⟨q_y, ?_⟩
    refine evq0 (rn_field rfl rfl FO26_1) ?_
    refine evq (fun w' hw => rn_load rfl rfl (run_loadVarA T24 rfl ((((hp.ext hw).at_ (i := 0) rfl).drop 2).take 2))) ?_
    obtain ⟨x_z, q_10, h⟩ := bind_some h
    refine evq_call rfl rfl C70 (fun w' hw => ((ref01_Text_ok n) _ _  (Int_2.mk x_9.Den.Neg x_9.Den.Mag) v_e (r_g.step (hp.stp hw)) (hp.ext hw).imm _ q_10).mono fun _ _ ⟨e, hc⟩ => ⟨e, hw.trans hc⟩) ?_
    obtain ⟨q_11, _, h⟩ := need_some h
    refine ⟨q_11, ?_⟩
    intro w_12 hc
    have hs := hp.stp hc
    replace hp := hp.ext hc
    replace r_f := r_f.step hs
    replace r_g := r_g.step hs
    apply go
    obtain rfl := Option.some.inj h
    exact ⟨rfl, hp.ch⟩

end Go.Proofs.YtepadjfmcbjkmaaGreatDoor

namespace Go.Proofs.YtepadjfmcbjkmaaGreatDoor
open Go Go.Proofs.YtepadjfmcbjkmaaGreatDoor.Gw Go.RowKit
set_option linter.unusedVariables false
attribute [local irreducible] Ev EvQ EvS EvH vch
def law02_RationalTexts_S (f : Rational → Rational → Option Bool) : Prop := ∀ (w0 : World) (I0 : Nat → Prop) (tb : Tb w0 I0 4 .u64 pow10) (x_0 : Rational) (v_1 : Value) (r_2 : RepS (dI .u32) w0 I0 v_1 x_0.Num.Mag) (v_3 : Value) (r_4 : RepS (dI .u32) w0 I0 v_3 x_0.Den.Mag) (x_5 : Rational) (v_6 : Value) (r_7 : RepS (dI .u32) w0 I0 v_6 x_5.Num.Mag) (v_8 : Value) (r_9 : RepS (dI .u32) w0 I0 v_8 x_5.Den.Mag) (hI : ∀ g, I0 g → g < w0.heap.size) (r : Bool), f x_0 x_5 = some r →
    Ret Tryz.prog 7 #[(.agg #[(.bool x_0.Num.Neg), v_1, (.bool x_0.Den.Neg), v_3]), (.agg #[(.bool x_5.Num.Neg), v_6, (.bool x_5.Den.Neg), v_8])] w0 fun v w1 => v = (.bool r) ∧ Ch [] w0 w1
theorem law02_RationalTexts_ok (n : Nat) : law02_RationalTexts_S (law02_RationalTexts n) := by
  intro w0 I0 tb x_0 v_1 r_2 v_3 r_4 x_5 v_6 r_7 v_8 r_9 hI r h
  unfold law02_RationalTexts at h
  refine enter Tryz.func7 rfl (Nat.le_of_ble_eq_true rfl) ?_
  have hp : Hp ⟨w0, I0, []⟩ I0 [] w0 := Hp.start hI
  apply go
  apply go
  refine ev_boxI hp rfl rfl ?_
  intro p_a I_b w_c hp hs a_d
  replace r_7 := r_7.step hs
  replace r_9 := r_9.step hs
  replace r_2 := r_2.step hs
  replace r_4 := r_4.step hs
  replace tb := tb.step hs
  refine ev_boxI hp rfl rfl ?_
  intro p_e I_f w_g hp hs a_h
  replace a_d := a_d.step hs
  replace r_2 := r_2.step hs
  replace r_4 := r_4.step hs
  replace r_7 := r_7.step hs
  replace r_9 := r_9.step hs
  replace tb := tb.step hs
  apply go
  obtain ⟨y_i, q_j, h⟩ := bind_some h
  refine W.cut (γ := ((List Int) × (List Int) × (List Int) × (List Int) × Bool × Value × Value × Value × Value × (Nat → Prop))) (fun g => [(2, (.pointer (some (p_a)))), (3, (.pointer (some (p_e)))), (16, (.bool (g.2.2.2.2.1)))]) (fun g w' => y_i = ((g.1), (g.2.1), (g.2.2.1), (g.2.2.2.1), (g.2.2.2.2.1)) ∧ Hp ⟨w0, I0, []⟩ (g.2.2.2.2.2.2.2.2.2) [] w' ∧ RepS (dI .u32) w' (g.2.2.2.2.2.2.2.2.2) (g.2.2.2.2.2.1) (g.1) ∧ RepS (dI .u32) w' (g.2.2.2.2.2.2.2.2.2) (g.2.2.2.2.2.2.1) (g.2.1) ∧ At w' (g.2.2.2.2.2.2.2.2.2) p_a [(.bool x_0.Num.Neg), (g.2.2.2.2.2.1), (.bool x_0.Den.Neg), (g.2.2.2.2.2.2.1)] ∧ RepS (dI .u32) w' (g.2.2.2.2.2.2.2.2.2) (g.2.2.2.2.2.2.2.1) (g.2.2.1) ∧ RepS (dI .u32) w' (g.2.2.2.2.2.2.2.2.2) (g.2.2.2.2.2.2.2.2.1) (g.2.2.2.1) ∧ At w' (g.2.2.2.2.2.2.2.2.2) p_e [(.bool x_5.Num.Neg), (g.2.2.2.2.2.2.2.1), (.bool x_5.Den.Neg), (g.2.2.2.2.2.2.2.2.1)] ∧ Tb w' (g.2.2.2.2.2.2.2.2.2) 4 .u64 pow10) ?_ ?_
  ·
    apply go
    obtain ⟨x_k, q_l, q_j⟩ := bind_some q_j
    refine ev_call rfl rfl C8 (((law02_awake_ok n) _ _ tb  hp.imm _ q_l).mono ?_)
    rintro _ w_m ⟨rfl, hc⟩
    have hs := hp.stp hc
    replace hp := hp.ext hc
    replace a_d := a_d.step hs
    replace r_2 := r_2.step hs
    replace r_4 := r_4.step hs
    replace a_h := a_h.step hs
    replace r_7 := r_7.step hs
    replace r_9 := r_9.step hs
    replace tb := tb.step hs
    refine sel_of (fun hc => ?_) (fun hc => ?_)
    ·
      have q_j := cond_t q_j hc
      obtain rfl := Option.some.inj q_j
      exact ⟨(x_0.Num.Mag, x_0.Den.Mag, x_5.Num.Mag, x_5.Den.Mag, true, v_1, v_3, v_6, v_8, I_f), (.c rfl (.c rfl (.c rfl .n))), rfl, hp, r_2, r_4, a_d, r_7, r_9, a_h, tb⟩
    ·
      have q_j := cond_f q_j hc
      refine ev (rn_load rfl rfl (run_loadVarA T26 rfl a_d)) ?_
      refine ev (rn_load rfl rfl (run_loadVarA T26 rfl a_h)) ?_
      obtain ⟨A_n, m_o, m_p, rfl⟩ := r_2.isSl
      obtain ⟨A_q, m_r, m_s, rfl⟩ := r_4.isSl
      obtain ⟨A_t, m_u, m_v, rfl⟩ := r_7.isSl
      obtain ⟨A_w, m_x, m_y, rfl⟩ := r_9.isSl
      refine ev_litN (d := dRational) (xs := [(Rational.mk (Int_2.mk x_0.Num.Neg x_0.Num.Mag) (Int_2.mk x_0.Den.Neg x_0.Den.Mag)), (Rational.mk (Int_2.mk x_5.Num.Neg x_5.Num.Mag) (Int_2.mk x_5.Den.Neg x_5.Den.Mag))]) (cs := [(.bool x_0.Num.Neg), (.slice A_n m_o m_p), (.bool x_0.Den.Neg), (.slice A_q m_r m_s), (.bool x_5.Num.Neg), (.slice A_t m_u m_v), (.bool x_5.Den.Neg), (.slice A_w m_x m_y)]) hp rfl rfl Tryz.underlying56 T26 (by decide) (by kernel_rfl) rfl (Elems.cons (d := dRational) (xs := _) (dRational_m r_2 r_4) (Elems.cons (d := dRational) (xs := _) (dRational_m r_7 r_9) (Elems.nil _ _ _ _))) ?_
      intro v_z I_10 w_11 hp hs r_12
      replace a_d := a_d.step hs
      replace r_2 := r_2.step hs
      replace r_4 := r_4.step hs
      replace a_h := a_h.step hs
      replace r_7 := r_7.step hs
      replace r_9 := r_9.step hs
      replace tb := tb.step hs
      obtain ⟨x_13, q_14, q_j⟩ := bind_some q_j
      refine ev_call rfl rfl C9 (((law02_few_ok n) _ _  [(Rational.mk (Int_2.mk x_0.Num.Neg x_0.Num.Mag) (Int_2.mk x_0.Den.Neg x_0.Den.Mag)), (Rational.mk (Int_2.mk x_5.Num.Neg x_5.Num.Mag) (Int_2.mk x_5.Den.Neg x_5.Den.Mag))] v_z r_12 hp.imm _ q_14).mono ?_)
      rintro _ w_15 ⟨rfl, hc⟩
      have hs := hp.stp hc
      replace hp := hp.ext hc
      replace a_d := a_d.step hs
      replace r_2 := r_2.step hs
      replace r_4 := r_4.step hs
      replace a_h := a_h.step hs
      replace r_7 := r_7.step hs
      replace r_9 := r_9.step hs
      replace tb := tb.step hs
      obtain rfl := Option.some.inj q_j
      exact ⟨(x_0.Num.Mag, x_0.Den.Mag, x_5.Num.Mag, x_5.Den.Mag, (!x_13), (.slice A_n m_o m_p), (.slice A_q m_r m_s), (.slice A_t m_u m_v), (.slice A_w m_x m_y), I_10), (.c rfl (.c rfl (.c rfl .n))), rfl, hp, r_2, r_4, a_d, r_7, r_9, a_h, tb⟩
  ·
    rintro ⟨x_16, x_17, x_18, x_19, x_1a, v_1b, v_1c, v_1d, v_1e, I_1f⟩ w_1g ⟨hy, hp, r_1h, r_1i, a_d, r_1j, r_1k, a_h, tb⟩
    replace hy := hy.symm
    subst hy
    apply go
    refine sel_of (fun hc => ?_) (fun hc => ?_)
    ·
      have h := cond_t h hc
      apply go
      apply go
      obtain ⟨x_1l, q_1m, h⟩ := bind_some h
      refine ev_call rfl rfl C8 (((law02_awake_ok n) _ _ tb  hp.imm _ q_1m).mono ?_)
      rintro _ w_1n ⟨rfl, hc⟩
      have hs := hp.stp hc
      replace hp := hp.ext hc
      replace tb := tb.step hs
      apply go
      obtain rfl := Option.some.inj h
      exact ⟨rfl, hp.ch⟩
    ·
      have h := cond_f h hc
      apply go
      apply go
      apply go
      refine ev (rn_load rfl rfl (run_loadVarA T26 rfl a_d)) ?_
      obtain ⟨x_1o, q_1p, h⟩ := bind_some h
      refine ev_call rfl rfl C33 (((rational_Text_ok n) _ _ tb (Rational.mk (Int_2.mk x_0.Num.Neg x_16) (Int_2.mk x_0.Den.Neg x_17)) v_1b r_1h v_1c r_1i hp.imm _ q_1p).mono ?_)
      rintro _ w_1q ⟨rfl, hc⟩
      have hs := hp.stp hc
      replace hp := hp.ext hc
      replace a_d := a_d.step hs
      replace r_1h := r_1h.step hs
      replace r_1i := r_1i.step hs
      replace a_h := a_h.step hs
      replace r_1j := r_1j.step hs
      replace r_1k := r_1k.step hs
      replace tb := tb.step hs
      apply go
      apply go
      obtain ⟨⟨x_1r, x_1s⟩, q_1t, h⟩ := bind_some h
      refine ev_call rfl rfl C31 (((rational_Parse_ok n) _ _ tb x_1o hp.imm _ q_1t).mono ?_)
      rintro _ w_1u ⟨I_1v, v_1w, v_1x, hv, hq, r_1y, r_1z⟩
      replace hv := hv.symm
      subst hv
      have hs := hq.st
      have hp := hp.join0 hq
      replace a_d := a_d.step hs
      replace r_1h := r_1h.step hs
      replace r_1i := r_1i.step hs
      replace a_h := a_h.step hs
      replace r_1j := r_1j.step hs
      replace r_1k := r_1k.step hs
      replace tb := tb.step hs
      refine ev_alloc hp rfl T26 ?_
      intro g_20 w_21 hp hs
      replace a_d := a_d.step hs
      replace r_1h := r_1h.step hs
      replace r_1i := r_1i.step hs
      replace a_h := a_h.step hs
      replace r_1j := r_1j.step hs
      replace r_1k := r_1k.step hs
      replace r_1y := r_1y.step hs
      replace r_1z := r_1z.step hs
      replace tb := tb.step hs
      refine ev_storeA hp (i := 0) (off := 0) (vs := [(.bool x_1r.Num.Neg), v_1w, (.bool x_1r.Den.Neg), v_1x]) rfl rfl rfl rfl T26 rfl (Nat.le_of_ble_eq_true rfl) (ones_cons rfl (ones_cons r_1y.one (ones_cons rfl (ones_cons r_1z.one ones_nil)))) ?_
      intro w_22 hp hs
      replace a_d := a_d.step hs
      replace r_1h := r_1h.step hs
      replace r_1i := r_1i.step hs
      replace a_h := a_h.step hs
      replace r_1j := r_1j.step hs
      replace r_1k := r_1k.step hs
      replace r_1y := r_1y.step hs
      replace r_1z := r_1z.step hs
      replace tb := tb.step hs
      obtain ⟨y_23, q_24, h⟩ := bind_some h
      refine W.cut (γ := (Bool × (Nat → Prop))) (fun g => [(4, (.bool (g.1)))]) (fun g w' => y_23 = (g.1) ∧ Hp ⟨w0, I0, []⟩ (g.2) [] w' ∧ Tb w' (g.2) 4 .u64 pow10) ?_ ?_
      ·
        have hs := hp.stp (Ch.drew [] w_22)
        have hp := hp.drew
        replace a_d := a_d.step hs
        replace r_1h := r_1h.step hs
        replace r_1i := r_1i.step hs
        replace a_h := a_h.step hs
        replace r_1j := r_1j.step hs
        replace r_1k := r_1k.step hs
        replace r_1y := r_1y.step hs
        replace r_1z := r_1z.step hs
        replace tb := tb.step hs
        refine W.heldT [(0, true), (1, true), (2, false), (3, true), (4, true), (5, true), (6, true), (7, true), (8, true), (9, true), (10, true), (11, false), (12, false), (13, true), (14, true), (15, true), (16, true), (19, true), (20, true), (17, false), (18, true), (21, false), (22, true), (23, true), (24, true), (25, true)] (fun x => Stp I_1v w_22.drew I_1v x ∧ OwnK [(g_20, [(.bool x_1r.Num.Neg), v_1w, (.bool x_1r.Den.Neg), v_1x], 26)] x) MX (by kernel_rfl) ⟨Stp.refl _ _, (OwnK.cons (hp.own 0 _ _ _ rfl).1 OwnK.nil)⟩ ?_
        have hz := Stp.refl I_1v w_22.drew
        intro ops hops
        have e0 : nthO ops 0 = some _ := (hops 0).trans rfl
        have e1 : nthO ops 1 = some _ := (hops 1).trans rfl
        have e2 : nthO ops 2 = some _ := (hops 2).trans rfl
        have e3 : nthO ops 3 = some _ := (hops 3).trans rfl
        have e4 : nthO ops 4 = some _ := (hops 4).trans rfl
        have e5 : nthO ops 5 = some _ := (hops 5).trans rfl
        have e6 : nthO ops 6 = some _ := (hops 6).trans rfl
        have e7 : nthO ops 7 = some _ := (hops 7).trans rfl
        have e8 : nthO ops 8 = some _ := (hops 8).trans rfl
        have e9 : nthO ops 9 = some _ := (hops 9).trans rfl
        have e10 : nthO ops 10 = some _ := (hops 10).trans rfl
        have e11 : nthO ops 11 = some _ := (hops 11).trans rfl
        have e12 : nthO ops 12 = some _ := (hops 12).trans rfl
        have e13 : nthO ops 13 = some _ := (hops 13).trans rfl
        have e14 : nthO ops 14 = some _ := (hops 14).trans rfl
        have e15 : nthO ops 15 = some _ := (hops 15).trans rfl
        have e16 : nthO ops 16 = some _ := (hops 16).trans rfl
        have e17 : nthO ops 17 = some _ := (hops 17).trans rfl
        have e18 : nthO ops 18 = some _ := (hops 18).trans rfl
        have e19 : nthO ops 19 = some _ := (hops 19).trans rfl
        have e20 : nthO ops 20 = some _ := (hops 20).trans rfl
        have e21 : nthO ops 21 = some _ := (hops 21).trans rfl
        have e22 : nthO ops 22 = some _ := (hops 22).trans rfl
        have e23 : nthO ops 23 = some _ := (hops 23).trans rfl
        have e24 : nthO ops 24 = some _ := (hops 24).trans rfl
        have e25 : nthO ops 25 = some _ := (hops 25).trans rfl
        clear hops
        refine vch_q e0 rfl ?_
        refine vch_q e1 rfl ?_
        refine evh (fun w' hw => rn_load rfl rfl (run_loadVarA T26 rfl (a_d.step hw.1))) ?_
        refine vch_l e2 rfl ?_
        obtain ⟨x_25, q_26, q_24⟩ := bind_some q_24
        refine ev_call rfl rfl C34 (((ref02_Text_ok n) _ _  (Rational.mk (Int_2.mk x_0.Num.Neg x_16) (Int_2.mk x_0.Den.Neg x_17)) v_1b r_1h v_1c r_1i hp.imm _ q_26).mono ?_)
        rintro _ w_27 ⟨rfl, hc⟩
        have hs := hp.stp hc
        replace hp := hp.ext hc
        replace hz := hz.trans hs
        replace a_d := a_d.step hs
        replace r_1h := r_1h.step hs
        replace r_1i := r_1i.step hs
        replace a_h := a_h.step hs
        replace r_1j := r_1j.step hs
        replace r_1k := r_1k.step hs
        replace r_1y := r_1y.step hs
        replace r_1z := r_1z.step hs
        replace tb := tb.step hs
        refine ⟨fun x => Stp I_1v w_27 I_1v x ∧ OwnK [(g_20, [(.bool x_1r.Num.Neg), v_1w, (.bool x_1r.Den.Neg), v_1x], 26)] x, ⟨Stp.refl _ _, (OwnK.cons (hp.own 0 _ _ _ rfl).1 OwnK.nil)⟩, fun x hx => ⟨hz.held hx.1, hx.2⟩, ?_⟩
        have hz := Stp.refl I_1v w_27
        refine vch_q e3 rfl ?_
        refine vch_q e4 rfl ?_
        rcases Bool.eq_false_or_eq_true (x_1o.toList == x_25.toList) with hc | hc
        ·
          have q_24 := cond_t q_24 hc
          refine vch_qt e5 rfl e4 rfl rfl hc ?_
          refine vch_qt e6 rfl e4 rfl rfl rfl ?_
          refine vch_q e7 rfl ?_
          refine vch_q e8 rfl ?_
          rcases Bool.eq_false_or_eq_true (x_1s == 0) with hc | hc
          ·
            have q_24 := cond_t q_24 hc
            refine vch_qt e9 rfl e8 rfl rfl hc ?_
            refine evh (fun w' hw => rn_load rfl rfl (run_loadVarA T26 rfl (hw.2.at_ (i := 0) rfl))) ?_
            refine vch_qt e10 rfl e8 rfl rfl rfl ?_
            refine evh (fun w' hw => rn_load rfl rfl (run_loadVarA T26 rfl (a_d.step hw.1))) ?_
            refine vch_lt e11 rfl e8 rfl rfl rfl ?_
            obtain ⟨x_28, q_29, q_24⟩ := bind_some q_24
            refine ev_call rfl rfl C35 (((ref02_Norm_ok n) _ _  (Rational.mk (Int_2.mk x_0.Num.Neg x_16) (Int_2.mk x_0.Den.Neg x_17)) v_1b r_1h v_1c r_1i hp.imm _ q_29).mono ?_)
            rintro _ w_2a ⟨I_2b, v_2c, v_2d, hv, hq, r_2e, r_2f⟩
            replace hv := hv.symm
            subst hv
            have hs := hq.st
            have hp := hp.join0 hq
            replace hz := hz.trans hs
            replace a_d := a_d.step hs
            replace r_1h := r_1h.step hs
            replace r_1i := r_1i.step hs
            replace a_h := a_h.step hs
            replace r_1j := r_1j.step hs
            replace r_1k := r_1k.step hs
            replace r_1y := r_1y.step hs
            replace r_1z := r_1z.step hs
            replace tb := tb.step hs
            refine ⟨fun x => Stp I_2b w_2a I_2b x ∧ OwnK [(g_20, [(.bool x_1r.Num.Neg), v_1w, (.bool x_1r.Den.Neg), v_1x], 26)] x, ⟨Stp.refl _ _, (OwnK.cons (hp.own 0 _ _ _ rfl).1 OwnK.nil)⟩, fun x hx => ⟨hz.held hx.1, hx.2⟩, ?_⟩
            have hz := Stp.refl I_2b w_2a
            refine vch_lt e12 rfl e8 rfl rfl rfl ?_
            obtain ⟨x_2g, q_2h, q_24⟩ := bind_some q_24
            refine ev_call rfl rfl C14 (((base_Rational_ok n) _ _  (Rational.mk (Int_2.mk x_1r.Num.Neg x_1r.Num.Mag) (Int_2.mk x_1r.Den.Neg x_1r.Den.Mag)) v_1w r_1y v_1x r_1z x_28 v_2c r_2e v_2d r_2f hp.imm _ q_2h).mono ?_)
            rintro _ w_2i ⟨rfl, hc⟩
            have hs := hp.stp hc
            replace hp := hp.ext hc
            replace hz := hz.trans hs
            replace a_d := a_d.step hs
            replace r_1h := r_1h.step hs
            replace r_1i := r_1i.step hs
            replace a_h := a_h.step hs
            replace r_1j := r_1j.step hs
            replace r_1k := r_1k.step hs
            replace r_1y := r_1y.step hs
            replace r_1z := r_1z.step hs
            replace tb := tb.step hs
            refine ⟨fun x => Stp I_2b w_2i I_2b x ∧ OwnK [(g_20, [(.bool x_1r.Num.Neg), v_1w, (.bool x_1r.Den.Neg), v_1x], 26)] x, ⟨Stp.refl _ _, (OwnK.cons (hp.own 0 _ _ _ rfl).1 OwnK.nil)⟩, fun x hx => ⟨hz.held hx.1, hx.2⟩, ?_⟩
            have hz := Stp.refl I_2b w_2i
            refine vch_q e13 rfl ?_
            refine vch_q e14 rfl ?_
            rcases Bool.eq_false_or_eq_true x_2g with hc | hc
            ·
              have q_24 := cond_t q_24 hc
              refine vch_qt e15 rfl e14 rfl rfl hc ?_
              refine vch_qt e16 rfl e14 rfl rfl rfl ?_
              refine evh (fun w' hw => rn_load rfl rfl (run_loadVarA T26 rfl (a_h.step hw.1))) ?_
              refine vch_qt e19 rfl e14 rfl rfl rfl ?_
              refine evh (fun w' hw => rn_load rfl rfl (run_loadVarA T26 rfl (a_d.step hw.1))) ?_
              refine vch_qt e20 rfl e14 rfl rfl rfl ?_
              refine evh (fun w' hw => rn_load rfl rfl (run_loadVarA T26 rfl (a_h.step hw.1))) ?_
              refine vch_lt e17 rfl e14 rfl rfl rfl ?_
              obtain ⟨x_2j, q_2k, q_24⟩ := bind_some q_24
              refine ev_call rfl rfl C33 (((rational_Text_ok n) _ _ tb (Rational.mk (Int_2.mk x_5.Num.Neg x_18) (Int_2.mk x_5.Den.Neg x_19)) v_1d r_1j v_1e r_1k hp.imm _ q_2k).mono ?_)
              rintro _ w_2l ⟨rfl, hc⟩
              have hs := hp.stp hc
              replace hp := hp.ext hc
              replace hz := hz.trans hs
              replace r_1h := r_1h.step hs
              replace r_1i := r_1i.step hs
              replace r_1j := r_1j.step hs
              replace r_1k := r_1k.step hs
              replace r_1y := r_1y.step hs
              replace r_1z := r_1z.step hs
              replace tb := tb.step hs
              refine ⟨fun x => Stp I_2b w_2l I_2b x ∧ OwnK [(g_20, [(.bool x_1r.Num.Neg), v_1w, (.bool x_1r.Den.Neg), v_1x], 26)] x, ⟨Stp.refl _ _, (OwnK.cons (hp.own 0 _ _ _ rfl).1 OwnK.nil)⟩, fun x hx => ⟨hz.held hx.1, hx.2⟩, ?_⟩
              have hz := Stp.refl I_2b w_2l
              refine vch_qt e18 rfl e14 rfl rfl rfl ?_
              refine vch_lt e21 rfl e14 rfl rfl rfl ?_
              obtain ⟨x_2m, q_2n, q_24⟩ := bind_some q_24
              refine ev_call rfl rfl C15 (((rational_Cmp_ok n) _ _  (Rational.mk (Int_2.mk x_0.Num.Neg x_16) (Int_2.mk x_0.Den.Neg x_17)) v_1b r_1h v_1c r_1i (Rational.mk (Int_2.mk x_5.Num.Neg x_18) (Int_2.mk x_5.Den.Neg x_19)) v_1d r_1j v_1e r_1k hp.imm _ q_2n).mono ?_)
              rintro _ w_2o ⟨rfl, hc⟩
              have hs := hp.stp hc
              replace hp := hp.ext hc
              replace hz := hz.trans hs
              replace r_1y := r_1y.step hs
              replace r_1z := r_1z.step hs
              replace tb := tb.step hs
              refine ⟨fun x => Stp I_2b w_2o I_2b x ∧ OwnK [(g_20, [(.bool x_1r.Num.Neg), v_1w, (.bool x_1r.Den.Neg), v_1x], 26)] x, ⟨Stp.refl _ _, (OwnK.cons (hp.own 0 _ _ _ rfl).1 OwnK.nil)⟩, fun x hx => ⟨hz.held hx.1, hx.2⟩, ?_⟩
              have hz := Stp.refl I_2b w_2o
              refine vch_qt e22 rfl e14 rfl rfl rfl ?_
              refine vch_qt e23 rfl e14 rfl rfl rfl ?_
              refine evh0 (rn_eqB rfl rfl rfl Tryz.underlying4) ?_
              refine vch_q e24 rfl ?_
              refine vch_q e25 rfl ?_
              refine vch_end ?_
              obtain rfl := Option.some.inj q_24
              have hp := hp.sel [] (by decide)
              exact ⟨(((x_1o.toList == x_2j.toList) == (x_2m == 0)), I_2b), (.c rfl .n), rfl, hp, tb⟩
            ·
              have q_24 := cond_f q_24 hc
              refine vch_qf e15 rfl e14 rfl rfl hc ?_
              refine vch_qf e16 rfl e14 rfl rfl rfl ?_
              refine vch_qf e19 rfl e14 rfl rfl rfl ?_
              refine vch_qf e20 rfl e14 rfl rfl rfl ?_
              refine vch_lf e17 rfl e14 rfl rfl rfl ?_
              refine ⟨fun x => Stp I_2b w_2i I_2b x ∧ OwnK [(g_20, [(.bool x_1r.Num.Neg), v_1w, (.bool x_1r.Den.Neg), v_1x], 26)] x, ⟨Stp.refl _ _, (OwnK.cons (hp.own 0 _ _ _ rfl).1 OwnK.nil)⟩, fun x hx => ⟨hz.held hx.1, hx.2⟩, ?_⟩
              have hz := Stp.refl I_2b w_2i
              refine vch_qf e18 rfl e14 rfl rfl rfl ?_
              refine vch_lf e21 rfl e14 rfl rfl rfl ?_
              refine ⟨fun x => Stp I_2b w_2i I_2b x ∧ OwnK [(g_20, [(.bool x_1r.Num.Neg), v_1w, (.bool x_1r.Den.Neg), v_1x], 26)] x, ⟨Stp.refl _ _, (OwnK.cons (hp.own 0 _ _ _ rfl).1 OwnK.nil)⟩, fun x hx => ⟨hz.held hx.1, hx.2⟩, ?_⟩
              have hz := Stp.refl I_2b w_2i
              refine vch_qf e22 rfl e14 rfl rfl rfl ?_
              refine vch_qf e23 rfl e14 rfl rfl rfl ?_
              refine vch_q e24 rfl ?_
              refine vch_q e25 rfl ?_
              refine vch_end ?_
              obtain rfl := Option.some.inj q_24
              have hp := hp.sel [] (by decide)
              exact ⟨(false, I_2b), (.c rfl .n), rfl, hp, tb⟩
          ·
            have q_24 := cond_f q_24 hc
            refine vch_qf e9 rfl e8 rfl rfl hc ?_
            refine vch_qf e10 rfl e8 rfl rfl rfl ?_
            refine vch_lf e11 rfl e8 rfl rfl rfl ?_
            refine ⟨fun x => Stp I_1v w_27 I_1v x ∧ OwnK [(g_20, [(.bool x_1r.Num.Neg), v_1w, (.bool x_1r.Den.Neg), v_1x], 26)] x, ⟨Stp.refl _ _, (OwnK.cons (hp.own 0 _ _ _ rfl).1 OwnK.nil)⟩, fun x hx => ⟨hz.held hx.1, hx.2⟩, ?_⟩
            have hz := Stp.refl I_1v w_27
            refine vch_lf e12 rfl e8 rfl rfl rfl ?_
            refine ⟨fun x => Stp I_1v w_27 I_1v x ∧ OwnK [(g_20, [(.bool x_1r.Num.Neg), v_1w, (.bool x_1r.Den.Neg), v_1x], 26)] x, ⟨Stp.refl _ _, (OwnK.cons (hp.own 0 _ _ _ rfl).1 OwnK.nil)⟩, fun x hx => ⟨hz.held hx.1, hx.2⟩, ?_⟩
            have hz := Stp.refl I_1v w_27
            refine vch_q e13 rfl ?_
            refine vch_q e14 rfl ?_
            refine vch_qf e15 rfl e14 rfl rfl rfl ?_
            refine vch_qf e16 rfl e14 rfl rfl rfl ?_
            refine vch_qf e19 rfl e14 rfl rfl rfl ?_
            refine vch_qf e20 rfl e14 rfl rfl rfl ?_
            refine vch_lf e17 rfl e14 rfl rfl rfl ?_
            refine ⟨fun x => Stp I_1v w_27 I_1v x ∧ OwnK [(g_20, [(.bool x_1r.Num.Neg), v_1w, (.bool x_1r.Den.Neg), v_1x], 26)] x, ⟨Stp.refl _ _, (OwnK.cons (hp.own 0 _ _ _ rfl).1 OwnK.nil)⟩, fun x hx => ⟨hz.held hx.1, hx.2⟩, ?_⟩
            have hz := Stp.refl I_1v w_27
            refine vch_qf e18 rfl e14 rfl rfl rfl ?_
            refine vch_lf e21 rfl e14 rfl rfl rfl ?_
            refine ⟨fun x => Stp I_1v w_27 I_1v x ∧ OwnK [(g_20, [(.bool x_1r.Num.Neg), v_1w, (.bool x_1r.Den.Neg), v_1x], 26)] x, ⟨Stp.refl _ _, (OwnK.cons (hp.own 0 _ _ _ rfl).1 OwnK.nil)⟩, fun x hx => ⟨hz.held hx.1, hx.2⟩, ?_⟩
            have hz := Stp.refl I_1v w_27
            refine vch_qf e22 rfl e14 rfl rfl rfl ?_
            refine vch_qf e23 rfl e14 rfl rfl rfl ?_
            refine vch_q e24 rfl ?_
            refine vch_q e25 rfl ?_
            refine vch_end ?_
            obtain rfl := Option.some.inj q_24
            have hp := hp.sel [] (by decide)
            exact ⟨(false, I_1v), (.c rfl .n), rfl, hp, tb⟩
        ·
          have q_24 := cond_f q_24 hc
          refine vch_qf e5 rfl e4 rfl rfl hc ?_
          refine vch_qf e6 rfl e4 rfl rfl rfl ?_
          refine vch_q e7 rfl ?_
          refine vch_q e8 rfl ?_
          refine vch_qf e9 rfl e8 rfl rfl rfl ?_
          refine vch_qf e10 rfl e8 rfl rfl rfl ?_
          refine vch_lf e11 rfl e8 rfl rfl rfl ?_
          refine ⟨fun x => Stp I_1v w_27 I_1v x ∧ OwnK [(g_20, [(.bool x_1r.Num.Neg), v_1w, (.bool x_1r.Den.Neg), v_1x], 26)] x, ⟨Stp.refl _ _, (OwnK.cons (hp.own 0 _ _ _ rfl).1 OwnK.nil)⟩, fun x hx => ⟨hz.held hx.1, hx.2⟩, ?_⟩
          have hz := Stp.refl I_1v w_27
          refine vch_lf e12 rfl e8 rfl rfl rfl ?_
          refine ⟨fun x => Stp I_1v w_27 I_1v x ∧ OwnK [(g_20, [(.bool x_1r.Num.Neg), v_1w, (.bool x_1r.Den.Neg), v_1x], 26)] x, ⟨Stp.refl _ _, (OwnK.cons (hp.own 0 _ _ _ rfl).1 OwnK.nil)⟩, fun x hx => ⟨hz.held hx.1, hx.2⟩, ?_⟩
          have hz := Stp.refl I_1v w_27
          refine vch_q e13 rfl ?_
          refine vch_q e14 rfl ?_
          refine vch_qf e15 rfl e14 rfl rfl rfl ?_
          refine vch_qf e16 rfl e14 rfl rfl rfl ?_
          refine vch_qf e19 rfl e14 rfl rfl rfl ?_
          refine vch_qf e20 rfl e14 rfl rfl rfl ?_
          refine vch_lf e17 rfl e14 rfl rfl rfl ?_
          refine ⟨fun x => Stp I_1v w_27 I_1v x ∧ OwnK [(g_20, [(.bool x_1r.Num.Neg), v_1w, (.bool x_1r.Den.Neg), v_1x], 26)] x, ⟨Stp.refl _ _, (OwnK.cons (hp.own 0 _ _ _ rfl).1 OwnK.nil)⟩, fun x hx => ⟨hz.held hx.1, hx.2⟩, ?_⟩
          have hz := Stp.refl I_1v w_27
          refine vch_qf e18 rfl e14 rfl rfl rfl ?_
          refine vch_lf e21 rfl e14 rfl rfl rfl ?_
          refine ⟨fun x => Stp I_1v w_27 I_1v x ∧ OwnK [(g_20, [(.bool x_1r.Num.Neg), v_1w, (.bool x_1r.Den.Neg), v_1x], 26)] x, ⟨Stp.refl _ _, (OwnK.cons (hp.own 0 _ _ _ rfl).1 OwnK.nil)⟩, fun x hx => ⟨hz.held hx.1, hx.2⟩, ?_⟩
          have hz := Stp.refl I_1v w_27
          refine vch_qf e22 rfl e14 rfl rfl rfl ?_
          refine vch_qf e23 rfl e14 rfl rfl rfl ?_
          refine vch_q e24 rfl ?_
          refine vch_q e25 rfl ?_
          refine vch_end ?_
          obtain rfl := Option.some.inj q_24
          have hp := hp.sel [] (by decide)
          exact ⟨(false, I_1v), (.c rfl .n), rfl, hp, tb⟩
      ·
        rintro ⟨x_2p, I_2q⟩ w_2r ⟨hy, hp, tb⟩
        replace hy := hy.symm
        subst hy
        apply go
        obtain rfl := Option.some.inj h
        exact ⟨rfl, hp.ch⟩

end Go.Proofs.YtepadjfmcbjkmaaGreatDoor
